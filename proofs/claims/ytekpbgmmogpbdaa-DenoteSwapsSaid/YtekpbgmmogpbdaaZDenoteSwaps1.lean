/- Two rules of unlike calls, or machines, next to one another can be swapped (any policy, any record, any place). -/
import Derived.OpenShut
import Derived.LoopTactic
import Derived.StillTailTactics
import Derived.ProofKit
import Derived.ChangeOld
import Derived.DataReads
import Derived.Test.YtekpbgmmogpbdaaRows
import Derived.ShutString
import Derived.SizedLaws
import Derived.Test.YtekpbgmmogpbdaaZDenoteSwaps0
namespace Go.Proofs.Ytekpbgmmogpbdaa.M
open Go.RowKit Go.Proofs.Ytekpbgmmogpbdaa.H Go.Proofs.YtekpbgmmogpbdaaW.PrintWords Go.Proofs.YtekpbgmmogpbdaaW.PrintLast Go.Proofs.YtekpbgmmogpbdaaW.PrintMore
attribute [local go_sem] max2_int min2_int max_two min_two max_three min_three max_four min_four
set_option linter.unusedVariables false
set_option linter.unusedSimpArgs false
theorem k61_mk (w : World) (x : S61)  : k61.K w x [.int .i64 x.f0, .int .i64 x.f1, .int .u64 x.f2, .int .u64 x.f3] := ⟨[.int .i64 x.f0], [.int .i64 x.f1, .int .u64 x.f2, .int .u64 x.f3], rfl, rfl, ⟨[.int .i64 x.f1], [.int .u64 x.f2, .int .u64 x.f3], rfl, rfl, ⟨[.int .u64 x.f2], [.int .u64 x.f3], rfl, rfl, rfl⟩⟩⟩
end Go.Proofs.Ytekpbgmmogpbdaa.M
namespace Go.Proofs.Ytekpbgmmogpbdaa.P
open Go.RowKit Go.Proofs.Ytekpbgmmogpbdaa.H Go.Proofs.YtekpbgmmogpbdaaW.PrintWords Go.Proofs.YtekpbgmmogpbdaaW.PrintLast Go.Proofs.YtekpbgmmogpbdaaW.PrintMore
attribute [local go_sem] max2_int min2_int max_two min_two max_three min_three max_four min_four
set_option linter.unusedVariables false
set_option linter.unusedSimpArgs false
theorem k61_mk (w : World) (x : S61)  : k61.K w x [.int .i64 x.f0, .int .i64 x.f1, .int .u64 x.f2, .int .u64 x.f3] := ⟨[.int .i64 x.f0], [.int .i64 x.f1, .int .u64 x.f2, .int .u64 x.f3], rfl, rfl, ⟨[.int .i64 x.f1], [.int .u64 x.f2, .int .u64 x.f3], rfl, rfl, ⟨[.int .u64 x.f2], [.int .u64 x.f3], rfl, rfl, rfl⟩⟩⟩
theorem k40_openF {W : World} {ok : Nat → Prop} {x : S40} {cs : List Value} (h : Kd.FK k40 W ok x cs) : ∃ A2 c2, cs = [.int .u32 x.f0, .int .u32 x.f1, .slice A2 x.f2.length c2, .int .u32 x.f3] ∧ x.f2.length ≤ c2 ∧ Kd.F k61 W ok A2 x.f2.length x.f2 := by
  obtain ⟨A2, c2, rfl, l2, _⟩ := k40_open (Kd.FK_now h)
  exact ⟨A2, c2, rfl, l2, (fun W' hW => by obtain ⟨A2_, c2_, he, l2_, g2_⟩ := k40_open (h W' hW); injection (Option.some.inj (show some (Value.slice A2 x.f2.length c2) = some (Value.slice A2_ x.f2.length c2_) from congrArg (fun l => l[2]?) he)) with ha_ _ _; rw [ha_]; exact g2_)⟩
end Go.Proofs.Ytekpbgmmogpbdaa.P
namespace Go.Proofs.Ytekpbgmmogpbdaa.D
open Go.RowKit Go.Proofs.Ytekpbgmmogpbdaa.H Go.Proofs.YtekpbgmmogpbdaaW.PrintWords Go.Proofs.YtekpbgmmogpbdaaW.PrintLast Go.Proofs.YtekpbgmmogpbdaaW.PrintMore
open Go.Proofs.Ytekpbgmmogpbdaa.P (errW errW_none errW_some info40 info61 S61 z61 k61 k61_open k61_mk k61_mkM rd_T61 at_T61 S40 z40 k40 k40_open k40_mk k40_mkM k40_openF k40_mkF rd_T40 at_T40)
attribute [local go_sem] max2_int min2_int max_two min_two max_three min_three max_four min_four
set_option linter.unusedVariables false
set_option linter.unusedSimpArgs false
mutual
noncomputable def hurdlelaw11_DenoteSwaps.j0 : Nat → Int → Bool → List (S40) → Int → Int → Int → Int → Int → Int → Int → Int → Int → Int → Option (Bool)
  | 0, _, _, _, _, _, _, _, _, _, _, _, _, _ => none
  | k + 1, x2, x21, x187000, x187001, x188000, x188001, x188002, x188003, x188004, x188005, x188006, x188007, x188008 => if x21 = true then ((hurdlelaw11_knows.f).bind fun t189 => (some t189)) else (if (wrap64 ((x187000.length : Int) - 1)) = 0 then (none) else (if ([] : List (S40)).length + x187000.length < 3518437208883 then ((some (([] : List (S40)) ++ x187000 : List (S40))).bind fun y191 => (if 0 ≤ (wrap64 ((Int.tmod (wrap64 (x2)) (wrap64 ((x187000.length : Int) - 1))) + 1)) then (if (wrap64 ((Int.tmod (wrap64 (x2)) (wrap64 ((x187000.length : Int) - 1))) + 1)) < (x187000.length : Int) then (if 0 ≤ (Int.tmod (wrap64 (x2)) (wrap64 ((x187000.length : Int) - 1))) then (if (Int.tmod (wrap64 (x2)) (wrap64 ((x187000.length : Int) - 1))) < (y191.length : Int) then (if (Int.tmod (wrap64 (x2)) (wrap64 ((x187000.length : Int) - 1))) < (x187000.length : Int) then (if (wrap64 ((Int.tmod (wrap64 (x2)) (wrap64 ((x187000.length : Int) - 1))) + 1)) < (y191.length : Int) then ((some ((y191.set ((Int.tmod (wrap64 (x2)) (wrap64 ((x187000.length : Int) - 1))) : Int).toNat (⟨(rd_T40 x187000 (wrap64 ((Int.tmod (wrap64 (x2)) (wrap64 ((x187000.length : Int) - 1))) + 1))).f0, (rd_T40 x187000 (wrap64 ((Int.tmod (wrap64 (x2)) (wrap64 ((x187000.length : Int) - 1))) + 1))).f1, (rd_T40 x187000 (wrap64 ((Int.tmod (wrap64 (x2)) (wrap64 ((x187000.length : Int) - 1))) + 1))).f2, (rd_T40 x187000 (wrap64 ((Int.tmod (wrap64 (x2)) (wrap64 ((x187000.length : Int) - 1))) + 1))).f3⟩ : S40)).set ((wrap64 ((Int.tmod (wrap64 (x2)) (wrap64 ((x187000.length : Int) - 1))) + 1)) : Int).toNat (⟨(rd_T40 x187000 (Int.tmod (wrap64 (x2)) (wrap64 ((x187000.length : Int) - 1)))).f0, (rd_T40 x187000 (Int.tmod (wrap64 (x2)) (wrap64 ((x187000.length : Int) - 1)))).f1, (rd_T40 x187000 (Int.tmod (wrap64 (x2)) (wrap64 ((x187000.length : Int) - 1)))).f2, (rd_T40 x187000 (Int.tmod (wrap64 (x2)) (wrap64 ((x187000.length : Int) - 1)))).f3⟩ : S40) : List (S40))).bind fun y197 => (if ((rd_T40 y197 (Int.tmod (wrap64 (x2)) (wrap64 ((x187000.length : Int) - 1)))).f0) = ((rd_T40 y197 (wrap64 ((Int.tmod (wrap64 (x2)) (wrap64 ((x187000.length : Int) - 1))) + 1))).f0) then (hurdlelaw11_DenoteSwaps.j1 k (((rd_T40 y197 (Int.tmod (wrap64 (x2)) (wrap64 ((x187000.length : Int) - 1)))).f1) == ((rd_T40 y197 (wrap64 ((Int.tmod (wrap64 (x2)) (wrap64 ((x187000.length : Int) - 1))) + 1))).f1)) x187000 x187001 x188000 x188001 x188002 x188003 x188004 x188005 x188006 x188007 x188008 y197 x187001) else (hurdlelaw11_DenoteSwaps.j1 k false x187000 x187001 x188000 x188001 x188002 x188003 x188004 x188005 x188006 x188007 x188008 y197 x187001))) else (none)) else (none)) else (none)) else (none)) else (none)) else (none))) else (none)))
noncomputable def hurdlelaw11_DenoteSwaps.j1 : Nat → Bool → List (S40) → Int → Int → Int → Int → Int → Int → Int → Int → Int → Int → List (S40) → Int → Option (Bool)
  | 0, _, _, _, _, _, _, _, _, _, _, _, _, _, _ => none
  | k + 1, x88, x187000, x187001, x188000, x188001, x188002, x188003, x188004, x188005, x188006, x188007, x188008, x191000, x191001 => if x88 = true then ((hurdlelaw11_knows.f).bind fun t202 => (some t202)) else ((denote_Judge.f x187000 x187001 x188000 x188001 x188002 x188003 x188004 x188005 x188006 x188007 x188008).bind fun bt203 => ((denote_Judge.f x191000 x191001 x188000 x188001 x188002 x188003 x188004 x188005 x188006 x188007 x188008).bind fun bt205 => (if bt203.1 = bt205.1 then (if bt203.2 = 0 then (if bt205.2 = 0 then ((hurdlelaw11_knows.f).bind fun t207 => (some t207)) else (some false)) else (some false)) else (some false))))
end
noncomputable def hurdlelaw11_DenoteSwaps.f (k : Nat) (l0_0 : List (S40)) (a0_1 : Int) (a1_0 : Int) (a1_1 : Int) (a1_2 : Int) (a1_3 : Int) (a1_4 : Int) (a1_5 : Int) (a1_6 : Int) (a1_7 : Int) (a1_8 : Int) (a2 : Int) : Option (Bool) := (hurdleref10_Right.f l0_0 a0_1).bind fun t188 => (if t188 = true then (hurdlelaw11_DenoteSwaps.j0 k a2 (decide ((l0_0.length : Int) < 2)) l0_0 a0_1 a1_0 a1_1 a1_2 a1_3 a1_4 a1_5 a1_6 a1_7 a1_8) else (hurdlelaw11_DenoteSwaps.j0 k a2 true l0_0 a0_1 a1_0 a1_1 a1_2 a1_3 a1_4 a1_5 a1_6 a1_7 a1_8))
def hurdlelaw11_DenoteSwaps.T6 : Bool × List (List Nat × List Nat) := (true, [([], []), ([0], [0]), ([], []), ([], []), ([3], [3]), ([], []), ([5], [5]), ([4, 6], [4, 6]), ([7], [7]), ([1, 2, 0, 1, 2, 3, 4, 5, 6, 7, 8], [1, 2]), ([9, 8, 0, 1, 2, 3, 4, 5, 6, 7, 8], [8, 9])])
def hurdlelaw11_DenoteSwaps.B6 : List Nat := [0, 1, 0, 0, 8, 0, 32, 120, 248, 511, 1023]
theorem hurdlelaw11_DenoteSwaps.tab6 : rtab .any (opsOf Try.f12 6) = hurdlelaw11_DenoteSwaps.T6 := by kernel_rfl
theorem hurdlelaw11_DenoteSwaps.bits6 : waitsOk hurdlelaw11_DenoteSwaps.T6.2 hurdlelaw11_DenoteSwaps.B6 = true := by kernel_rfl
def hurdlelaw11_DenoteSwaps.T7 : Bool × List (List Nat × List Nat) := (true, [([], []), ([0], [0]), ([], []), ([2], [2]), ([], []), ([4], [4]), ([], []), ([5, 6], [5, 6]), ([7], [7]), ([1, 3, 0, 1, 2, 3, 4, 5, 6, 7, 8], [1, 3]), ([9, 8, 0, 1, 2, 3, 4, 5, 6, 7, 8], [8, 9])])
def hurdlelaw11_DenoteSwaps.B7 : List Nat := [0, 1, 0, 4, 0, 16, 0, 112, 240, 511, 1023]
theorem hurdlelaw11_DenoteSwaps.tab7 : rtab .any (opsOf Try.f12 7) = hurdlelaw11_DenoteSwaps.T7 := by kernel_rfl
theorem hurdlelaw11_DenoteSwaps.bits7 : waitsOk hurdlelaw11_DenoteSwaps.T7.2 hurdlelaw11_DenoteSwaps.B7 = true := by kernel_rfl
def hurdlelaw11_DenoteSwaps.T8 : Bool × List (List Nat × List Nat) := (true, [([], []), ([0], [0]), ([], []), ([1, 2], [1, 2]), ([3], [3]), ([4], [4]), ([], []), ([6], [6]), ([], []), ([8], [8]), ([7, 9], [7, 9]), ([10], [10]), ([11], [11]), ([5, 12], [5, 12]), ([13], [13]), ([14], [14]), ([15, 14], [14, 15]), ([14], [14]), ([16, 17, 14], [14, 16, 17]), ([18, 14], [14, 18]), ([19, 14], [14, 19]), ([14], [14]), ([21, 14], [14, 21]), ([14], [14]), ([23, 14], [14, 23]), ([22, 24, 14], [14, 22, 24]), ([25, 14], [14, 25]), ([26, 14], [14, 26]), ([20, 27, 14], [14, 20, 27]), ([14, 28], [14, 28])])
def hurdlelaw11_DenoteSwaps.B8 : List Nat := [0, 1, 0, 7, 15, 31, 0, 64, 0, 256, 960, 1984, 4032, 8191, 16383, 32767, 65535, 32767, 262143, 524287, 1048575, 32767, 2129919, 32767, 8421375, 31490047, 65044479, 132153343, 268435455, 536870911]
theorem hurdlelaw11_DenoteSwaps.tab8 : rtab .any (opsOf Try.f12 8) = hurdlelaw11_DenoteSwaps.T8 := by kernel_rfl
theorem hurdlelaw11_DenoteSwaps.bits8 : waitsOk hurdlelaw11_DenoteSwaps.T8.2 hurdlelaw11_DenoteSwaps.B8 = true := by kernel_rfl
set_option maxHeartbeats 8000000 in
set_option maxRecDepth 100000 in
theorem hurdlelaw11_DenoteSwaps.calls (k : Nat) (P0_0_ : Nat → Prop) (A0_0 : Option Addr) (c0_0 : Nat) (l0_0 : List (S40)) (a0_1 : Int) (a1_0 : Int) (a1_1 : Int) (a1_2 : Int) (a1_3 : Int) (a1_4 : Int) (a1_5 : Int) (a1_6 : Int) (a1_7 : Int) (a1_8 : Int) (a2 : Int) (r : Bool) (w : World) (hs0_0 : Kd.V k40 40 w w.heap.size (fun k_ => P0_0_ k_) (.slice A0_0 l0_0.length c0_0) l0_0) (h : hurdlelaw11_DenoteSwaps.f k l0_0 a0_1 a1_0 a1_1 a1_2 a1_3 a1_4 a1_5 a1_6 a1_7 a1_8 a2 = some r) (ht : r = true) :
    Calls Try.prog 12 #[.agg #[.slice A0_0 l0_0.length c0_0, .int .u32 a0_1], .agg #[.int .u32 a1_0, .int .u32 a1_1, .int .u64 a1_2, .int .u64 a1_3, .int .u64 a1_4, .int .u64 a1_5, .int .u64 a1_6, .int .u64 a1_7, .int .u64 a1_8], .int .u8 a2] w fun e w' => e = .returned (.bool r) ∧ Below w.heap.size w w' := by
  have hu25 := Try.underlying25
  have hu44 := Try.underlying44
  have hu40 := Try.underlying40
  have HO0_0 := Aside0.mk (show Kd.V k40 40 w w.heap.size (fun k_ => (P0_0_ k_ ∨ w.heap.size ≤ k_)) (.slice A0_0 l0_0.length c0_0) l0_0 from Kd.V_mono hs0_0 (fun k_ hk => .inl hk))
  have HB := Aside0.mk (Below.refl w.heap.size w)
  have H : ((hurdleref10_Right.f l0_0 a0_1).bind fun t188 => (if t188 = true then (hurdlelaw11_DenoteSwaps.j0 k a2 (decide ((l0_0.length : Int) < 2)) l0_0 a0_1 a1_0 a1_1 a1_2 a1_3 a1_4 a1_5 a1_6 a1_7 a1_8) else (hurdlelaw11_DenoteSwaps.j0 k a2 true l0_0 a0_1 a1_0 a1_1 a1_2 a1_3 a1_4 a1_5 a1_6 a1_7 a1_8))) = some r := h
  clear h
  have HC4 := Aside0.mk H
  clear H
  go_enter Try.func12, Try.ntmps12
  go_upto_region 1 with (first | ((with_reducible refine gate_dst (N := 3) rfl ?_); (try (refine gate_guard (by rfl) ?_; dsimp only)); refine box_event ?hg (N := 3) ?hd (cs := #[.slice A0_0 l0_0.length c0_0, .int .u32 a0_1]) (t := 25) ?hr ?_; (case hd => rfl); (case hg => rfl); (case hr => first | (go_simp; done) | (go_simp; rfl)); intro gb186 hg w5 hbox hb; have n0_ := Aside0.mk (Kd.V_below (Kd.V_elderB (by (with_reducible repeat (first | apply Kd.V_alloc | apply Kd.V_drewN | apply Kd.V_drew)); exact HO0_0.out) gb186 (Nat.le_of_eq hg.symm)) hb); have n1_ := Aside0.mk (below_step (by repeat (first | (with_reducible first | exact HB.out | apply below_alloc | apply pw_below_drewN | apply below_drew1) | exact HB.out)) hb); have n2_ := Aside0.mk (hbox); have n3_ := Aside0.mk ((by rw [hg]; exact (below_size (by repeat (first | (with_reducible first | exact HB.out | apply below_alloc | apply pw_below_drewN | apply below_drew1) | exact HB.out))) : w.heap.size ≤ gb186)); have n4_ := Aside0.mk ((by rw [hg]; exact (below_size (by repeat (first | (with_reducible first | exact HB.out | apply below_alloc | apply pw_below_drewN | apply below_drew1) | exact HB.out))) : w.heap.size ≤ gb186)); clear HO0_0; clear HB; have HO0_0 := n0_; have HB := n1_; have BK186 := n2_; have GW186 := n3_; have GE186 := n4_; clear n0_ n1_ n2_ n3_ n4_; clear hb hbox hg) | ((with_reducible refine gate_dst (N := 4) rfl ?_); (try (refine gate_guard (by rfl) ?_; dsimp only)); refine box_event ?hg (N := 4) ?hd (cs := #[.int .u32 a1_0, .int .u32 a1_1, .int .u64 a1_2, .int .u64 a1_3, .int .u64 a1_4, .int .u64 a1_5, .int .u64 a1_6, .int .u64 a1_7, .int .u64 a1_8]) (t := 44) ?hr ?_; (case hd => rfl); (case hg => rfl); (case hr => first | (go_simp; done) | (go_simp; rfl)); intro gb187 hg w6 hbox hb; have n0_ := Aside0.mk (Kd.V_below (Kd.V_elderB (by (with_reducible repeat (first | apply Kd.V_alloc | apply Kd.V_drewN | apply Kd.V_drew)); exact HO0_0.out) gb187 (Nat.le_of_eq hg.symm)) hb); have n1_ := Aside0.mk (blk_below (g := gb186) (o := .cells #[.slice A0_0 l0_0.length c0_0, .int .u32 a0_1] 25 (0, 0)) (by (with_reducible repeat (first | refine blk_drewN ?_ _ | refine blk_drew ?_ | refine blk_alloc ?_ _)); exact BK186.out) hb); have n2_ := Aside0.mk (below_step (by repeat (first | (with_reducible first | exact HB.out | apply below_alloc | apply pw_below_drewN | apply below_drew1 | refine below_set ?_ GE186.out) | exact HB.out)) hb); have n3_ := Aside0.mk (hbox); have n4_ := Aside0.mk ((by rw [hg]; exact (below_size (by repeat (first | (with_reducible first | exact HB.out | apply below_alloc | apply pw_below_drewN | apply below_drew1 | refine below_set ?_ GE186.out) | exact HB.out))) : w.heap.size ≤ gb187)); have n5_ := Aside0.mk ((by rw [hg]; exact (below_size (by repeat (first | (with_reducible first | exact HB.out | apply below_alloc | apply pw_below_drewN | apply below_drew1 | refine below_set ?_ GE186.out) | exact HB.out))) : w.heap.size ≤ gb187)); have n6_ := Aside0.mk ((by rw [hg]; exact Nat.ne_of_lt (blk_lt (g := gb186) (o := .cells #[.slice A0_0 l0_0.length c0_0, .int .u32 a0_1] 25 (0, 0)) (by (with_reducible repeat (first | refine blk_drewN ?_ _ | refine blk_drew ?_ | refine blk_alloc ?_ _)); exact BK186.out)) : gb186 ≠ gb187)); have n7_ := Aside0.mk ((by rw [hg]; exact Nat.ne_of_gt (blk_lt (g := gb186) (o := .cells #[.slice A0_0 l0_0.length c0_0, .int .u32 a0_1] 25 (0, 0)) (by (with_reducible repeat (first | refine blk_drewN ?_ _ | refine blk_drew ?_ | refine blk_alloc ?_ _)); exact BK186.out)) : gb187 ≠ gb186)); clear HO0_0; clear BK186; clear HB; have HO0_0 := n0_; have BK186 := n1_; have HB := n2_; have BK187 := n3_; have GW187 := n4_; have GE187 := n5_; have NB186_187 := n6_; have NB187_186 := n7_; clear n0_ n1_ n2_ n3_ n4_ n5_ n6_ n7_; clear hb hbox hg))
  (try simp only [Act.put, List.setIfInBounds_toArray, List.set_cons_zero, List.set_cons_succ])
  go_cut [21] (fun v21 wc => ∃ (kq : Nat) (x21_3 : Bool), v21 = .bool x21_3 ∧ Aside0 (hurdlelaw11_DenoteSwaps.j0 kq a2 x21_3 l0_0 a0_1 a1_0 a1_1 a1_2 a1_3 a1_4 a1_5 a1_6 a1_7 a1_8 = some r) ∧ Aside0 (kq ≤ k) ∧ Aside0 (Kd.V k40 40 wc w.heap.size (fun k_ => (P0_0_ k_ ∨ w.heap.size ≤ k_) ∧ k_ ≠ gb186 ∧ k_ ≠ gb187) (.slice A0_0 l0_0.length c0_0) l0_0) ∧ Aside0 (wc.heap[gb186]? = some (.cells #[(.slice A0_0 l0_0.length c0_0), .int .u32 a0_1] 25 (0, 0))) ∧ Aside0 (wc.heap[gb187]? = some (.cells #[.int .u32 a1_0, .int .u32 a1_1, .int .u64 a1_2, .int .u64 a1_3, .int .u64 a1_4, .int .u64 a1_5, .int .u64 a1_6, .int .u64 a1_7, .int .u64 a1_8] 44 (0, 0))) ∧ Aside0 (Below w.heap.size w wc))
  case first =>
    have H := HC4.out
    clear HC4
    replace H := Option.bind_eq_some_iff.mp H
    obtain ⟨t188, A70, H⟩ := H
    replace H : (if t188 = true then (hurdlelaw11_DenoteSwaps.j0 k a2 (decide ((l0_0.length : Int) < 2)) l0_0 a0_1 a1_0 a1_1 a1_2 a1_3 a1_4 a1_5 a1_6 a1_7 a1_8) else (hurdlelaw11_DenoteSwaps.j0 k a2 true l0_0 a0_1 a1_0 a1_1 a1_2 a1_3 a1_4 a1_5 a1_6 a1_7 a1_8)) = some r := H
    have A7 := Aside0.mk A70
    clear A70
    by_cases c8 : t188 = true
    · subst c8
      have H1 : (hurdlelaw11_DenoteSwaps.j0 k a2 (decide ((l0_0.length : Int) < 2)) l0_0 a0_1 a1_0 a1_1 a1_2 a1_3 a1_4 a1_5 a1_6 a1_7 a1_8) = some r := by rw [if_pos rfl] at H; exact H
      clear H
      have H := H1
      clear H1
      have H' := Aside0.mk H
      clear H
      have hnb9 := NB186_187.out
      have hnc9 := NB187_186.out
      have hcz10_0 : w6.cell? ⟨gb186, 0, none⟩ = some (.slice A0_0 l0_0.length c0_0) := (blk_cell BK186.out 0).trans rfl
      have hcz10_1 : w6.cell? ⟨gb186, 1, none⟩ = some (.int .u32 a0_1) := (blk_cell BK186.out 1).trans rfl
      have hfz10_0 := blk_frozen BK186.out 0
      have hfz10_1 := blk_frozen BK186.out 1
      go_wp2_with (first | ((with_reducible refine gate_callee (f := 17) rfl ?_); refine goesL_ (some 14) rfl rfl Try.func17 (by kernel_rfl) rfl #[.agg #[.slice A0_0 l0_0.length c0_0, .int .u32 a0_1]] rfl (by (try simp only [List.map_toArray, List.map_cons, List.map_nil]); first | done | rfl | (simp only [List.length_drop, List.length_take]; rfl)) ?_; (with_reducible refine (hurdleref10_Right.calls _ _ l0_0 a0_1 true _ ?side1 ?side2 A7.out).mono ?_); (case side1 => repeat (first | exact (Kd.V_reads' HO0_0.out).2.2 | (with_reducible refine Kd.C_alloc ?_ _) | (with_reducible refine Kd.C_drewN ?_ _) | (with_reducible refine Kd.C_drew ?_))); (case side2 => exact (Kd.V_reads' HO0_0.out).2.1); rintro e w11 ⟨rfl, hb⟩; refine ⟨_, rfl, ?_⟩; have n0_ := Aside0.mk (Kd.V_below (by (with_reducible repeat (first | apply Kd.V_alloc | apply Kd.V_drewN | apply Kd.V_drew)); exact HO0_0.out) hb); have n1_ := Aside0.mk (blk_below (g := gb186) (o := .cells #[.slice A0_0 l0_0.length c0_0, .int .u32 a0_1] 25 (0, 0)) (by (with_reducible repeat (first | refine blk_drewN ?_ _ | refine blk_drew ?_ | refine blk_alloc ?_ _)); exact BK186.out) hb); have n2_ := Aside0.mk (blk_below (g := gb187) (o := .cells #[.int .u32 a1_0, .int .u32 a1_1, .int .u64 a1_2, .int .u64 a1_3, .int .u64 a1_4, .int .u64 a1_5, .int .u64 a1_6, .int .u64 a1_7, .int .u64 a1_8] 44 (0, 0)) (by (with_reducible repeat (first | refine blk_drewN ?_ _ | refine blk_drew ?_ | refine blk_alloc ?_ _)); exact BK187.out) hb); have n3_ := Aside0.mk (below_step (by repeat (first | (with_reducible first | exact HB.out | apply below_alloc | apply pw_below_drewN | apply below_drew1 | refine below_set ?_ GE186.out | refine below_set ?_ GE187.out) | exact HB.out)) hb); clear HO0_0; clear BK186; clear BK187; clear HB; have HO0_0 := n0_; have BK186 := n1_; have BK187 := n2_; have HB := n3_; clear n0_ n1_ n2_ n3_; (try clear hb); (try clear hb2); (try clear hk); (try clear hi); have hcz12_0 : w11.cell? ⟨gb186, 0, none⟩ = some (.slice A0_0 l0_0.length c0_0) := (blk_cell BK186.out 0).trans rfl; have hcz12_1 : w11.cell? ⟨gb186, 1, none⟩ = some (.int .u32 a0_1) := (blk_cell BK186.out 1).trans rfl; have hfz12_0 := blk_frozen BK186.out 0; have hfz12_1 := blk_frozen BK186.out 1))
      go_meet
      case rel => exact ⟨_, (decide ((l0_0.length : Int) < 2)), (by first | rfl | (simp; done) | (simp [*]; done)), H', ⟨by first | omega | exact Nat.le_refl _⟩, ⟨by (with_reducible repeat (first | apply Kd.V_alloc | apply Kd.V_drewN | apply Kd.V_drew)); exact Kd.V_mono HO0_0.out (fun _ hk => ⟨hk.1.1, ⟨hk.1.2, hk.2⟩⟩)⟩, ⟨by (with_reducible repeat (first | refine blk_drewN ?_ _ | refine blk_drew ?_ | refine blk_alloc ?_ _)); exact BK186.out⟩, ⟨by (with_reducible repeat (first | refine blk_drewN ?_ _ | refine blk_drew ?_ | refine blk_alloc ?_ _)); exact BK187.out⟩, ⟨by repeat (first | (with_reducible first | exact HB.out | apply below_alloc | apply pw_below_drewN | apply below_drew1 | refine below_set ?_ GE186.out | refine below_set ?_ GE187.out) | exact HB.out)⟩⟩
    · replace c8 := Bool.eq_false_iff.mpr c8
      subst c8
      have H1 : (hurdlelaw11_DenoteSwaps.j0 k a2 true l0_0 a0_1 a1_0 a1_1 a1_2 a1_3 a1_4 a1_5 a1_6 a1_7 a1_8) = some r := by rw [if_neg (show ¬ (false = true) by decide)] at H; exact H
      clear H
      have H := H1
      clear H1
      have H' := Aside0.mk H
      clear H
      have hnb13 := NB186_187.out
      have hnc13 := NB187_186.out
      have hcz14_0 : w6.cell? ⟨gb186, 0, none⟩ = some (.slice A0_0 l0_0.length c0_0) := (blk_cell BK186.out 0).trans rfl
      have hcz14_1 : w6.cell? ⟨gb186, 1, none⟩ = some (.int .u32 a0_1) := (blk_cell BK186.out 1).trans rfl
      have hfz14_0 := blk_frozen BK186.out 0
      have hfz14_1 := blk_frozen BK186.out 1
      go_wp2_with (first | ((with_reducible refine gate_callee (f := 17) rfl ?_); refine goesL_ (some 14) rfl rfl Try.func17 (by kernel_rfl) rfl #[.agg #[.slice A0_0 l0_0.length c0_0, .int .u32 a0_1]] rfl (by (try simp only [List.map_toArray, List.map_cons, List.map_nil]); first | done | rfl | (simp only [List.length_drop, List.length_take]; rfl)) ?_; (with_reducible refine (hurdleref10_Right.calls _ _ l0_0 a0_1 false _ ?side1 ?side2 A7.out).mono ?_); (case side1 => repeat (first | exact (Kd.V_reads' HO0_0.out).2.2 | (with_reducible refine Kd.C_alloc ?_ _) | (with_reducible refine Kd.C_drewN ?_ _) | (with_reducible refine Kd.C_drew ?_))); (case side2 => exact (Kd.V_reads' HO0_0.out).2.1); rintro e w15 ⟨rfl, hb⟩; refine ⟨_, rfl, ?_⟩; have n0_ := Aside0.mk (Kd.V_below (by (with_reducible repeat (first | apply Kd.V_alloc | apply Kd.V_drewN | apply Kd.V_drew)); exact HO0_0.out) hb); have n1_ := Aside0.mk (blk_below (g := gb186) (o := .cells #[.slice A0_0 l0_0.length c0_0, .int .u32 a0_1] 25 (0, 0)) (by (with_reducible repeat (first | refine blk_drewN ?_ _ | refine blk_drew ?_ | refine blk_alloc ?_ _)); exact BK186.out) hb); have n2_ := Aside0.mk (blk_below (g := gb187) (o := .cells #[.int .u32 a1_0, .int .u32 a1_1, .int .u64 a1_2, .int .u64 a1_3, .int .u64 a1_4, .int .u64 a1_5, .int .u64 a1_6, .int .u64 a1_7, .int .u64 a1_8] 44 (0, 0)) (by (with_reducible repeat (first | refine blk_drewN ?_ _ | refine blk_drew ?_ | refine blk_alloc ?_ _)); exact BK187.out) hb); have n3_ := Aside0.mk (below_step (by repeat (first | (with_reducible first | exact HB.out | apply below_alloc | apply pw_below_drewN | apply below_drew1 | refine below_set ?_ GE186.out | refine below_set ?_ GE187.out) | exact HB.out)) hb); clear HO0_0; clear BK186; clear BK187; clear HB; have HO0_0 := n0_; have BK186 := n1_; have BK187 := n2_; have HB := n3_; clear n0_ n1_ n2_ n3_; (try clear hb); (try clear hb2); (try clear hk); (try clear hi)))
      go_meet
      case rel => exact ⟨_, (true), (by first | rfl | (simp; done) | (simp [*]; done)), H', ⟨by first | omega | exact Nat.le_refl _⟩, ⟨by (with_reducible repeat (first | apply Kd.V_alloc | apply Kd.V_drewN | apply Kd.V_drew)); exact Kd.V_mono HO0_0.out (fun _ hk => ⟨hk.1.1, ⟨hk.1.2, hk.2⟩⟩)⟩, ⟨by (with_reducible repeat (first | refine blk_drewN ?_ _ | refine blk_drew ?_ | refine blk_alloc ?_ _)); exact BK186.out⟩, ⟨by (with_reducible repeat (first | refine blk_drewN ?_ _ | refine blk_drew ?_ | refine blk_alloc ?_ _)); exact BK187.out⟩, ⟨by repeat (first | (with_reducible first | exact HB.out | apply below_alloc | apply pw_below_drewN | apply below_drew1 | refine below_set ?_ GE186.out | refine below_set ?_ GE187.out) | exact HB.out)⟩⟩
  case rest =>
    clear HC4
    try clear c1
    try clear p2
    try clear c8
    try clear c9
    try clear c12
    try clear c13
    try clear hcz10_0
    try clear hcz10_1
    try clear hcz12_0
    try clear hcz12_1
    try clear hcz14_0
    try clear hcz14_1
    try clear hfz10_0
    try clear hfz10_1
    try clear hfz12_0
    try clear hfz12_1
    try clear hfz14_0
    try clear hfz14_1
    obtain ⟨kq, x21_3, rfl, HA, HJ3, HO_187000, BK186, BK187, HB⟩ := hcut
    cases kq with
    | zero => exact absurd HA.out (by simp [hurdlelaw11_DenoteSwaps.j0])
    | succ kj3 =>
      have H := HA.out
      clear HA
      simp only [hurdlelaw11_DenoteSwaps.j0] at H
      by_cases c16 : x21_3 = true
      · subst c16
        have H1 : ((hurdlelaw11_knows.f).bind fun t189 => (some t189)) = some r := by rw [if_pos rfl] at H; exact H
        clear H
        have H := H1
        clear H1
        replace H := Option.bind_eq_some_iff.mp H
        obtain ⟨t189, A170, H⟩ := H
        replace H : (some t189) = some r := H
        have A17 := Aside0.mk A170
        clear A170
        obtain rfl := Option.some.inj H
        go_wp2_with (first | ((with_reducible refine gate_callee (f := 23) rfl ?_); refine goesL_ (some 22) rfl rfl Try.func23 (by kernel_rfl) rfl #[] rfl (by (try simp only [List.map_toArray, List.map_cons, List.map_nil]); first | done | rfl | (simp only [List.length_drop, List.length_take]; rfl)) ?_; (with_reducible refine (hurdlelaw11_knows.calls  t189 _ A17.out).mono ?_); rintro e w18 ⟨rfl, hb⟩; refine ⟨_, rfl, ?_⟩; have n0_ := Aside0.mk (Kd.V_below (by (with_reducible repeat (first | apply Kd.V_alloc | apply Kd.V_drewN | apply Kd.V_drew)); exact HO_187000.out) hb); have n1_ := Aside0.mk (blk_below (g := gb186) (o := .cells #[.slice A0_0 l0_0.length c0_0, .int .u32 a0_1] 25 (0, 0)) (by (with_reducible repeat (first | refine blk_drewN ?_ _ | refine blk_drew ?_ | refine blk_alloc ?_ _)); exact BK186.out) hb); have n2_ := Aside0.mk (blk_below (g := gb187) (o := .cells #[.int .u32 a1_0, .int .u32 a1_1, .int .u64 a1_2, .int .u64 a1_3, .int .u64 a1_4, .int .u64 a1_5, .int .u64 a1_6, .int .u64 a1_7, .int .u64 a1_8] 44 (0, 0)) (by (with_reducible repeat (first | refine blk_drewN ?_ _ | refine blk_drew ?_ | refine blk_alloc ?_ _)); exact BK187.out) hb); have n3_ := Aside0.mk (below_step (by repeat (first | (with_reducible first | exact HB.out | apply below_alloc | apply pw_below_drewN | apply below_drew1 | refine below_set ?_ GE186.out | refine below_set ?_ GE187.out) | exact HB.out)) hb); clear HO_187000; clear BK186; clear BK187; clear HB; have HO_187000 := n0_; have BK186 := n1_; have BK187 := n2_; have HB := n3_; clear n0_ n1_ n2_ n3_; (try clear hb); (try clear hb2); (try clear hk); (try clear hi)))
        go_ret
        exact ⟨by first | rfl | (simp [errW_none, errW_some] <;> rfl) | (simp [*, errW_none, errW_some] <;> rfl), by repeat (first | (with_reducible first | exact HB.out | apply below_alloc | apply pw_below_drewN | apply below_drew1 | refine below_set ?_ GE186.out | refine below_set ?_ GE187.out) | exact HB.out)⟩
      · replace c16 := Bool.eq_false_iff.mpr c16
        subst c16
        have H1 : (if (wrap64 ((l0_0.length : Int) - 1)) = 0 then (none) else (if ([] : List (S40)).length + l0_0.length < 3518437208883 then ((some (([] : List (S40)) ++ l0_0 : List (S40))).bind fun y191 => (if 0 ≤ (wrap64 ((Int.tmod (wrap64 (a2)) (wrap64 ((l0_0.length : Int) - 1))) + 1)) then (if (wrap64 ((Int.tmod (wrap64 (a2)) (wrap64 ((l0_0.length : Int) - 1))) + 1)) < (l0_0.length : Int) then (if 0 ≤ (Int.tmod (wrap64 (a2)) (wrap64 ((l0_0.length : Int) - 1))) then (if (Int.tmod (wrap64 (a2)) (wrap64 ((l0_0.length : Int) - 1))) < (y191.length : Int) then (if (Int.tmod (wrap64 (a2)) (wrap64 ((l0_0.length : Int) - 1))) < (l0_0.length : Int) then (if (wrap64 ((Int.tmod (wrap64 (a2)) (wrap64 ((l0_0.length : Int) - 1))) + 1)) < (y191.length : Int) then ((some ((y191.set ((Int.tmod (wrap64 (a2)) (wrap64 ((l0_0.length : Int) - 1))) : Int).toNat (⟨(rd_T40 l0_0 (wrap64 ((Int.tmod (wrap64 (a2)) (wrap64 ((l0_0.length : Int) - 1))) + 1))).f0, (rd_T40 l0_0 (wrap64 ((Int.tmod (wrap64 (a2)) (wrap64 ((l0_0.length : Int) - 1))) + 1))).f1, (rd_T40 l0_0 (wrap64 ((Int.tmod (wrap64 (a2)) (wrap64 ((l0_0.length : Int) - 1))) + 1))).f2, (rd_T40 l0_0 (wrap64 ((Int.tmod (wrap64 (a2)) (wrap64 ((l0_0.length : Int) - 1))) + 1))).f3⟩ : S40)).set ((wrap64 ((Int.tmod (wrap64 (a2)) (wrap64 ((l0_0.length : Int) - 1))) + 1)) : Int).toNat (⟨(rd_T40 l0_0 (Int.tmod (wrap64 (a2)) (wrap64 ((l0_0.length : Int) - 1)))).f0, (rd_T40 l0_0 (Int.tmod (wrap64 (a2)) (wrap64 ((l0_0.length : Int) - 1)))).f1, (rd_T40 l0_0 (Int.tmod (wrap64 (a2)) (wrap64 ((l0_0.length : Int) - 1)))).f2, (rd_T40 l0_0 (Int.tmod (wrap64 (a2)) (wrap64 ((l0_0.length : Int) - 1)))).f3⟩ : S40) : List (S40))).bind fun y197 => (if ((rd_T40 y197 (Int.tmod (wrap64 (a2)) (wrap64 ((l0_0.length : Int) - 1)))).f0) = ((rd_T40 y197 (wrap64 ((Int.tmod (wrap64 (a2)) (wrap64 ((l0_0.length : Int) - 1))) + 1))).f0) then (hurdlelaw11_DenoteSwaps.j1 kj3 (((rd_T40 y197 (Int.tmod (wrap64 (a2)) (wrap64 ((l0_0.length : Int) - 1)))).f1) == ((rd_T40 y197 (wrap64 ((Int.tmod (wrap64 (a2)) (wrap64 ((l0_0.length : Int) - 1))) + 1))).f1)) l0_0 a0_1 a1_0 a1_1 a1_2 a1_3 a1_4 a1_5 a1_6 a1_7 a1_8 y197 a0_1) else (hurdlelaw11_DenoteSwaps.j1 kj3 false l0_0 a0_1 a1_0 a1_1 a1_2 a1_3 a1_4 a1_5 a1_6 a1_7 a1_8 y197 a0_1))) else (none)) else (none)) else (none)) else (none)) else (none)) else (none))) else (none))) = some r := by rw [if_neg (show ¬ (false = true) by decide)] at H; exact H
        clear H
        have H := H1
        clear H1
        by_cases c19 : (wrap64 ((l0_0.length : Int) - 1)) = 0
        · rw [if_pos c19] at H
          exact absurd H (by simp)
        · rw [if_neg c19] at H
          have c19b0 : ((wrap64 ((l0_0.length : Int) - 1)) == 0) = false := beq_eq_false_iff_ne.mpr c19
          have c19b1 : ((wrap64 ((l0_0.length : Int) - 1)) != 0) = true := bne_iff_ne.mpr c19
          by_cases c20 : ([] : List (S40)).length + l0_0.length < 3518437208883
          · rw [if_pos c20] at H
            have LMc20 := Aside0.mk c20
            clear c20
            obtain ⟨y191, hy191⟩ : ∃ y_ : List (S40), y_ = (([] : List (S40)) ++ l0_0) := ⟨_, rfl⟩
            replace H : (if 0 ≤ (wrap64 ((Int.tmod (wrap64 (a2)) (wrap64 ((l0_0.length : Int) - 1))) + 1)) then (if (wrap64 ((Int.tmod (wrap64 (a2)) (wrap64 ((l0_0.length : Int) - 1))) + 1)) < (l0_0.length : Int) then (if 0 ≤ (Int.tmod (wrap64 (a2)) (wrap64 ((l0_0.length : Int) - 1))) then (if (Int.tmod (wrap64 (a2)) (wrap64 ((l0_0.length : Int) - 1))) < (y191.length : Int) then (if (Int.tmod (wrap64 (a2)) (wrap64 ((l0_0.length : Int) - 1))) < (l0_0.length : Int) then (if (wrap64 ((Int.tmod (wrap64 (a2)) (wrap64 ((l0_0.length : Int) - 1))) + 1)) < (y191.length : Int) then ((some ((y191.set ((Int.tmod (wrap64 (a2)) (wrap64 ((l0_0.length : Int) - 1))) : Int).toNat (⟨(rd_T40 l0_0 (wrap64 ((Int.tmod (wrap64 (a2)) (wrap64 ((l0_0.length : Int) - 1))) + 1))).f0, (rd_T40 l0_0 (wrap64 ((Int.tmod (wrap64 (a2)) (wrap64 ((l0_0.length : Int) - 1))) + 1))).f1, (rd_T40 l0_0 (wrap64 ((Int.tmod (wrap64 (a2)) (wrap64 ((l0_0.length : Int) - 1))) + 1))).f2, (rd_T40 l0_0 (wrap64 ((Int.tmod (wrap64 (a2)) (wrap64 ((l0_0.length : Int) - 1))) + 1))).f3⟩ : S40)).set ((wrap64 ((Int.tmod (wrap64 (a2)) (wrap64 ((l0_0.length : Int) - 1))) + 1)) : Int).toNat (⟨(rd_T40 l0_0 (Int.tmod (wrap64 (a2)) (wrap64 ((l0_0.length : Int) - 1)))).f0, (rd_T40 l0_0 (Int.tmod (wrap64 (a2)) (wrap64 ((l0_0.length : Int) - 1)))).f1, (rd_T40 l0_0 (Int.tmod (wrap64 (a2)) (wrap64 ((l0_0.length : Int) - 1)))).f2, (rd_T40 l0_0 (Int.tmod (wrap64 (a2)) (wrap64 ((l0_0.length : Int) - 1)))).f3⟩ : S40) : List (S40))).bind fun y197 => (if ((rd_T40 y197 (Int.tmod (wrap64 (a2)) (wrap64 ((l0_0.length : Int) - 1)))).f0) = ((rd_T40 y197 (wrap64 ((Int.tmod (wrap64 (a2)) (wrap64 ((l0_0.length : Int) - 1))) + 1))).f0) then (hurdlelaw11_DenoteSwaps.j1 kj3 (((rd_T40 y197 (Int.tmod (wrap64 (a2)) (wrap64 ((l0_0.length : Int) - 1)))).f1) == ((rd_T40 y197 (wrap64 ((Int.tmod (wrap64 (a2)) (wrap64 ((l0_0.length : Int) - 1))) + 1))).f1)) l0_0 a0_1 a1_0 a1_1 a1_2 a1_3 a1_4 a1_5 a1_6 a1_7 a1_8 y197 a0_1) else (hurdlelaw11_DenoteSwaps.j1 kj3 false l0_0 a0_1 a1_0 a1_1 a1_2 a1_3 a1_4 a1_5 a1_6 a1_7 a1_8 y197 a0_1))) else (none)) else (none)) else (none)) else (none)) else (none)) else (none)) = some r := by first | (rw [hy191]; with_reducible exact H) | (have H2_ := (Option.bind_some _ _).symm.trans H; rw [hy191]; with_reducible exact H2_) | (have H2_ := (Option.bind_some _ _).symm.trans H; with_reducible exact H2_) | with_reducible exact H | (rw [hy191]; exact H) | exact H
            have Ny191 := Aside0.mk hy191
            clear hy191
            obtain ⟨ji21, hji21⟩ : ∃ j_ : Int, (wrap64 ((Int.tmod (wrap64 (a2)) (wrap64 ((l0_0.length : Int) - 1))) + 1)) = j_ := ⟨_, rfl⟩
            replace H : (if 0 ≤ (ji21) then (if (ji21) < (l0_0.length : Int) then (if 0 ≤ (Int.tmod (wrap64 (a2)) (wrap64 ((l0_0.length : Int) - 1))) then (if (Int.tmod (wrap64 (a2)) (wrap64 ((l0_0.length : Int) - 1))) < (y191.length : Int) then (if (Int.tmod (wrap64 (a2)) (wrap64 ((l0_0.length : Int) - 1))) < (l0_0.length : Int) then (if (ji21) < (y191.length : Int) then ((some ((y191.set ((Int.tmod (wrap64 (a2)) (wrap64 ((l0_0.length : Int) - 1))) : Int).toNat (⟨(rd_T40 l0_0 (ji21)).f0, (rd_T40 l0_0 (ji21)).f1, (rd_T40 l0_0 (ji21)).f2, (rd_T40 l0_0 (ji21)).f3⟩ : S40)).set ((ji21) : Int).toNat (⟨(rd_T40 l0_0 (Int.tmod (wrap64 (a2)) (wrap64 ((l0_0.length : Int) - 1)))).f0, (rd_T40 l0_0 (Int.tmod (wrap64 (a2)) (wrap64 ((l0_0.length : Int) - 1)))).f1, (rd_T40 l0_0 (Int.tmod (wrap64 (a2)) (wrap64 ((l0_0.length : Int) - 1)))).f2, (rd_T40 l0_0 (Int.tmod (wrap64 (a2)) (wrap64 ((l0_0.length : Int) - 1)))).f3⟩ : S40) : List (S40))).bind fun y197 => (if ((rd_T40 y197 (Int.tmod (wrap64 (a2)) (wrap64 ((l0_0.length : Int) - 1)))).f0) = ((rd_T40 y197 (ji21)).f0) then (hurdlelaw11_DenoteSwaps.j1 kj3 (((rd_T40 y197 (Int.tmod (wrap64 (a2)) (wrap64 ((l0_0.length : Int) - 1)))).f1) == ((rd_T40 y197 (ji21)).f1)) l0_0 a0_1 a1_0 a1_1 a1_2 a1_3 a1_4 a1_5 a1_6 a1_7 a1_8 y197 a0_1) else (hurdlelaw11_DenoteSwaps.j1 kj3 false l0_0 a0_1 a1_0 a1_1 a1_2 a1_3 a1_4 a1_5 a1_6 a1_7 a1_8 y197 a0_1))) else (none)) else (none)) else (none)) else (none)) else (none)) else (none)) = some r := by first | (rw [hji21] at H; exact H) | (simp only [hji21] at H ⊢; exact H)
            have hji21w : (IntKind.i64.wrap ((Int.tmod (wrap64 (a2)) (wrap64 ((l0_0.length : Int) - 1))) + 1)) = ji21 := (i64_w _).trans hji21
            by_cases c22 : 0 ≤ (ji21)
            · rw [if_pos c22] at H
              have c22b0 : decide (0 ≤ (ji21)) = true := decide_eq_true c22
              clear c22
              by_cases c23 : (ji21) < (l0_0.length : Int)
              · rw [if_pos c23] at H
                have c23b0 : decide ((ji21) < (l0_0.length : Int)) = true := decide_eq_true c23
                clear c23
                obtain ⟨ji24, hji24⟩ : ∃ j_ : Int, (Int.tmod (wrap64 (a2)) (wrap64 ((l0_0.length : Int) - 1))) = j_ := ⟨_, rfl⟩
                rw [hji24] at hji21 hji21w
                replace H : (if 0 ≤ (ji24) then (if (ji24) < (y191.length : Int) then (if (ji24) < (l0_0.length : Int) then (if (ji21) < (y191.length : Int) then ((some ((y191.set ((ji24) : Int).toNat (⟨(rd_T40 l0_0 (ji21)).f0, (rd_T40 l0_0 (ji21)).f1, (rd_T40 l0_0 (ji21)).f2, (rd_T40 l0_0 (ji21)).f3⟩ : S40)).set ((ji21) : Int).toNat (⟨(rd_T40 l0_0 (ji24)).f0, (rd_T40 l0_0 (ji24)).f1, (rd_T40 l0_0 (ji24)).f2, (rd_T40 l0_0 (ji24)).f3⟩ : S40) : List (S40))).bind fun y197 => (if ((rd_T40 y197 (ji24)).f0) = ((rd_T40 y197 (ji21)).f0) then (hurdlelaw11_DenoteSwaps.j1 kj3 (((rd_T40 y197 (ji24)).f1) == ((rd_T40 y197 (ji21)).f1)) l0_0 a0_1 a1_0 a1_1 a1_2 a1_3 a1_4 a1_5 a1_6 a1_7 a1_8 y197 a0_1) else (hurdlelaw11_DenoteSwaps.j1 kj3 false l0_0 a0_1 a1_0 a1_1 a1_2 a1_3 a1_4 a1_5 a1_6 a1_7 a1_8 y197 a0_1))) else (none)) else (none)) else (none)) else (none)) = some r := by first | (rw [hji24] at H; exact H) | (simp only [hji24] at H ⊢; exact H)
                by_cases c25 : 0 ≤ (ji24)
                · rw [if_pos c25] at H
                  have c25b0 : decide (0 ≤ (ji24)) = true := decide_eq_true c25
                  clear c25
                  by_cases c26 : (ji24) < (y191.length : Int)
                  · rw [if_pos c26] at H
                    have c26b0 : decide ((ji24) < (y191.length : Int)) = true := decide_eq_true c26
                    clear c26
                    obtain ⟨y195, hy195⟩ : ∃ y_ : List (S40), y_ = (y191.set ((ji24) : Int).toNat (⟨(rd_T40 l0_0 (ji21)).f0, (rd_T40 l0_0 (ji21)).f1, (rd_T40 l0_0 (ji21)).f2, (rd_T40 l0_0 (ji21)).f3⟩ : S40)) := ⟨_, rfl⟩
                    replace H : (if (ji24) < (l0_0.length : Int) then (if (ji21) < (y191.length : Int) then ((some (y195.set ((ji21) : Int).toNat (⟨(rd_T40 l0_0 (ji24)).f0, (rd_T40 l0_0 (ji24)).f1, (rd_T40 l0_0 (ji24)).f2, (rd_T40 l0_0 (ji24)).f3⟩ : S40) : List (S40))).bind fun y197 => (if ((rd_T40 y197 (ji24)).f0) = ((rd_T40 y197 (ji21)).f0) then (hurdlelaw11_DenoteSwaps.j1 kj3 (((rd_T40 y197 (ji24)).f1) == ((rd_T40 y197 (ji21)).f1)) l0_0 a0_1 a1_0 a1_1 a1_2 a1_3 a1_4 a1_5 a1_6 a1_7 a1_8 y197 a0_1) else (hurdlelaw11_DenoteSwaps.j1 kj3 false l0_0 a0_1 a1_0 a1_1 a1_2 a1_3 a1_4 a1_5 a1_6 a1_7 a1_8 y197 a0_1))) else (none)) else (none)) = some r := by first | (rw [hy195]; with_reducible exact H) | (have H2_ := (Option.bind_some _ _).symm.trans H; rw [hy195]; with_reducible exact H2_) | (have H2_ := (Option.bind_some _ _).symm.trans H; with_reducible exact H2_) | with_reducible exact H | (rw [hy195]; exact H) | exact H
                    have Ny195 := Aside0.mk hy195
                    clear hy195
                    by_cases c28 : (ji24) < (l0_0.length : Int)
                    · rw [if_pos c28] at H
                      have c28b0 : decide ((ji24) < (l0_0.length : Int)) = true := decide_eq_true c28
                      clear c28
                      by_cases c29 : (ji21) < (y191.length : Int)
                      · rw [if_pos c29] at H
                        have c29b0 : decide ((ji21) < (y191.length : Int)) = true := decide_eq_true c29
                        clear c29
                        obtain ⟨y197, hy197⟩ : ∃ y_ : List (S40), y_ = (y195.set ((ji21) : Int).toNat (⟨(rd_T40 l0_0 (ji24)).f0, (rd_T40 l0_0 (ji24)).f1, (rd_T40 l0_0 (ji24)).f2, (rd_T40 l0_0 (ji24)).f3⟩ : S40)) := ⟨_, rfl⟩
                        replace H : (if ((rd_T40 y197 (ji24)).f0) = ((rd_T40 y197 (ji21)).f0) then (hurdlelaw11_DenoteSwaps.j1 kj3 (((rd_T40 y197 (ji24)).f1) == ((rd_T40 y197 (ji21)).f1)) l0_0 a0_1 a1_0 a1_1 a1_2 a1_3 a1_4 a1_5 a1_6 a1_7 a1_8 y197 a0_1) else (hurdlelaw11_DenoteSwaps.j1 kj3 false l0_0 a0_1 a1_0 a1_1 a1_2 a1_3 a1_4 a1_5 a1_6 a1_7 a1_8 y197 a0_1)) = some r := by first | (rw [hy197]; with_reducible exact H) | (have H2_ := (Option.bind_some _ _).symm.trans H; rw [hy197]; with_reducible exact H2_) | (have H2_ := (Option.bind_some _ _).symm.trans H; with_reducible exact H2_) | with_reducible exact H | (rw [hy197]; exact H) | exact H
                        have Ny197 := Aside0.mk hy197
                        clear hy197
                        have HC31 := Aside0.mk H
                        clear H
                        have hnb32 := NB186_187.out
                        have hnc32 := NB187_186.out
                        have hcz33_0 : wc.cell? ⟨gb186, 0, none⟩ = some (.slice A0_0 l0_0.length c0_0) := (blk_cell BK186.out 0).trans rfl
                        have hcz33_1 : wc.cell? ⟨gb186, 1, none⟩ = some (.int .u32 a0_1) := (blk_cell BK186.out 1).trans rfl
                        have hfz33_0 := blk_frozen BK186.out 0
                        have hfz33_1 := blk_frozen BK186.out 1
                        try go_wp2_with (first | ((with_reducible refine gate_dst (N := 8) rfl ?_); (try (refine gate_guard (by rfl) ?_; dsimp only)); refine box_event ?hg (N := 8) ?hd (cs := #[.slice none 0 0, .int .u32 0]) (t := 25) ?hr ?_; (case hd => rfl); (case hg => rfl); (case hr => first | (go_simp; done) | (go_simp; rfl)); intro gb190 hg w34 hbox hb; have n0_ := Aside0.mk (Kd.V_below (Kd.V_elderB (by (with_reducible repeat (first | apply Kd.V_alloc | apply Kd.V_drewN | apply Kd.V_drew)); exact HO_187000.out) gb190 (Nat.le_of_eq hg.symm)) hb); have n1_ := Aside0.mk (blk_below (g := gb186) (o := .cells #[.slice A0_0 l0_0.length c0_0, .int .u32 a0_1] 25 (0, 0)) (by (with_reducible repeat (first | refine blk_drewN ?_ _ | refine blk_drew ?_ | refine blk_alloc ?_ _)); exact BK186.out) hb); have n2_ := Aside0.mk (blk_below (g := gb187) (o := .cells #[.int .u32 a1_0, .int .u32 a1_1, .int .u64 a1_2, .int .u64 a1_3, .int .u64 a1_4, .int .u64 a1_5, .int .u64 a1_6, .int .u64 a1_7, .int .u64 a1_8] 44 (0, 0)) (by (with_reducible repeat (first | refine blk_drewN ?_ _ | refine blk_drew ?_ | refine blk_alloc ?_ _)); exact BK187.out) hb); have n3_ := Aside0.mk (below_step (by repeat (first | (with_reducible first | exact HB.out | apply below_alloc | apply pw_below_drewN | apply below_drew1 | refine below_set ?_ GE186.out | refine below_set ?_ GE187.out) | exact HB.out)) hb); have n4_ := Aside0.mk (hbox); have n5_ := Aside0.mk ((by rw [hg]; exact (below_size (by repeat (first | (with_reducible first | exact HB.out | apply below_alloc | apply pw_below_drewN | apply below_drew1 | refine below_set ?_ GE186.out | refine below_set ?_ GE187.out) | exact HB.out))) : w.heap.size ≤ gb190)); have n6_ := Aside0.mk ((by rw [hg]; exact (below_size (by repeat (first | (with_reducible first | exact HB.out | apply below_alloc | apply pw_below_drewN | apply below_drew1 | refine below_set ?_ GE186.out | refine below_set ?_ GE187.out) | exact HB.out))) : w.heap.size ≤ gb190)); have n7_ := Aside0.mk ((by rw [hg]; exact Nat.ne_of_lt (blk_lt (g := gb186) (o := .cells #[.slice A0_0 l0_0.length c0_0, .int .u32 a0_1] 25 (0, 0)) (by (with_reducible repeat (first | refine blk_drewN ?_ _ | refine blk_drew ?_ | refine blk_alloc ?_ _)); exact BK186.out)) : gb186 ≠ gb190)); have n8_ := Aside0.mk ((by rw [hg]; exact Nat.ne_of_gt (blk_lt (g := gb186) (o := .cells #[.slice A0_0 l0_0.length c0_0, .int .u32 a0_1] 25 (0, 0)) (by (with_reducible repeat (first | refine blk_drewN ?_ _ | refine blk_drew ?_ | refine blk_alloc ?_ _)); exact BK186.out)) : gb190 ≠ gb186)); have n9_ := Aside0.mk ((by rw [hg]; exact Nat.ne_of_lt (blk_lt (g := gb187) (o := .cells #[.int .u32 a1_0, .int .u32 a1_1, .int .u64 a1_2, .int .u64 a1_3, .int .u64 a1_4, .int .u64 a1_5, .int .u64 a1_6, .int .u64 a1_7, .int .u64 a1_8] 44 (0, 0)) (by (with_reducible repeat (first | refine blk_drewN ?_ _ | refine blk_drew ?_ | refine blk_alloc ?_ _)); exact BK187.out)) : gb187 ≠ gb190)); have n10_ := Aside0.mk ((by rw [hg]; exact Nat.ne_of_gt (blk_lt (g := gb187) (o := .cells #[.int .u32 a1_0, .int .u32 a1_1, .int .u64 a1_2, .int .u64 a1_3, .int .u64 a1_4, .int .u64 a1_5, .int .u64 a1_6, .int .u64 a1_7, .int .u64 a1_8] 44 (0, 0)) (by (with_reducible repeat (first | refine blk_drewN ?_ _ | refine blk_drew ?_ | refine blk_alloc ?_ _)); exact BK187.out)) : gb190 ≠ gb187)); clear HO_187000; clear BK186; clear BK187; clear HB; have HO_187000 := n0_; have BK186 := n1_; have BK187 := n2_; have HB := n3_; have BK190 := n4_; have GW190 := n5_; have GE190 := n6_; have NB186_190 := n7_; have NB190_186 := n8_; have NB187_190 := n9_; have NB190_187 := n10_; clear n0_ n1_ n2_ n3_ n4_ n5_ n6_ n7_ n8_ n9_ n10_; clear hb hbox hg; have hnb35 := NB190_186.out; have hnc35 := NB186_190.out; have hnb36 := NB190_187.out; have hnc36 := NB187_190.out; have hcz37_0 : w34.cell? ⟨gb190, 0, none⟩ = some (.slice none 0 0) := (blk_cell BK190.out 0).trans rfl; have hcz37_1 : w34.cell? ⟨gb190, 1, none⟩ = some (.int .u32 0) := (blk_cell BK190.out 1).trans rfl; have hfz37_0 := blk_frozen BK190.out 0; have hfz37_1 := blk_frozen BK190.out 1; have hcz38_0 : w34.cell? ⟨gb186, 0, none⟩ = some (.slice A0_0 l0_0.length c0_0) := (blk_cell BK186.out 0).trans rfl; have hcz38_1 : w34.cell? ⟨gb186, 1, none⟩ = some (.int .u32 a0_1) := (blk_cell BK186.out 1).trans rfl; have hfz38_0 := blk_frozen BK186.out 0; have hfz38_1 := blk_frozen BK186.out 1) | ((with_reducible refine gate_builtin (b := .append) (xs := #[.tmp 34, .tmp 36]) rfl ?_); (try (refine gate_guard (by rfl) ?_; dsimp only)); at_builtin; refine Kd.N_append_rows k40 (w0 := w) w.heap.size rfl (.tmp 34) (.tmp 36) 22 40 (.agg #[(.int .u32 0), (.int .u32 0), (.slice none 0 0), (.int .u32 0)]) 40 rfl Try.underlying22 info40 rfl (by decide) (by omega) (.slice none 0 0) ([] : List (S40)) l0_0 _ _ _ (fun k_ => (P0_0_ k_ ∨ w.heap.size ≤ k_) ∧ k_ ≠ gb186 ∧ k_ ≠ gb187 ∧ k_ ≠ gb190) (fun k_ => ((fun k_ => (P0_0_ k_ ∨ w.heap.size ≤ k_) ∧ k_ ≠ gb186 ∧ k_ ≠ gb187 ∧ k_ ≠ gb190)) k_ ∧ some k_ ≠ (.slice none 0 0 : Value).ownBlock) rfl rfl ?aO ?aR (fun _ hk => hk) ?aF ?aB ?aS ?aL ?_; (case aR => exact (by skip; exact Kd.V_F (Kd.V_mono (ok' := (fun k_ => ((fun k_ => (P0_0_ k_ ∨ w.heap.size ≤ k_) ∧ k_ ≠ gb186 ∧ k_ ≠ gb187 ∧ k_ ≠ gb190)) k_ ∧ some k_ ≠ (.slice none 0 0 : Value).ownBlock)) ((Kd.V_far (p := ⟨gb190, 1, none⟩) (Kd.V_far (p := ⟨gb190, 0, none⟩) (Kd.V_mono HO_187000.out (fun k_ hk => (⟨hk, hk.2⟩ : _ ∧ k_ ≠ gb190))) (fun _ hk => hk.2) (.slice none 0 0)) (fun _ hk => hk.2) (.int .u32 a0_1))) (fun k_ hk => ⟨⟨hk.1.1.1, ⟨hk.1.1.2.1, ⟨hk.1.1.2.2, hk.1.2⟩⟩⟩, (by simp [Value.ownBlock])⟩)))); (case aB => exact (by repeat (first | (with_reducible first | exact HB.out | apply below_alloc | apply pw_below_drewN | apply below_drew1 | refine below_set ?_ GE186.out | refine below_set ?_ GE187.out | refine below_set ?_ GE190.out) | exact HB.out))); (case aF => exact (fun k_ hk => ⟨(.inr (Nat.le_trans (below_size (by repeat (first | (with_reducible first | exact HB.out | apply below_alloc | apply pw_below_drewN | apply below_drew1 | refine below_set ?_ GE186.out | refine below_set ?_ GE187.out | refine below_set ?_ GE190.out) | exact HB.out))) hk)), Kd.freshB (g := gb186) (o := .cells #[.slice A0_0 l0_0.length c0_0, .int .u32 a0_1] 25 (0, 0)) (by (with_reducible repeat (first | refine blk_drewN ?_ _ | refine blk_drew ?_ | refine blk_alloc ?_ _)); refine blk_far ?_ NB186_190.out _; (with_reducible repeat (first | refine blk_drewN ?_ _ | refine blk_drew ?_ | refine blk_alloc ?_ _)); refine blk_far ?_ NB186_190.out _; (with_reducible repeat (first | refine blk_drewN ?_ _ | refine blk_drew ?_ | refine blk_alloc ?_ _)); exact BK186.out) k_ hk, Kd.freshB (g := gb187) (o := .cells #[.int .u32 a1_0, .int .u32 a1_1, .int .u64 a1_2, .int .u64 a1_3, .int .u64 a1_4, .int .u64 a1_5, .int .u64 a1_6, .int .u64 a1_7, .int .u64 a1_8] 44 (0, 0)) (by (with_reducible repeat (first | refine blk_drewN ?_ _ | refine blk_drew ?_ | refine blk_alloc ?_ _)); refine blk_far ?_ NB187_190.out _; (with_reducible repeat (first | refine blk_drewN ?_ _ | refine blk_drew ?_ | refine blk_alloc ?_ _)); refine blk_far ?_ NB187_190.out _; (with_reducible repeat (first | refine blk_drewN ?_ _ | refine blk_drew ?_ | refine blk_alloc ?_ _)); exact BK187.out) k_ hk, Kd.freshB (g := gb190) (o := .cells #[.slice none 0 0, .int .u32 a0_1] 25 (0, 0)) (by (with_reducible repeat (first | refine blk_drewN ?_ _ | refine blk_drew ?_ | refine blk_alloc ?_ _)); refine blk_put (cs := #[.slice none 0 0, .int .u32 0]) ?_ 1 _ rfl; (with_reducible repeat (first | refine blk_drewN ?_ _ | refine blk_drew ?_ | refine blk_alloc ?_ _)); refine blk_put (cs := #[.slice none 0 0, .int .u32 0]) ?_ 0 _ rfl; (with_reducible repeat (first | refine blk_drewN ?_ _ | refine blk_drew ?_ | refine blk_alloc ?_ _)); exact BK190.out) k_ hk⟩)); (case aO => exact ((Kd.N_nil _ _ _ _ (fun k_ => (P0_0_ k_ ∨ w.heap.size ≤ k_) ∧ k_ ≠ gb186 ∧ k_ ≠ gb187 ∧ k_ ≠ gb190)))); (case aS => exact (below_size (by repeat (first | (with_reducible first | exact HB.out | apply below_alloc | apply pw_below_drewN | apply below_drew1 | refine below_set ?_ GE186.out | refine below_set ?_ GE187.out | refine below_set ?_ GE190.out) | exact HB.out)))); (case aL => have := LMc20.out; omega); intro v192 w39 ho hb hg hat; rw [← Ny191.out] at ho; have n0_ := Aside0.mk (Kd.V_afterv (Kd.V_apart_nil (by (with_reducible repeat (first | apply Kd.V_alloc | apply Kd.V_drewN | apply Kd.V_drew)); exact (Kd.V_mono (Kd.V_far (p := ⟨gb190, 1, none⟩) (Kd.V_far (p := ⟨gb190, 0, none⟩) (Kd.V_mono HO_187000.out (fun k_ hk => (⟨hk, hk.2⟩ : _ ∧ k_ ≠ gb190))) (fun _ hk => hk.2) (.slice none 0 0)) (fun _ hk => hk.2) (.int .u32 a0_1)) (fun _ h_ => h_.1)))) hg hat); have n1_ := Aside0.mk (blk_grown (g := gb186) (o := .cells #[.slice A0_0 l0_0.length c0_0, .int .u32 a0_1] 25 (0, 0)) (by (with_reducible repeat (first | refine blk_drewN ?_ _ | refine blk_drew ?_ | refine blk_alloc ?_ _)); refine blk_far ?_ NB186_190.out _; (with_reducible repeat (first | refine blk_drewN ?_ _ | refine blk_drew ?_ | refine blk_alloc ?_ _)); refine blk_far ?_ NB186_190.out _; (with_reducible repeat (first | refine blk_drewN ?_ _ | refine blk_drew ?_ | refine blk_alloc ?_ _)); exact BK186.out) hg (by simp [Value.ownBlock])); have n2_ := Aside0.mk (blk_grown (g := gb187) (o := .cells #[.int .u32 a1_0, .int .u32 a1_1, .int .u64 a1_2, .int .u64 a1_3, .int .u64 a1_4, .int .u64 a1_5, .int .u64 a1_6, .int .u64 a1_7, .int .u64 a1_8] 44 (0, 0)) (by (with_reducible repeat (first | refine blk_drewN ?_ _ | refine blk_drew ?_ | refine blk_alloc ?_ _)); refine blk_far ?_ NB187_190.out _; (with_reducible repeat (first | refine blk_drewN ?_ _ | refine blk_drew ?_ | refine blk_alloc ?_ _)); refine blk_far ?_ NB187_190.out _; (with_reducible repeat (first | refine blk_drewN ?_ _ | refine blk_drew ?_ | refine blk_alloc ?_ _)); exact BK187.out) hg (by simp [Value.ownBlock])); have n3_ := Aside0.mk (blk_grown (g := gb190) (o := .cells #[.slice none 0 0, .int .u32 a0_1] 25 (0, 0)) (by (with_reducible repeat (first | refine blk_drewN ?_ _ | refine blk_drew ?_ | refine blk_alloc ?_ _)); refine blk_put (cs := #[.slice none 0 0, .int .u32 0]) ?_ 1 _ rfl; (with_reducible repeat (first | refine blk_drewN ?_ _ | refine blk_drew ?_ | refine blk_alloc ?_ _)); refine blk_put (cs := #[.slice none 0 0, .int .u32 0]) ?_ 0 _ rfl; (with_reducible repeat (first | refine blk_drewN ?_ _ | refine blk_drew ?_ | refine blk_alloc ?_ _)); exact BK190.out) hg (by simp [Value.ownBlock])); have n4_ := Aside0.mk (hb); have n5_ := Aside0.mk (ho); clear HO_187000; clear BK186; clear BK187; clear BK190; clear HB; have HO_187000 := n0_; have BK186 := n1_; have BK187 := n2_; have BK190 := n3_; have HB := n4_; have HO193 := n5_; clear n0_ n1_ n2_ n3_ n4_ n5_; clear ho hb hg hat; obtain ⟨Ao40, co40, eo40⟩ := Kd.N_slice HO193.out; subst eo40; have hcz41_0 : w39.cell? ⟨gb190, 0, none⟩ = some (.slice none 0 0) := (blk_cell BK190.out 0).trans rfl; have hcz41_1 : w39.cell? ⟨gb190, 1, none⟩ = some (.int .u32 a0_1) := (blk_cell BK190.out 1).trans rfl; have hfz41_0 := blk_frozen BK190.out 0; have hfz41_1 := blk_frozen BK190.out 1))
                        have n0_ : Aside0 (Kd.V k40 40 (w39.setCell ⟨gb190, 0, none⟩ (.slice Ao40 y191.length co40)) w.heap.size (fun k_ => (P0_0_ k_ ∨ w.heap.size ≤ k_) ∧ some k_ ≠ (.slice Ao40 y191.length co40 : Value).ownBlock ∧ k_ ≠ gb186 ∧ k_ ≠ gb187 ∧ k_ ≠ gb190) (.slice A0_0 l0_0.length c0_0) l0_0) := ⟨by (with_reducible repeat (first | apply Kd.V_alloc | apply Kd.V_drewN | apply Kd.V_drew)); exact Kd.V_mono (Kd.V_far (p := ⟨gb190, 0, none⟩) (Kd.V_mono HO_187000.out (fun k_ hk => (⟨hk, hk.1.2⟩ : _ ∧ k_ ≠ gb190))) (fun _ hk => hk.2) (.slice Ao40 y191.length co40)) (fun _ hk => ⟨hk.1.1.1.1, ⟨hk.1.2, ⟨hk.1.1.1.2.1, ⟨hk.1.1.1.2.2, hk.1.1.2⟩⟩⟩⟩)⟩
                        have n1_ : Aside0 (Kd.N k40 40 (w39.setCell ⟨gb190, 0, none⟩ (.slice Ao40 y191.length co40)) w.heap.size (fun k_ => (P0_0_ k_ ∨ w.heap.size ≤ k_) ∧ k_ ≠ gb186 ∧ k_ ≠ gb187 ∧ k_ ≠ gb190) (.slice Ao40 y191.length co40) y191) := ⟨by (with_reducible repeat (first | apply Kd.N_alloc | apply Kd.N_drewN | apply Kd.N_drew)); exact Kd.N_mono (Kd.N_far (p := ⟨gb190, 0, none⟩) (Kd.N_mono HO193.out (fun k_ hk => (⟨hk, hk.2.2.2⟩ : _ ∧ k_ ≠ gb190))) (fun _ hk => hk.2) (.slice Ao40 y191.length co40)) (fun _ hk => ⟨hk.1.1, ⟨hk.1.2.1, ⟨hk.1.2.2.1, hk.1.2.2.2⟩⟩⟩)⟩
                        have n2_ : Aside0 ((w39.setCell ⟨gb190, 0, none⟩ (.slice Ao40 y191.length co40)).heap[gb186]? = some (.cells #[.slice A0_0 l0_0.length c0_0, .int .u32 a0_1] 25 (0, 0))) := ⟨by (with_reducible repeat (first | refine blk_drewN ?_ _ | refine blk_drew ?_ | refine blk_alloc ?_ _)); refine blk_far ?_ NB186_190.out _; (with_reducible repeat (first | refine blk_drewN ?_ _ | refine blk_drew ?_ | refine blk_alloc ?_ _)); exact BK186.out⟩
                        have n3_ : Aside0 ((w39.setCell ⟨gb190, 0, none⟩ (.slice Ao40 y191.length co40)).heap[gb187]? = some (.cells #[.int .u32 a1_0, .int .u32 a1_1, .int .u64 a1_2, .int .u64 a1_3, .int .u64 a1_4, .int .u64 a1_5, .int .u64 a1_6, .int .u64 a1_7, .int .u64 a1_8] 44 (0, 0))) := ⟨by (with_reducible repeat (first | refine blk_drewN ?_ _ | refine blk_drew ?_ | refine blk_alloc ?_ _)); refine blk_far ?_ NB187_190.out _; (with_reducible repeat (first | refine blk_drewN ?_ _ | refine blk_drew ?_ | refine blk_alloc ?_ _)); exact BK187.out⟩
                        have n4_ : Aside0 ((w39.setCell ⟨gb190, 0, none⟩ (.slice Ao40 y191.length co40)).heap[gb190]? = some (.cells #[.slice Ao40 y191.length co40, .int .u32 a0_1] 25 (0, 0))) := ⟨by (with_reducible repeat (first | refine blk_drewN ?_ _ | refine blk_drew ?_ | refine blk_alloc ?_ _)); refine blk_put (cs := #[.slice none 0 0, .int .u32 a0_1]) ?_ 0 _ rfl; (with_reducible repeat (first | refine blk_drewN ?_ _ | refine blk_drew ?_ | refine blk_alloc ?_ _)); exact BK190.out⟩
                        have n5_ : Aside0 (Below w.heap.size w (w39.setCell ⟨gb190, 0, none⟩ (.slice Ao40 y191.length co40))) := ⟨by repeat (first | (with_reducible first | exact HB.out | apply below_alloc | apply pw_below_drewN | apply below_drew1 | refine below_set ?_ GE186.out | refine below_set ?_ GE187.out | refine below_set ?_ GE190.out) | exact HB.out)⟩
                        (try clear HO_187000)
                        (try clear HO193)
                        (try clear BK186)
                        (try clear BK187)
                        (try clear BK190)
                        (try clear HB)
                        generalize (w39.setCell ⟨gb190, 0, none⟩ (.slice Ao40 y191.length co40)) = w42 at n0_ n1_ n2_ n3_ n4_ n5_ ⊢
                        have HO_187000 := n0_
                        have HO193 := n1_
                        have BK186 := n2_
                        have BK187 := n3_
                        have BK190 := n4_
                        have HB := n5_
                        clear n0_ n1_ n2_ n3_ n4_ n5_
                        have n0_ := Aside0.mk (Kd.V_drew HO_187000.out)
                        have n1_ := Aside0.mk (Kd.N_drew HO193.out)
                        have n2_ := Aside0.mk (blk_drew BK186.out)
                        have n3_ := Aside0.mk (blk_drew BK187.out)
                        have n4_ := Aside0.mk (blk_drew BK190.out)
                        have n5_ := Aside0.mk (below_drew1 HB.out)
                        clear HO_187000
                        clear HO193
                        clear BK186
                        clear BK187
                        clear BK190
                        clear HB
                        have HO_187000 := n0_
                        have HO193 := n1_
                        have BK186 := n2_
                        have BK187 := n3_
                        have BK190 := n4_
                        have HB := n5_
                        clear n0_ n1_ n2_ n3_ n4_ n5_
                        have p194 : 0 ≤ ((ji21) : Int) := of_decide_eq_true (by first | (with_reducible assumption) | assumption)
                        have q194 : (ji21) < (l0_0.length : Int) := of_decide_eq_true (by first | (with_reducible assumption) | assumption)
                        obtain ⟨ad194, A194_2, c194_2, e194, hx194_0, hx194_1, hx194_2, hx194_3, hl194_2, hi194_2⟩ := at_T40 (Kd.V_reads' HO_187000.out).2.2 (ji21) p194 q194
                        cases e194
                        obtain ⟨ce194, hce194, hMe194, hcc194⟩ := Kd.V_get HO_187000.out z40 (ji21) p194 (by first | exact q194 | exact of_decide_eq_true (by first | (with_reducible assumption) | assumption) | (have e_ := (Kd.V_reads' HO_187000.out).1; omega))
                        obtain ⟨ua194_2, uc194_2, rfl, ul194_2, ge194_2⟩ := k40_openF hMe194
                        have hv194_2 := hcc194 2 _ rfl
                        rw [add_field _ _ 2 (by omega)] at hv194_2
                        replace hv194_2 := Option.some.inj (hv194_2.symm.trans hx194_2)
                        injection hv194_2 with hva_ hvn_ hvc_
                        rw [hva_] at ge194_2
                        rw [hvc_] at ul194_2
                        have HL194_2 := Aside0.mk (show Kd.V k61 61 _ w.heap.size _ _ ((rd_T40 l0_0 (ji21)).f2) from Kd.V_mk ul194_2 ge194_2)
                        clear hva_ hvn_ hvc_ ge194_2 ul194_2
                        clear hcc194 hce194
                        have HR194_2 := Aside0.mk hi194_2
                        have HC194_2 := Aside0.mk hl194_2
                        clear hi194_2 hl194_2
                        replace p194 := eq_true p194
                        replace q194 := eq_true q194
                        have p27 : 0 ≤ ((ji24) : Int) := of_decide_eq_true (by first | (with_reducible assumption) | assumption)
                        have q27 : ((ji24) : Int) < ((y191.length : Int) : Int) := of_decide_eq_true (by first | (with_reducible assumption) | assumption)
                        obtain ⟨go27, co27, eo27, gb27, gl27, cl27, HG27⟩ := Kd.N_form HO193.out (by omega)
                        (first | cases eo27 | (injection eo27 with ea_ en_ ec_; (first | subst ea_ | (injection ea_ with ea_; subst ea_)); subst ec_; clear en_))
                        have GB27 := Aside0.mk gb27
                        have GG27 := Aside0.mk HG27
                        clear gb27 gl27 HG27
                        obtain ⟨ce27, hcl27, hM27, hcc27, hfr27⟩ := Kd.N_elem HO193.out z40 ((ji24) : Int) p27 q27
                        obtain ⟨ua27_2, uc27_2, rfl, ul27_2, ge27_2⟩ := k40_openF hM27
                        have hx27_0 : World.cell? _ ⟨go27, ((ji24) : Int).toNat * 4, none⟩ = some (.int .u32 ((rd_T40 y191 (ji24)).f0)) := hcc27 0 _ rfl
                        have hx27_1 : World.cell? _ ⟨go27, ((ji24) : Int).toNat * 4 + 1, none⟩ = some (.int .u32 ((rd_T40 y191 (ji24)).f1)) := hcc27 1 _ rfl
                        have hx27_2 : World.cell? _ ⟨go27, ((ji24) : Int).toNat * 4 + 2, none⟩ = some (.slice ua27_2 ((rd_T40 y191 (ji24)).f2).length uc27_2) := hcc27 2 _ rfl
                        have hx27_3 : World.cell? _ ⟨go27, ((ji24) : Int).toNat * 4 + 3, none⟩ = some (.int .u32 ((rd_T40 y191 (ji24)).f3)) := hcc27 3 _ rfl
                        have hf27_0 : World.frozen? _ ⟨go27, ((ji24) : Int).toNat * 4, none⟩ = false := hfr27 0
                        have hf27_1 : World.frozen? _ ⟨go27, ((ji24) : Int).toNat * 4 + 1, none⟩ = false := hfr27 1
                        have hf27_2 : World.frozen? _ ⟨go27, ((ji24) : Int).toNat * 4 + 2, none⟩ = false := hfr27 2
                        have hf27_3 : World.frozen? _ ⟨go27, ((ji24) : Int).toNat * 4 + 3, none⟩ = false := hfr27 3
                        clear hcl27 hcc27 hfr27 hM27
                        replace p27 := eq_true p27
                        replace q27 := eq_true q27
                        have HX44 := Aside0.mk (show Kd.N k40 40 _ w.heap.size (fun k_ => (P0_0_ k_ ∨ w.heap.size ≤ k_) ∧ k_ ≠ gb186 ∧ k_ ≠ gb187 ∧ k_ ≠ gb190) (.slice (some ⟨go27, 0, none⟩) y191.length co40) y191 from (Kd.N_mono (HO193.out) (fun k_ hk => ⟨hk.1, ⟨hk.2.1, ⟨hk.2.2.1, hk.2.2.2⟩⟩⟩)))
                        obtain ⟨ce44, hcl44, hM44, hcc44, hfr44⟩ := Kd.N_elem HX44.out z40 ((ji24) : Int) (of_decide_eq_true (by first | (with_reducible assumption) | assumption)) (by have h_ : ((ji24) : Int) < ((y191.length : Int) : Int) := of_decide_eq_true (by first | (with_reducible assumption) | assumption); first | exact h_ | (have e_ := (Kd.N_reads' HO193.out).1; omega) | simpa using h_)
                        obtain ⟨ua44_2, uc44_2, rfl, ul44_2, ge44_2⟩ := k40_openF hM44
                        have HP44 := (Kd.N_seg HX44.out ((ji24) : Int) (of_decide_eq_true (by first | (with_reducible assumption) | assumption)) (by have h_ : ((ji24) : Int) < ((y191.length : Int) : Int) := of_decide_eq_true (by first | (with_reducible assumption) | assumption); first | exact h_ | (have e_ := (Kd.N_reads' HO193.out).1; omega) | simpa using h_) (seg := [.int .u32 ((rd_T40 l0_0 (ji21)).f0), .int .u32 ((rd_T40 l0_0 (ji21)).f1), .slice A194_2 ((rd_T40 l0_0 (ji21)).f2).length c194_2, .int .u32 ((rd_T40 l0_0 (ji21)).f3)]) (j := 0) hcl44 hcc44 (show 4 ≤ 4 from by decide) (x' := (⟨(rd_T40 l0_0 (ji21)).f0, (rd_T40 l0_0 (ji21)).f1, (rd_T40 l0_0 (ji21)).f2, (rd_T40 l0_0 (ji21)).f3⟩ : S40)) (k40_mkF _ _ (⟨(rd_T40 l0_0 (ji21)).f0, (rd_T40 l0_0 (ji21)).f1, (rd_T40 l0_0 (ji21)).f2, (rd_T40 l0_0 (ji21)).f3⟩ : S40) (Kd.V_reads' (Kd.V_mono (ok' := (fun k_ => ((fun k_ => (P0_0_ k_ ∨ w.heap.size ≤ k_) ∧ k_ ≠ gb186 ∧ k_ ≠ gb187 ∧ k_ ≠ gb190)) k_ ∧ k_ ≠ go27)) (HL194_2.out) (fun k_ hk => ⟨⟨hk.1, ⟨hk.2.2.1, ⟨hk.2.2.2.1, hk.2.2.2.2⟩⟩⟩, fun e_ => (hk.2.1) (by rw [e_]; rfl)⟩))).2.1 (Kd.V_F (Kd.V_mono (ok' := (fun k_ => ((fun k_ => (P0_0_ k_ ∨ w.heap.size ≤ k_) ∧ k_ ≠ gb186 ∧ k_ ≠ gb187 ∧ k_ ≠ gb190)) k_ ∧ k_ ≠ go27)) (HL194_2.out) (fun k_ hk => ⟨⟨hk.1, ⟨hk.2.2.1, ⟨hk.2.2.2.1, hk.2.2.2.2⟩⟩⟩, fun e_ => (hk.2.1) (by rw [e_]; rfl)⟩)))) (fun _ hk => hk)).1
                        rw [← Ny195.out] at HP44
                        have HQ44 := Aside0.mk HP44
                        clear hcl44 hcc44 hfr44 hM44 HP44
                        refine start_ (n := 11) (S := fun w' => w'.cell? ⟨gb190, 0, none⟩ = some (.slice (some ⟨go27, 0, none⟩) y191.length co40) ∧ w'.cell? ⟨gb190, 1, none⟩ = some (.int .u32 a0_1) ∧ w'.cell? ⟨gb186, 0, none⟩ = some (.slice (some ad194) l0_0.length c0_0) ∧ w'.cell? ⟨gb186, 1, none⟩ = some (.int .u32 a0_1) ∧ w'.cell? (ad194.add (((ji21)).toNat * 4)) = some (.int .u32 ((rd_T40 l0_0 (ji21)).f0)) ∧ w'.cell? ⟨(ad194.add (((ji21)).toNat * 4)).block, (ad194.add (((ji21)).toNat * 4)).off + 1, none⟩ = some (.int .u32 ((rd_T40 l0_0 (ji21)).f1)) ∧ w'.cell? ⟨(ad194.add (((ji21)).toNat * 4)).block, (ad194.add (((ji21)).toNat * 4)).off + 2, none⟩ = some (.slice A194_2 ((rd_T40 l0_0 (ji21)).f2).length c194_2) ∧ w'.cell? ⟨(ad194.add (((ji21)).toNat * 4)).block, (ad194.add (((ji21)).toNat * 4)).off + 3, none⟩ = some (.int .u32 ((rd_T40 l0_0 (ji21)).f3))) (ds := [10]) #[false, false, false, false, false, false, false, false, false, false, false] (by kernel_rfl) rfl rfl ⟨(blk_cell BK190.out 0).trans rfl, (blk_cell BK190.out 1).trans rfl, (blk_cell BK186.out 0).trans rfl, (blk_cell BK186.out 1).trans rfl, hx194_0, hx194_1, hx194_2, hx194_3⟩ (fun hHeld => ?_); refine with_tabW hurdlelaw11_DenoteSwaps.tab6 hurdlelaw11_DenoteSwaps.bits6 (fun HT_ HW_ => ?_)
                        generalize w42.drew = w43 at HO_187000 HO193 BK186 BK187 BK190 HB GG27 HL194_2 HQ44 HR194_2 hf27_0 hf27_1 hf27_2 hf27_3 hx194_0 hx194_1 hx194_2 hx194_3 hx27_0 hx27_1 hx27_2 hx27_3 hHeld ⊢
                        refine pure_ (i := 0) (N := some 39) (v := ?_) (a' := ?_) #[true, false, false, false, false, false, false, false, false, false, false] rfl rfl (any_of HT_.out (by kernel_rfl)) (fun _ _ _ h => h) (Or.inl ⟨by rfl, ?_⟩) ?_ ?_
                        rotate_left
                        · intro w'
                          go_simp
                          with_reducible rfl
                        rotate_left
                        · simp only [Act.put, List.setIfInBounds_toArray, List.set_cons_zero, List.set_cons_succ, i64_w, i32_w]
                          rfl
                        refine pure_ (i := 2) (N := some 41) (v := ?_) (a' := ?_) #[true, false, true, false, false, false, false, false, false, false, false] rfl rfl (any_of HT_.out (by kernel_rfl)) (fun _ _ _ h => h) (Or.inl ⟨by rfl, ?_⟩) ?_ ?_
                        rotate_left
                        · intro w'
                          go_simp
                          with_reducible rfl
                        rotate_left
                        · simp only [Act.put, List.setIfInBounds_toArray, List.set_cons_zero, List.set_cons_succ, i64_w, i32_w]
                          rfl
                        refine pure_ (i := 3) (N := some 42) (v := ?_) (a' := ?_) #[true, false, true, true, false, false, false, false, false, false, false] rfl rfl (any_of HT_.out (by kernel_rfl)) (fun _ _ _ h => h) (Or.inl ⟨by rfl, ?_⟩) ?_ ?_
                        rotate_left
                        · intro w'
                          go_simp
                          with_reducible rfl
                        rotate_left
                        · simp only [Act.put, List.setIfInBounds_toArray, List.set_cons_zero, List.set_cons_succ, i64_w, i32_w]
                          rfl
                        refine pure_ (i := 5) (N := some 44) (v := ?_) (a' := ?_) #[true, false, true, true, false, true, false, false, false, false, false] rfl rfl (any_of HT_.out (by kernel_rfl)) (fun _ _ _ h => h) (Or.inl ⟨by rfl, ?_⟩) ?_ ?_
                        rotate_left
                        · intro w'
                          go_simp
                          with_reducible rfl
                        rotate_left
                        · simp only [Act.put, List.setIfInBounds_toArray, List.set_cons_zero, List.set_cons_succ, i64_w, i32_w]
                          rfl
                        refine pure_ (i := 6) (N := some 45) (v := ?_) (a' := ?_) #[true, false, true, true, false, true, true, false, false, false, false] rfl rfl (any_of HT_.out (by kernel_rfl)) (fun _ _ _ h => h) (Or.inl ⟨by rfl, ?_⟩) ?_ ?_
                        rotate_left
                        · intro w'
                          go_simp
                          with_reducible rfl
                        rotate_left
                        · simp only [Act.put, List.setIfInBounds_toArray, List.set_cons_zero, List.set_cons_succ, i64_w, i32_w]
                          rfl
                        refine take_ (i := 1) (N := some 40) (v := ?_) (a' := ?_) #[true, true, true, true, false, true, true, false, false, false, false] rfl rfl (take_ofW HT_.out HW_.out (by kernel_rfl)) (fun _ _ _ h => h) (Or.inl ⟨by rfl, ?_⟩) hHeld ?_ ?_
                        rotate_left
                        · rintro w' ⟨s0, s1, s2, s3, s4, s5, s6, s7⟩
                          go_simp
                          with_reducible rfl
                        rotate_left
                        · simp only [Act.put, List.setIfInBounds_toArray, List.set_cons_zero, List.set_cons_succ, i64_w, i32_w]
                          rfl
                        refine take_ (i := 4) (N := some 43) (v := ?_) (a' := ?_) #[true, true, true, true, true, true, true, false, false, false, false] rfl rfl (take_ofW HT_.out HW_.out (by kernel_rfl)) (fun _ _ _ h => h) (Or.inl ⟨by rfl, ?_⟩) hHeld ?_ ?_
                        rotate_left
                        · rintro w' ⟨s0, s1, s2, s3, s4, s5, s6, s7⟩
                          go_simp
                          with_reducible rfl
                        rotate_left
                        · simp only [Act.put, List.setIfInBounds_toArray, List.set_cons_zero, List.set_cons_succ, i64_w, i32_w]
                          rfl
                        refine pure_ (i := 7) (N := some 46) (v := ?_) (a' := ?_) #[true, true, true, true, true, true, true, true, false, false, false] rfl rfl (any_of HT_.out (by kernel_rfl)) (fun _ _ _ h => h) (Or.inl ⟨by rfl, ?_⟩) ?_ ?_
                        rotate_left
                        · intro w'
                          go_simp
                          with_reducible rfl
                        rotate_left
                        · simp only [Act.put, List.setIfInBounds_toArray, List.set_cons_zero, List.set_cons_succ, i64_w, i32_w]
                          rfl
                        refine take_ (i := 8) (N := some 47) (v := ?_) (a' := ?_) #[true, true, true, true, true, true, true, true, true, false, false] rfl rfl (take_ofW HT_.out HW_.out (by kernel_rfl)) (fun _ _ _ h => h) (Or.inl ⟨by rfl, ?_⟩) hHeld ?_ ?_
                        rotate_left
                        · rintro w' ⟨s0, s1, s2, s3, s4, s5, s6, s7⟩
                          go_simp
                          with_reducible rfl
                        rotate_left
                        · simp only [Act.put, List.setIfInBounds_toArray, List.set_cons_zero, List.set_cons_succ, i64_w, i32_w]
                          rfl
                        refine pure_ (i := 9) (N := some 48) (v := ?_) (a' := ?_) #[true, true, true, true, true, true, true, true, true, true, false] rfl rfl (any_of HT_.out (by kernel_rfl)) (fun _ _ _ h => h) (Or.inl ⟨by rfl, ?_⟩) ?_ ?_
                        rotate_left
                        · intro w'
                          go_simp
                          with_reducible rfl
                        rotate_left
                        · simp only [Act.put, List.setIfInBounds_toArray, List.set_cons_zero, List.set_cons_succ, i64_w, i32_w]
                          rfl
                        refine last_ (i := 10) (N := none) #[true, true, true, true, true, true, true, true, true, true, true] rfl rfl (one_of HT_.out (by kernel_rfl)) (by decide) (fun K hK => ?_)
                        refine skip_ (w1 := ?_) (by rfl) rfl ?_ ?_
                        rotate_left
                        · go_simp
                          rfl
                        refine hK.out _ _ ?_
                        clear hK K
                        refine done_ (done_of HT_.out (by kernel_rfl)) ?_
                        try go_wp2
                        have n0_ : Aside0 (Kd.V k40 40 ((((w43.setCell ⟨go27, ((ji24) : Int).toNat * 4, none⟩ (.int .u32 ((rd_T40 l0_0 (ji21)).f0))).setCell ⟨go27, ((ji24) : Int).toNat * 4 + 1, none⟩ (.int .u32 ((rd_T40 l0_0 (ji21)).f1))).setCell ⟨go27, ((ji24) : Int).toNat * 4 + 2, none⟩ (.slice A194_2 ((rd_T40 l0_0 (ji21)).f2).length c194_2)).setCell ⟨go27, ((ji24) : Int).toNat * 4 + 3, none⟩ (.int .u32 ((rd_T40 l0_0 (ji21)).f3))) w.heap.size (fun k_ => (P0_0_ k_ ∨ w.heap.size ≤ k_) ∧ some k_ ≠ (.slice (some ⟨go27, 0, none⟩) y191.length co40 : Value).ownBlock ∧ k_ ≠ gb186 ∧ k_ ≠ gb187 ∧ k_ ≠ gb190) (.slice (some ad194) l0_0.length c0_0) l0_0) := ⟨by (with_reducible repeat (first | apply Kd.V_alloc | apply Kd.V_drewN | apply Kd.V_drew)); exact Kd.V_mono (Kd.V_far (p := ⟨go27, ((ji24) : Int).toNat * 4 + 3, none⟩) (Kd.V_far (p := ⟨go27, ((ji24) : Int).toNat * 4 + 2, none⟩) (Kd.V_far (p := ⟨go27, ((ji24) : Int).toNat * 4 + 1, none⟩) (Kd.V_far (p := ⟨go27, ((ji24) : Int).toNat * 4, none⟩) (Kd.V_mono HO_187000.out (fun k_ hk => (⟨hk, fun e_ => hk.2.1 (by rw [e_]; rfl)⟩ : _ ∧ k_ ≠ go27))) (fun _ hk => hk.2) (.int .u32 ((rd_T40 l0_0 (ji21)).f0))) (fun _ hk => hk.2) (.int .u32 ((rd_T40 l0_0 (ji21)).f1))) (fun _ hk => hk.2) (.slice A194_2 ((rd_T40 l0_0 (ji21)).f2).length c194_2)) (fun _ hk => hk.2) (.int .u32 ((rd_T40 l0_0 (ji21)).f3))) (fun _ hk => ⟨hk.1.1, ⟨hk.1.2.1, ⟨hk.1.2.2.1, ⟨hk.1.2.2.2.1, hk.1.2.2.2.2⟩⟩⟩⟩)⟩
                        have n1_ : Aside0 (Kd.N k40 40 ((((w43.setCell ⟨go27, ((ji24) : Int).toNat * 4, none⟩ (.int .u32 ((rd_T40 l0_0 (ji21)).f0))).setCell ⟨go27, ((ji24) : Int).toNat * 4 + 1, none⟩ (.int .u32 ((rd_T40 l0_0 (ji21)).f1))).setCell ⟨go27, ((ji24) : Int).toNat * 4 + 2, none⟩ (.slice A194_2 ((rd_T40 l0_0 (ji21)).f2).length c194_2)).setCell ⟨go27, ((ji24) : Int).toNat * 4 + 3, none⟩ (.int .u32 ((rd_T40 l0_0 (ji21)).f3))) w.heap.size (fun k_ => (P0_0_ k_ ∨ w.heap.size ≤ k_) ∧ k_ ≠ gb186 ∧ k_ ≠ gb187 ∧ k_ ≠ gb190) (.slice (some ⟨go27, 0, none⟩) y191.length co40) y195) := ⟨by (with_reducible repeat (first | apply Kd.N_alloc | apply Kd.N_drewN | apply Kd.N_drew)); exact HQ44.out⟩
                        have n2_ : Aside0 (Kd.V k61 61 ((((w43.setCell ⟨go27, ((ji24) : Int).toNat * 4, none⟩ (.int .u32 ((rd_T40 l0_0 (ji21)).f0))).setCell ⟨go27, ((ji24) : Int).toNat * 4 + 1, none⟩ (.int .u32 ((rd_T40 l0_0 (ji21)).f1))).setCell ⟨go27, ((ji24) : Int).toNat * 4 + 2, none⟩ (.slice A194_2 ((rd_T40 l0_0 (ji21)).f2).length c194_2)).setCell ⟨go27, ((ji24) : Int).toNat * 4 + 3, none⟩ (.int .u32 ((rd_T40 l0_0 (ji21)).f3))) w.heap.size (fun k_ => (P0_0_ k_ ∨ w.heap.size ≤ k_) ∧ some k_ ≠ (.slice (some ⟨go27, 0, none⟩) y191.length co40 : Value).ownBlock ∧ k_ ≠ gb186 ∧ k_ ≠ gb187 ∧ k_ ≠ gb190) (.slice A194_2 ((rd_T40 l0_0 (ji21)).f2).length c194_2) ((rd_T40 l0_0 (ji21)).f2)) := ⟨by (with_reducible repeat (first | apply Kd.V_alloc | apply Kd.V_drewN | apply Kd.V_drew)); exact Kd.V_mono (Kd.V_far (p := ⟨go27, ((ji24) : Int).toNat * 4 + 3, none⟩) (Kd.V_far (p := ⟨go27, ((ji24) : Int).toNat * 4 + 2, none⟩) (Kd.V_far (p := ⟨go27, ((ji24) : Int).toNat * 4 + 1, none⟩) (Kd.V_far (p := ⟨go27, ((ji24) : Int).toNat * 4, none⟩) (Kd.V_mono HL194_2.out (fun k_ hk => (⟨hk, fun e_ => hk.2.1 (by rw [e_]; rfl)⟩ : _ ∧ k_ ≠ go27))) (fun _ hk => hk.2) (.int .u32 ((rd_T40 l0_0 (ji21)).f0))) (fun _ hk => hk.2) (.int .u32 ((rd_T40 l0_0 (ji21)).f1))) (fun _ hk => hk.2) (.slice A194_2 ((rd_T40 l0_0 (ji21)).f2).length c194_2)) (fun _ hk => hk.2) (.int .u32 ((rd_T40 l0_0 (ji21)).f3))) (fun _ hk => ⟨hk.1.1, ⟨hk.1.2.1, ⟨hk.1.2.2.1, ⟨hk.1.2.2.2.1, hk.1.2.2.2.2⟩⟩⟩⟩)⟩
                        have n3_ : Aside0 (((((w43.setCell ⟨go27, ((ji24) : Int).toNat * 4, none⟩ (.int .u32 ((rd_T40 l0_0 (ji21)).f0))).setCell ⟨go27, ((ji24) : Int).toNat * 4 + 1, none⟩ (.int .u32 ((rd_T40 l0_0 (ji21)).f1))).setCell ⟨go27, ((ji24) : Int).toNat * 4 + 2, none⟩ (.slice A194_2 ((rd_T40 l0_0 (ji21)).f2).length c194_2)).setCell ⟨go27, ((ji24) : Int).toNat * 4 + 3, none⟩ (.int .u32 ((rd_T40 l0_0 (ji21)).f3))).heap[gb186]? = some (.cells #[.slice (some ad194) l0_0.length c0_0, .int .u32 a0_1] 25 (0, 0))) := ⟨by (with_reducible repeat (first | refine blk_drewN ?_ _ | refine blk_drew ?_ | refine blk_alloc ?_ _)); refine blk_far ?_ (by have h_ := Kd.N_away HO193.out (fun _ hk => hk.2.1); intro e_; exact h_ (by rw [e_]; rfl)) _; (with_reducible repeat (first | refine blk_drewN ?_ _ | refine blk_drew ?_ | refine blk_alloc ?_ _)); refine blk_far ?_ (by have h_ := Kd.N_away HO193.out (fun _ hk => hk.2.1); intro e_; exact h_ (by rw [e_]; rfl)) _; (with_reducible repeat (first | refine blk_drewN ?_ _ | refine blk_drew ?_ | refine blk_alloc ?_ _)); refine blk_far ?_ (by have h_ := Kd.N_away HO193.out (fun _ hk => hk.2.1); intro e_; exact h_ (by rw [e_]; rfl)) _; (with_reducible repeat (first | refine blk_drewN ?_ _ | refine blk_drew ?_ | refine blk_alloc ?_ _)); refine blk_far ?_ (by have h_ := Kd.N_away HO193.out (fun _ hk => hk.2.1); intro e_; exact h_ (by rw [e_]; rfl)) _; (with_reducible repeat (first | refine blk_drewN ?_ _ | refine blk_drew ?_ | refine blk_alloc ?_ _)); exact BK186.out⟩
                        have n4_ : Aside0 (((((w43.setCell ⟨go27, ((ji24) : Int).toNat * 4, none⟩ (.int .u32 ((rd_T40 l0_0 (ji21)).f0))).setCell ⟨go27, ((ji24) : Int).toNat * 4 + 1, none⟩ (.int .u32 ((rd_T40 l0_0 (ji21)).f1))).setCell ⟨go27, ((ji24) : Int).toNat * 4 + 2, none⟩ (.slice A194_2 ((rd_T40 l0_0 (ji21)).f2).length c194_2)).setCell ⟨go27, ((ji24) : Int).toNat * 4 + 3, none⟩ (.int .u32 ((rd_T40 l0_0 (ji21)).f3))).heap[gb187]? = some (.cells #[.int .u32 a1_0, .int .u32 a1_1, .int .u64 a1_2, .int .u64 a1_3, .int .u64 a1_4, .int .u64 a1_5, .int .u64 a1_6, .int .u64 a1_7, .int .u64 a1_8] 44 (0, 0))) := ⟨by (with_reducible repeat (first | refine blk_drewN ?_ _ | refine blk_drew ?_ | refine blk_alloc ?_ _)); refine blk_far ?_ (by have h_ := Kd.N_away HO193.out (fun _ hk => hk.2.2.1); intro e_; exact h_ (by rw [e_]; rfl)) _; (with_reducible repeat (first | refine blk_drewN ?_ _ | refine blk_drew ?_ | refine blk_alloc ?_ _)); refine blk_far ?_ (by have h_ := Kd.N_away HO193.out (fun _ hk => hk.2.2.1); intro e_; exact h_ (by rw [e_]; rfl)) _; (with_reducible repeat (first | refine blk_drewN ?_ _ | refine blk_drew ?_ | refine blk_alloc ?_ _)); refine blk_far ?_ (by have h_ := Kd.N_away HO193.out (fun _ hk => hk.2.2.1); intro e_; exact h_ (by rw [e_]; rfl)) _; (with_reducible repeat (first | refine blk_drewN ?_ _ | refine blk_drew ?_ | refine blk_alloc ?_ _)); refine blk_far ?_ (by have h_ := Kd.N_away HO193.out (fun _ hk => hk.2.2.1); intro e_; exact h_ (by rw [e_]; rfl)) _; (with_reducible repeat (first | refine blk_drewN ?_ _ | refine blk_drew ?_ | refine blk_alloc ?_ _)); exact BK187.out⟩
                        have n5_ : Aside0 (((((w43.setCell ⟨go27, ((ji24) : Int).toNat * 4, none⟩ (.int .u32 ((rd_T40 l0_0 (ji21)).f0))).setCell ⟨go27, ((ji24) : Int).toNat * 4 + 1, none⟩ (.int .u32 ((rd_T40 l0_0 (ji21)).f1))).setCell ⟨go27, ((ji24) : Int).toNat * 4 + 2, none⟩ (.slice A194_2 ((rd_T40 l0_0 (ji21)).f2).length c194_2)).setCell ⟨go27, ((ji24) : Int).toNat * 4 + 3, none⟩ (.int .u32 ((rd_T40 l0_0 (ji21)).f3))).heap[gb190]? = some (.cells #[.slice (some ⟨go27, 0, none⟩) y191.length co40, .int .u32 a0_1] 25 (0, 0))) := ⟨by (with_reducible repeat (first | refine blk_drewN ?_ _ | refine blk_drew ?_ | refine blk_alloc ?_ _)); refine blk_far ?_ (by have h_ := Kd.N_away HO193.out (fun _ hk => hk.2.2.2); intro e_; exact h_ (by rw [e_]; rfl)) _; (with_reducible repeat (first | refine blk_drewN ?_ _ | refine blk_drew ?_ | refine blk_alloc ?_ _)); refine blk_far ?_ (by have h_ := Kd.N_away HO193.out (fun _ hk => hk.2.2.2); intro e_; exact h_ (by rw [e_]; rfl)) _; (with_reducible repeat (first | refine blk_drewN ?_ _ | refine blk_drew ?_ | refine blk_alloc ?_ _)); refine blk_far ?_ (by have h_ := Kd.N_away HO193.out (fun _ hk => hk.2.2.2); intro e_; exact h_ (by rw [e_]; rfl)) _; (with_reducible repeat (first | refine blk_drewN ?_ _ | refine blk_drew ?_ | refine blk_alloc ?_ _)); refine blk_far ?_ (by have h_ := Kd.N_away HO193.out (fun _ hk => hk.2.2.2); intro e_; exact h_ (by rw [e_]; rfl)) _; (with_reducible repeat (first | refine blk_drewN ?_ _ | refine blk_drew ?_ | refine blk_alloc ?_ _)); exact BK190.out⟩
                        have n6_ : Aside0 (Below w.heap.size w ((((w43.setCell ⟨go27, ((ji24) : Int).toNat * 4, none⟩ (.int .u32 ((rd_T40 l0_0 (ji21)).f0))).setCell ⟨go27, ((ji24) : Int).toNat * 4 + 1, none⟩ (.int .u32 ((rd_T40 l0_0 (ji21)).f1))).setCell ⟨go27, ((ji24) : Int).toNat * 4 + 2, none⟩ (.slice A194_2 ((rd_T40 l0_0 (ji21)).f2).length c194_2)).setCell ⟨go27, ((ji24) : Int).toNat * 4 + 3, none⟩ (.int .u32 ((rd_T40 l0_0 (ji21)).f3)))) := ⟨by repeat (first | (with_reducible first | exact HB.out | apply below_alloc | apply pw_below_drewN | apply below_drew1 | refine below_set ?_ GB27.out | refine below_set ?_ GB27.out | refine below_set ?_ GB27.out | refine below_set ?_ GB27.out | refine below_set ?_ GE186.out | refine below_set ?_ GE187.out | refine below_set ?_ GE190.out) | exact HB.out)⟩
                        (try clear HO_187000)
                        (try clear HO193)
                        (try clear HL194_2)
                        (try clear BK186)
                        (try clear BK187)
                        (try clear BK190)
                        (try clear HB)
                        generalize ((((w43.setCell ⟨go27, ((ji24) : Int).toNat * 4, none⟩ (.int .u32 ((rd_T40 l0_0 (ji21)).f0))).setCell ⟨go27, ((ji24) : Int).toNat * 4 + 1, none⟩ (.int .u32 ((rd_T40 l0_0 (ji21)).f1))).setCell ⟨go27, ((ji24) : Int).toNat * 4 + 2, none⟩ (.slice A194_2 ((rd_T40 l0_0 (ji21)).f2).length c194_2)).setCell ⟨go27, ((ji24) : Int).toNat * 4 + 3, none⟩ (.int .u32 ((rd_T40 l0_0 (ji21)).f3))) = w45 at n0_ n1_ n2_ n3_ n4_ n5_ n6_ ⊢
                        have HO_187000 := n0_
                        have HO193 := n1_
                        have HL194_2 := n2_
                        have BK186 := n3_
                        have BK187 := n4_
                        have BK190 := n5_
                        have HB := n6_
                        clear n0_ n1_ n2_ n3_ n4_ n5_ n6_
                        have n0_ := Aside0.mk (Kd.V_drew HO_187000.out)
                        have n1_ := Aside0.mk (Kd.N_drew HO193.out)
                        have n2_ := Aside0.mk (Kd.V_drew HL194_2.out)
                        have n3_ := Aside0.mk (blk_drew BK186.out)
                        have n4_ := Aside0.mk (blk_drew BK187.out)
                        have n5_ := Aside0.mk (blk_drew BK190.out)
                        have n6_ := Aside0.mk (below_drew1 HB.out)
                        clear HO_187000
                        clear HO193
                        clear HL194_2
                        clear BK186
                        clear BK187
                        clear BK190
                        clear HB
                        have HO_187000 := n0_
                        have HO193 := n1_
                        have HL194_2 := n2_
                        have BK186 := n3_
                        have BK187 := n4_
                        have BK190 := n5_
                        have HB := n6_
                        clear n0_ n1_ n2_ n3_ n4_ n5_ n6_
                        have p196 : 0 ≤ ((ji24) : Int) := of_decide_eq_true (by first | (with_reducible assumption) | assumption)
                        have q196 : (ji24) < (l0_0.length : Int) := of_decide_eq_true (by first | (with_reducible assumption) | assumption)
                        obtain ⟨ad196, A196_2, c196_2, e196, hx196_0, hx196_1, hx196_2, hx196_3, hl196_2, hi196_2⟩ := at_T40 (Kd.V_reads' HO_187000.out).2.2 (ji24) p196 q196
                        obtain rfl : ad194 = ad196 := (by injection e196)
                        obtain ⟨ce196, hce196, hMe196, hcc196⟩ := Kd.V_get HO_187000.out z40 (ji24) p196 (by first | exact q196 | exact of_decide_eq_true (by first | (with_reducible assumption) | assumption) | (have e_ := (Kd.V_reads' HO_187000.out).1; omega))
                        obtain ⟨ua196_2, uc196_2, rfl, ul196_2, ge196_2⟩ := k40_openF hMe196
                        have hv196_2 := hcc196 2 _ rfl
                        rw [add_field _ _ 2 (by omega)] at hv196_2
                        replace hv196_2 := Option.some.inj (hv196_2.symm.trans hx196_2)
                        injection hv196_2 with hva_ hvn_ hvc_
                        rw [hva_] at ge196_2
                        rw [hvc_] at ul196_2
                        have HL196_2 := Aside0.mk (show Kd.V k61 61 _ w.heap.size _ _ ((rd_T40 l0_0 (ji24)).f2) from Kd.V_mk ul196_2 ge196_2)
                        clear hva_ hvn_ hvc_ ge196_2 ul196_2
                        clear hcc196 hce196
                        have HR196_2 := Aside0.mk hi196_2
                        have HC196_2 := Aside0.mk hl196_2
                        clear hi196_2 hl196_2
                        replace p196 := eq_true p196
                        replace q196 := eq_true q196
                        have p30 : 0 ≤ ((ji21) : Int) := of_decide_eq_true (by first | (with_reducible assumption) | assumption)
                        have q30 : ((ji21) : Int) < ((y191.length : Int) : Int) := of_decide_eq_true (by first | (with_reducible assumption) | assumption)
                        obtain ⟨ce30, hcl30, hM30, hcc30, hfr30⟩ := Kd.N_elem HO193.out z40 ((ji21) : Int) p30 q30
                        obtain ⟨ua30_2, uc30_2, rfl, ul30_2, ge30_2⟩ := k40_openF hM30
                        have hx30_0 : World.cell? _ ⟨go27, ((ji21) : Int).toNat * 4, none⟩ = some (.int .u32 ((rd_T40 y195 (ji21)).f0)) := hcc30 0 _ rfl
                        have hx30_1 : World.cell? _ ⟨go27, ((ji21) : Int).toNat * 4 + 1, none⟩ = some (.int .u32 ((rd_T40 y195 (ji21)).f1)) := hcc30 1 _ rfl
                        have hx30_2 : World.cell? _ ⟨go27, ((ji21) : Int).toNat * 4 + 2, none⟩ = some (.slice ua30_2 ((rd_T40 y195 (ji21)).f2).length uc30_2) := hcc30 2 _ rfl
                        have hx30_3 : World.cell? _ ⟨go27, ((ji21) : Int).toNat * 4 + 3, none⟩ = some (.int .u32 ((rd_T40 y195 (ji21)).f3)) := hcc30 3 _ rfl
                        have hf30_0 : World.frozen? _ ⟨go27, ((ji21) : Int).toNat * 4, none⟩ = false := hfr30 0
                        have hf30_1 : World.frozen? _ ⟨go27, ((ji21) : Int).toNat * 4 + 1, none⟩ = false := hfr30 1
                        have hf30_2 : World.frozen? _ ⟨go27, ((ji21) : Int).toNat * 4 + 2, none⟩ = false := hfr30 2
                        have hf30_3 : World.frozen? _ ⟨go27, ((ji21) : Int).toNat * 4 + 3, none⟩ = false := hfr30 3
                        clear hcl30 hcc30 hfr30 hM30
                        replace p30 := eq_true p30
                        replace q30 := eq_true q30
                        have HX47 := Aside0.mk (show Kd.N k40 40 _ w.heap.size (fun k_ => (P0_0_ k_ ∨ w.heap.size ≤ k_) ∧ k_ ≠ gb186 ∧ k_ ≠ gb187 ∧ k_ ≠ gb190) (.slice (some ⟨go27, 0, none⟩) y191.length co40) y195 from (Kd.N_mono (HO193.out) (fun k_ hk => ⟨hk.1, ⟨hk.2.1, ⟨hk.2.2.1, hk.2.2.2⟩⟩⟩)))
                        obtain ⟨ce47, hcl47, hM47, hcc47, hfr47⟩ := Kd.N_elem HX47.out z40 ((ji21) : Int) (of_decide_eq_true (by first | (with_reducible assumption) | assumption)) (by have h_ : ((ji21) : Int) < ((y191.length : Int) : Int) := of_decide_eq_true (by first | (with_reducible assumption) | assumption); first | exact h_ | (have e_ := (Kd.N_reads' HO193.out).1; omega) | simpa using h_)
                        obtain ⟨ua47_2, uc47_2, rfl, ul47_2, ge47_2⟩ := k40_openF hM47
                        have HP47 := (Kd.N_seg HX47.out ((ji21) : Int) (of_decide_eq_true (by first | (with_reducible assumption) | assumption)) (by have h_ : ((ji21) : Int) < ((y191.length : Int) : Int) := of_decide_eq_true (by first | (with_reducible assumption) | assumption); first | exact h_ | (have e_ := (Kd.N_reads' HO193.out).1; omega) | simpa using h_) (seg := [.int .u32 ((rd_T40 l0_0 (ji24)).f0), .int .u32 ((rd_T40 l0_0 (ji24)).f1), .slice A196_2 ((rd_T40 l0_0 (ji24)).f2).length c196_2, .int .u32 ((rd_T40 l0_0 (ji24)).f3)]) (j := 0) hcl47 hcc47 (show 4 ≤ 4 from by decide) (x' := (⟨(rd_T40 l0_0 (ji24)).f0, (rd_T40 l0_0 (ji24)).f1, (rd_T40 l0_0 (ji24)).f2, (rd_T40 l0_0 (ji24)).f3⟩ : S40)) (k40_mkF _ _ (⟨(rd_T40 l0_0 (ji24)).f0, (rd_T40 l0_0 (ji24)).f1, (rd_T40 l0_0 (ji24)).f2, (rd_T40 l0_0 (ji24)).f3⟩ : S40) (Kd.V_reads' (Kd.V_mono (ok' := (fun k_ => ((fun k_ => (P0_0_ k_ ∨ w.heap.size ≤ k_) ∧ k_ ≠ gb186 ∧ k_ ≠ gb187 ∧ k_ ≠ gb190)) k_ ∧ k_ ≠ go27)) (HL196_2.out) (fun k_ hk => ⟨⟨hk.1, ⟨hk.2.2.1, ⟨hk.2.2.2.1, hk.2.2.2.2⟩⟩⟩, fun e_ => (hk.2.1) (by rw [e_]; rfl)⟩))).2.1 (Kd.V_F (Kd.V_mono (ok' := (fun k_ => ((fun k_ => (P0_0_ k_ ∨ w.heap.size ≤ k_) ∧ k_ ≠ gb186 ∧ k_ ≠ gb187 ∧ k_ ≠ gb190)) k_ ∧ k_ ≠ go27)) (HL196_2.out) (fun k_ hk => ⟨⟨hk.1, ⟨hk.2.2.1, ⟨hk.2.2.2.1, hk.2.2.2.2⟩⟩⟩, fun e_ => (hk.2.1) (by rw [e_]; rfl)⟩)))) (fun _ hk => hk)).1
                        rw [← Ny197.out] at HP47
                        have HQ47 := Aside0.mk HP47
                        clear hcl47 hcc47 hfr47 hM47 HP47
                        refine start_ (n := 11) (S := fun w' => w'.cell? ⟨gb190, 0, none⟩ = some (.slice (some ⟨go27, 0, none⟩) y191.length co40) ∧ w'.cell? ⟨gb190, 1, none⟩ = some (.int .u32 a0_1) ∧ w'.cell? ⟨gb186, 0, none⟩ = some (.slice (some ad194) l0_0.length c0_0) ∧ w'.cell? ⟨gb186, 1, none⟩ = some (.int .u32 a0_1) ∧ w'.cell? (ad194.add (((ji24)).toNat * 4)) = some (.int .u32 ((rd_T40 l0_0 (ji24)).f0)) ∧ w'.cell? ⟨(ad194.add (((ji24)).toNat * 4)).block, (ad194.add (((ji24)).toNat * 4)).off + 1, none⟩ = some (.int .u32 ((rd_T40 l0_0 (ji24)).f1)) ∧ w'.cell? ⟨(ad194.add (((ji24)).toNat * 4)).block, (ad194.add (((ji24)).toNat * 4)).off + 2, none⟩ = some (.slice A196_2 ((rd_T40 l0_0 (ji24)).f2).length c196_2) ∧ w'.cell? ⟨(ad194.add (((ji24)).toNat * 4)).block, (ad194.add (((ji24)).toNat * 4)).off + 3, none⟩ = some (.int .u32 ((rd_T40 l0_0 (ji24)).f3))) (ds := [10]) #[false, false, false, false, false, false, false, false, false, false, false] (by kernel_rfl) rfl rfl ⟨(blk_cell BK190.out 0).trans rfl, (blk_cell BK190.out 1).trans rfl, (blk_cell BK186.out 0).trans rfl, (blk_cell BK186.out 1).trans rfl, hx196_0, hx196_1, hx196_2, hx196_3⟩ (fun hHeld => ?_); refine with_tabW hurdlelaw11_DenoteSwaps.tab7 hurdlelaw11_DenoteSwaps.bits7 (fun HT_ HW_ => ?_)
                        generalize w45.drew = w46 at HO_187000 HO193 HL194_2 BK186 BK187 BK190 HB HL196_2 HQ44 HQ47 HR196_2 hf30_0 hf30_1 hf30_2 hf30_3 hx196_0 hx196_1 hx196_2 hx196_3 hx30_0 hx30_1 hx30_2 hx30_3 hHeld ⊢
                        refine pure_ (i := 0) (N := some 49) (v := ?_) (a' := ?_) #[true, false, false, false, false, false, false, false, false, false, false] rfl rfl (any_of HT_.out (by kernel_rfl)) (fun _ _ _ h => h) (Or.inl ⟨by rfl, ?_⟩) ?_ ?_
                        rotate_left
                        · intro w'
                          go_simp
                          with_reducible rfl
                        rotate_left
                        · simp only [Act.put, List.setIfInBounds_toArray, List.set_cons_zero, List.set_cons_succ, i64_w, i32_w]
                          rfl
                        refine pure_ (i := 2) (N := some 51) (v := ?_) (a' := ?_) #[true, false, true, false, false, false, false, false, false, false, false] rfl rfl (any_of HT_.out (by kernel_rfl)) (fun _ _ _ h => h) (Or.inl ⟨by rfl, ?_⟩) ?_ ?_
                        rotate_left
                        · intro w'
                          go_simp
                          with_reducible rfl
                        rotate_left
                        · simp only [Act.put, List.setIfInBounds_toArray, List.set_cons_zero, List.set_cons_succ, i64_w, i32_w]
                          rfl
                        refine pure_ (i := 3) (N := some 52) (v := ?_) (a' := ?_) #[true, false, true, true, false, false, false, false, false, false, false] rfl rfl (any_of HT_.out (by kernel_rfl)) (fun _ _ _ h => h) (Or.inl ⟨by rfl, ?_⟩) ?_ ?_
                        rotate_left
                        · intro w'
                          go_simp
                          with_reducible rfl
                        rotate_left
                        · simp only [Act.put, List.setIfInBounds_toArray, List.set_cons_zero, List.set_cons_succ, i64_w, i32_w]
                          rfl
                        refine pure_ (i := 4) (N := some 53) (v := ?_) (a' := ?_) #[true, false, true, true, true, false, false, false, false, false, false] rfl rfl (any_of HT_.out (by kernel_rfl)) (fun _ _ _ h => h) (Or.inl ⟨by rfl, ?_⟩) ?_ ?_
                        rotate_left
                        · intro w'
                          go_simp
                          with_reducible rfl
                        rotate_left
                        · simp only [Act.put, List.setIfInBounds_toArray, List.set_cons_zero, List.set_cons_succ, i64_w, i32_w]
                          rfl
                        refine pure_ (i := 6) (N := some 55) (v := ?_) (a' := ?_) #[true, false, true, true, true, false, true, false, false, false, false] rfl rfl (any_of HT_.out (by kernel_rfl)) (fun _ _ _ h => h) (Or.inl ⟨by rfl, ?_⟩) ?_ ?_
                        rotate_left
                        · intro w'
                          go_simp
                          with_reducible rfl
                        rotate_left
                        · simp only [Act.put, List.setIfInBounds_toArray, List.set_cons_zero, List.set_cons_succ, i64_w, i32_w]
                          rfl
                        refine take_ (i := 1) (N := some 50) (v := ?_) (a' := ?_) #[true, true, true, true, true, false, true, false, false, false, false] rfl rfl (take_ofW HT_.out HW_.out (by kernel_rfl)) (fun _ _ _ h => h) (Or.inl ⟨by rfl, ?_⟩) hHeld ?_ ?_
                        rotate_left
                        · rintro w' ⟨s0, s1, s2, s3, s4, s5, s6, s7⟩
                          go_simp
                          with_reducible rfl
                        rotate_left
                        · simp only [Act.put, List.setIfInBounds_toArray, List.set_cons_zero, List.set_cons_succ, i64_w, i32_w]
                          rfl
                        refine take_ (i := 5) (N := some 54) (v := ?_) (a' := ?_) #[true, true, true, true, true, true, true, false, false, false, false] rfl rfl (take_ofW HT_.out HW_.out (by kernel_rfl)) (fun _ _ _ h => h) (Or.inl ⟨by rfl, ?_⟩) hHeld ?_ ?_
                        rotate_left
                        · rintro w' ⟨s0, s1, s2, s3, s4, s5, s6, s7⟩
                          go_simp
                          with_reducible rfl
                        rotate_left
                        · simp only [Act.put, List.setIfInBounds_toArray, List.set_cons_zero, List.set_cons_succ, i64_w, i32_w]
                          rfl
                        refine pure_ (i := 7) (N := some 56) (v := ?_) (a' := ?_) #[true, true, true, true, true, true, true, true, false, false, false] rfl rfl (any_of HT_.out (by kernel_rfl)) (fun _ _ _ h => h) (Or.inl ⟨by rfl, ?_⟩) ?_ ?_
                        rotate_left
                        · intro w'
                          go_simp
                          with_reducible rfl
                        rotate_left
                        · simp only [Act.put, List.setIfInBounds_toArray, List.set_cons_zero, List.set_cons_succ, i64_w, i32_w]
                          rfl
                        refine take_ (i := 8) (N := some 57) (v := ?_) (a' := ?_) #[true, true, true, true, true, true, true, true, true, false, false] rfl rfl (take_ofW HT_.out HW_.out (by kernel_rfl)) (fun _ _ _ h => h) (Or.inl ⟨by rfl, ?_⟩) hHeld ?_ ?_
                        rotate_left
                        · rintro w' ⟨s0, s1, s2, s3, s4, s5, s6, s7⟩
                          go_simp
                          with_reducible rfl
                        rotate_left
                        · simp only [Act.put, List.setIfInBounds_toArray, List.set_cons_zero, List.set_cons_succ, i64_w, i32_w]
                          rfl
                        refine pure_ (i := 9) (N := some 58) (v := ?_) (a' := ?_) #[true, true, true, true, true, true, true, true, true, true, false] rfl rfl (any_of HT_.out (by kernel_rfl)) (fun _ _ _ h => h) (Or.inl ⟨by rfl, ?_⟩) ?_ ?_
                        rotate_left
                        · intro w'
                          go_simp
                          with_reducible rfl
                        rotate_left
                        · simp only [Act.put, List.setIfInBounds_toArray, List.set_cons_zero, List.set_cons_succ, i64_w, i32_w]
                          rfl
                        refine last_ (i := 10) (N := none) #[true, true, true, true, true, true, true, true, true, true, true] rfl rfl (one_of HT_.out (by kernel_rfl)) (by decide) (fun K hK => ?_)
                        refine skip_ (w1 := ?_) (by rfl) rfl ?_ ?_
                        rotate_left
                        · go_simp
                          rfl
                        refine hK.out _ _ ?_
                        clear hK K
                        refine done_ (done_of HT_.out (by kernel_rfl)) ?_
                        go_upto_region 8 with (fail)
                        go_cut [88] (fun v88 wc => ∃ (kq : Nat) (x88_30 : Bool), v88 = .bool x88_30 ∧ Aside0 (hurdlelaw11_DenoteSwaps.j1 kq x88_30 l0_0 a0_1 a1_0 a1_1 a1_2 a1_3 a1_4 a1_5 a1_6 a1_7 a1_8 y197 a0_1 = some r) ∧ Aside0 (kq ≤ kj3) ∧ Aside0 (Kd.V k40 40 wc w.heap.size (fun k_ => (P0_0_ k_ ∨ w.heap.size ≤ k_) ∧ some k_ ≠ ((.slice (some ⟨go27, 0, none⟩) y191.length co40) : Value).ownBlock ∧ k_ ≠ gb186 ∧ k_ ≠ gb187 ∧ k_ ≠ gb190) (.slice (some ad194) l0_0.length c0_0) l0_0) ∧ Aside0 (Kd.N k40 40 wc w.heap.size (fun k_ => (P0_0_ k_ ∨ w.heap.size ≤ k_) ∧ k_ ≠ gb186 ∧ k_ ≠ gb187 ∧ k_ ≠ gb190) (.slice (some ⟨go27, 0, none⟩) y191.length co40) y197) ∧ Aside0 (wc.heap[gb186]? = some (.cells #[(.slice (some ad194) l0_0.length c0_0), .int .u32 a0_1] 25 (0, 0))) ∧ Aside0 (wc.heap[gb187]? = some (.cells #[.int .u32 a1_0, .int .u32 a1_1, .int .u64 a1_2, .int .u64 a1_3, .int .u64 a1_4, .int .u64 a1_5, .int .u64 a1_6, .int .u64 a1_7, .int .u64 a1_8] 44 (0, 0))) ∧ Aside0 (wc.heap[gb190]? = some (.cells #[(.slice (some ⟨go27, 0, none⟩) y191.length co40), .int .u32 a0_1] 25 (0, 0))) ∧ Aside0 (Below w.heap.size w wc))
                        case first =>
                          have H := HC31.out
                          clear HC31
                          by_cases c48 : ((rd_T40 y197 (ji24)).f0) = ((rd_T40 y197 (ji21)).f0)
                          · rw [if_pos c48] at H
                            have c48b0 : (((rd_T40 y197 (ji24)).f0) == ((rd_T40 y197 (ji21)).f0)) = true := beq_iff_eq.mpr c48
                            have c48b1 : (((rd_T40 y197 (ji24)).f0) != ((rd_T40 y197 (ji21)).f0)) = false := bne_eq_false_iff_eq.mpr c48
                            clear c48
                            (first | rw [c48b0] | (simp only [i64_w, i32_w]; rw [c48b0]) | skip)
                            have H' := Aside0.mk H
                            clear H
                            try go_wp2
                            have n0_ : Aside0 (Kd.V k40 40 ((((w46.setCell ⟨go27, ((ji21) : Int).toNat * 4, none⟩ (.int .u32 ((rd_T40 l0_0 (ji24)).f0))).setCell ⟨go27, ((ji21) : Int).toNat * 4 + 1, none⟩ (.int .u32 ((rd_T40 l0_0 (ji24)).f1))).setCell ⟨go27, ((ji21) : Int).toNat * 4 + 2, none⟩ (.slice A196_2 ((rd_T40 l0_0 (ji24)).f2).length c196_2)).setCell ⟨go27, ((ji21) : Int).toNat * 4 + 3, none⟩ (.int .u32 ((rd_T40 l0_0 (ji24)).f3))) w.heap.size (fun k_ => (P0_0_ k_ ∨ w.heap.size ≤ k_) ∧ some k_ ≠ (.slice (some ⟨go27, 0, none⟩) y191.length co40 : Value).ownBlock ∧ k_ ≠ gb186 ∧ k_ ≠ gb187 ∧ k_ ≠ gb190) (.slice (some ad194) l0_0.length c0_0) l0_0) := ⟨by (with_reducible repeat (first | apply Kd.V_alloc | apply Kd.V_drewN | apply Kd.V_drew)); exact Kd.V_mono (Kd.V_far (p := ⟨go27, ((ji21) : Int).toNat * 4 + 3, none⟩) (Kd.V_far (p := ⟨go27, ((ji21) : Int).toNat * 4 + 2, none⟩) (Kd.V_far (p := ⟨go27, ((ji21) : Int).toNat * 4 + 1, none⟩) (Kd.V_far (p := ⟨go27, ((ji21) : Int).toNat * 4, none⟩) (Kd.V_mono HO_187000.out (fun k_ hk => (⟨hk, fun e_ => hk.2.1 (by rw [e_]; rfl)⟩ : _ ∧ k_ ≠ go27))) (fun _ hk => hk.2) (.int .u32 ((rd_T40 l0_0 (ji24)).f0))) (fun _ hk => hk.2) (.int .u32 ((rd_T40 l0_0 (ji24)).f1))) (fun _ hk => hk.2) (.slice A196_2 ((rd_T40 l0_0 (ji24)).f2).length c196_2)) (fun _ hk => hk.2) (.int .u32 ((rd_T40 l0_0 (ji24)).f3))) (fun _ hk => ⟨hk.1.1, ⟨hk.1.2.1, ⟨hk.1.2.2.1, ⟨hk.1.2.2.2.1, hk.1.2.2.2.2⟩⟩⟩⟩)⟩
                            have n1_ : Aside0 (Kd.N k40 40 ((((w46.setCell ⟨go27, ((ji21) : Int).toNat * 4, none⟩ (.int .u32 ((rd_T40 l0_0 (ji24)).f0))).setCell ⟨go27, ((ji21) : Int).toNat * 4 + 1, none⟩ (.int .u32 ((rd_T40 l0_0 (ji24)).f1))).setCell ⟨go27, ((ji21) : Int).toNat * 4 + 2, none⟩ (.slice A196_2 ((rd_T40 l0_0 (ji24)).f2).length c196_2)).setCell ⟨go27, ((ji21) : Int).toNat * 4 + 3, none⟩ (.int .u32 ((rd_T40 l0_0 (ji24)).f3))) w.heap.size (fun k_ => (P0_0_ k_ ∨ w.heap.size ≤ k_) ∧ k_ ≠ gb186 ∧ k_ ≠ gb187 ∧ k_ ≠ gb190) (.slice (some ⟨go27, 0, none⟩) y191.length co40) y197) := ⟨by (with_reducible repeat (first | apply Kd.N_alloc | apply Kd.N_drewN | apply Kd.N_drew)); exact HQ47.out⟩
                            have n2_ : Aside0 (Kd.V k61 61 ((((w46.setCell ⟨go27, ((ji21) : Int).toNat * 4, none⟩ (.int .u32 ((rd_T40 l0_0 (ji24)).f0))).setCell ⟨go27, ((ji21) : Int).toNat * 4 + 1, none⟩ (.int .u32 ((rd_T40 l0_0 (ji24)).f1))).setCell ⟨go27, ((ji21) : Int).toNat * 4 + 2, none⟩ (.slice A196_2 ((rd_T40 l0_0 (ji24)).f2).length c196_2)).setCell ⟨go27, ((ji21) : Int).toNat * 4 + 3, none⟩ (.int .u32 ((rd_T40 l0_0 (ji24)).f3))) w.heap.size (fun k_ => (P0_0_ k_ ∨ w.heap.size ≤ k_) ∧ some k_ ≠ (.slice (some ⟨go27, 0, none⟩) y191.length co40 : Value).ownBlock ∧ k_ ≠ gb186 ∧ k_ ≠ gb187 ∧ k_ ≠ gb190) (.slice A194_2 ((rd_T40 l0_0 (ji21)).f2).length c194_2) ((rd_T40 l0_0 (ji21)).f2)) := ⟨by (with_reducible repeat (first | apply Kd.V_alloc | apply Kd.V_drewN | apply Kd.V_drew)); exact Kd.V_mono (Kd.V_far (p := ⟨go27, ((ji21) : Int).toNat * 4 + 3, none⟩) (Kd.V_far (p := ⟨go27, ((ji21) : Int).toNat * 4 + 2, none⟩) (Kd.V_far (p := ⟨go27, ((ji21) : Int).toNat * 4 + 1, none⟩) (Kd.V_far (p := ⟨go27, ((ji21) : Int).toNat * 4, none⟩) (Kd.V_mono HL194_2.out (fun k_ hk => (⟨hk, fun e_ => hk.2.1 (by rw [e_]; rfl)⟩ : _ ∧ k_ ≠ go27))) (fun _ hk => hk.2) (.int .u32 ((rd_T40 l0_0 (ji24)).f0))) (fun _ hk => hk.2) (.int .u32 ((rd_T40 l0_0 (ji24)).f1))) (fun _ hk => hk.2) (.slice A196_2 ((rd_T40 l0_0 (ji24)).f2).length c196_2)) (fun _ hk => hk.2) (.int .u32 ((rd_T40 l0_0 (ji24)).f3))) (fun _ hk => ⟨hk.1.1, ⟨hk.1.2.1, ⟨hk.1.2.2.1, ⟨hk.1.2.2.2.1, hk.1.2.2.2.2⟩⟩⟩⟩)⟩
                            have n3_ : Aside0 (Kd.V k61 61 ((((w46.setCell ⟨go27, ((ji21) : Int).toNat * 4, none⟩ (.int .u32 ((rd_T40 l0_0 (ji24)).f0))).setCell ⟨go27, ((ji21) : Int).toNat * 4 + 1, none⟩ (.int .u32 ((rd_T40 l0_0 (ji24)).f1))).setCell ⟨go27, ((ji21) : Int).toNat * 4 + 2, none⟩ (.slice A196_2 ((rd_T40 l0_0 (ji24)).f2).length c196_2)).setCell ⟨go27, ((ji21) : Int).toNat * 4 + 3, none⟩ (.int .u32 ((rd_T40 l0_0 (ji24)).f3))) w.heap.size (fun k_ => (P0_0_ k_ ∨ w.heap.size ≤ k_) ∧ some k_ ≠ (.slice (some ⟨go27, 0, none⟩) y191.length co40 : Value).ownBlock ∧ k_ ≠ gb186 ∧ k_ ≠ gb187 ∧ k_ ≠ gb190) (.slice A196_2 ((rd_T40 l0_0 (ji24)).f2).length c196_2) ((rd_T40 l0_0 (ji24)).f2)) := ⟨by (with_reducible repeat (first | apply Kd.V_alloc | apply Kd.V_drewN | apply Kd.V_drew)); exact Kd.V_mono (Kd.V_far (p := ⟨go27, ((ji21) : Int).toNat * 4 + 3, none⟩) (Kd.V_far (p := ⟨go27, ((ji21) : Int).toNat * 4 + 2, none⟩) (Kd.V_far (p := ⟨go27, ((ji21) : Int).toNat * 4 + 1, none⟩) (Kd.V_far (p := ⟨go27, ((ji21) : Int).toNat * 4, none⟩) (Kd.V_mono HL196_2.out (fun k_ hk => (⟨hk, fun e_ => hk.2.1 (by rw [e_]; rfl)⟩ : _ ∧ k_ ≠ go27))) (fun _ hk => hk.2) (.int .u32 ((rd_T40 l0_0 (ji24)).f0))) (fun _ hk => hk.2) (.int .u32 ((rd_T40 l0_0 (ji24)).f1))) (fun _ hk => hk.2) (.slice A196_2 ((rd_T40 l0_0 (ji24)).f2).length c196_2)) (fun _ hk => hk.2) (.int .u32 ((rd_T40 l0_0 (ji24)).f3))) (fun _ hk => ⟨hk.1.1, ⟨hk.1.2.1, ⟨hk.1.2.2.1, ⟨hk.1.2.2.2.1, hk.1.2.2.2.2⟩⟩⟩⟩)⟩
                            have n4_ : Aside0 (((((w46.setCell ⟨go27, ((ji21) : Int).toNat * 4, none⟩ (.int .u32 ((rd_T40 l0_0 (ji24)).f0))).setCell ⟨go27, ((ji21) : Int).toNat * 4 + 1, none⟩ (.int .u32 ((rd_T40 l0_0 (ji24)).f1))).setCell ⟨go27, ((ji21) : Int).toNat * 4 + 2, none⟩ (.slice A196_2 ((rd_T40 l0_0 (ji24)).f2).length c196_2)).setCell ⟨go27, ((ji21) : Int).toNat * 4 + 3, none⟩ (.int .u32 ((rd_T40 l0_0 (ji24)).f3))).heap[gb186]? = some (.cells #[.slice (some ad194) l0_0.length c0_0, .int .u32 a0_1] 25 (0, 0))) := ⟨by (with_reducible repeat (first | refine blk_drewN ?_ _ | refine blk_drew ?_ | refine blk_alloc ?_ _)); refine blk_far ?_ (by have h_ := Kd.N_away HO193.out (fun _ hk => hk.2.1); intro e_; exact h_ (by rw [e_]; rfl)) _; (with_reducible repeat (first | refine blk_drewN ?_ _ | refine blk_drew ?_ | refine blk_alloc ?_ _)); refine blk_far ?_ (by have h_ := Kd.N_away HO193.out (fun _ hk => hk.2.1); intro e_; exact h_ (by rw [e_]; rfl)) _; (with_reducible repeat (first | refine blk_drewN ?_ _ | refine blk_drew ?_ | refine blk_alloc ?_ _)); refine blk_far ?_ (by have h_ := Kd.N_away HO193.out (fun _ hk => hk.2.1); intro e_; exact h_ (by rw [e_]; rfl)) _; (with_reducible repeat (first | refine blk_drewN ?_ _ | refine blk_drew ?_ | refine blk_alloc ?_ _)); refine blk_far ?_ (by have h_ := Kd.N_away HO193.out (fun _ hk => hk.2.1); intro e_; exact h_ (by rw [e_]; rfl)) _; (with_reducible repeat (first | refine blk_drewN ?_ _ | refine blk_drew ?_ | refine blk_alloc ?_ _)); exact BK186.out⟩
                            have n5_ : Aside0 (((((w46.setCell ⟨go27, ((ji21) : Int).toNat * 4, none⟩ (.int .u32 ((rd_T40 l0_0 (ji24)).f0))).setCell ⟨go27, ((ji21) : Int).toNat * 4 + 1, none⟩ (.int .u32 ((rd_T40 l0_0 (ji24)).f1))).setCell ⟨go27, ((ji21) : Int).toNat * 4 + 2, none⟩ (.slice A196_2 ((rd_T40 l0_0 (ji24)).f2).length c196_2)).setCell ⟨go27, ((ji21) : Int).toNat * 4 + 3, none⟩ (.int .u32 ((rd_T40 l0_0 (ji24)).f3))).heap[gb187]? = some (.cells #[.int .u32 a1_0, .int .u32 a1_1, .int .u64 a1_2, .int .u64 a1_3, .int .u64 a1_4, .int .u64 a1_5, .int .u64 a1_6, .int .u64 a1_7, .int .u64 a1_8] 44 (0, 0))) := ⟨by (with_reducible repeat (first | refine blk_drewN ?_ _ | refine blk_drew ?_ | refine blk_alloc ?_ _)); refine blk_far ?_ (by have h_ := Kd.N_away HO193.out (fun _ hk => hk.2.2.1); intro e_; exact h_ (by rw [e_]; rfl)) _; (with_reducible repeat (first | refine blk_drewN ?_ _ | refine blk_drew ?_ | refine blk_alloc ?_ _)); refine blk_far ?_ (by have h_ := Kd.N_away HO193.out (fun _ hk => hk.2.2.1); intro e_; exact h_ (by rw [e_]; rfl)) _; (with_reducible repeat (first | refine blk_drewN ?_ _ | refine blk_drew ?_ | refine blk_alloc ?_ _)); refine blk_far ?_ (by have h_ := Kd.N_away HO193.out (fun _ hk => hk.2.2.1); intro e_; exact h_ (by rw [e_]; rfl)) _; (with_reducible repeat (first | refine blk_drewN ?_ _ | refine blk_drew ?_ | refine blk_alloc ?_ _)); refine blk_far ?_ (by have h_ := Kd.N_away HO193.out (fun _ hk => hk.2.2.1); intro e_; exact h_ (by rw [e_]; rfl)) _; (with_reducible repeat (first | refine blk_drewN ?_ _ | refine blk_drew ?_ | refine blk_alloc ?_ _)); exact BK187.out⟩
                            have n6_ : Aside0 (((((w46.setCell ⟨go27, ((ji21) : Int).toNat * 4, none⟩ (.int .u32 ((rd_T40 l0_0 (ji24)).f0))).setCell ⟨go27, ((ji21) : Int).toNat * 4 + 1, none⟩ (.int .u32 ((rd_T40 l0_0 (ji24)).f1))).setCell ⟨go27, ((ji21) : Int).toNat * 4 + 2, none⟩ (.slice A196_2 ((rd_T40 l0_0 (ji24)).f2).length c196_2)).setCell ⟨go27, ((ji21) : Int).toNat * 4 + 3, none⟩ (.int .u32 ((rd_T40 l0_0 (ji24)).f3))).heap[gb190]? = some (.cells #[.slice (some ⟨go27, 0, none⟩) y191.length co40, .int .u32 a0_1] 25 (0, 0))) := ⟨by (with_reducible repeat (first | refine blk_drewN ?_ _ | refine blk_drew ?_ | refine blk_alloc ?_ _)); refine blk_far ?_ (by have h_ := Kd.N_away HO193.out (fun _ hk => hk.2.2.2); intro e_; exact h_ (by rw [e_]; rfl)) _; (with_reducible repeat (first | refine blk_drewN ?_ _ | refine blk_drew ?_ | refine blk_alloc ?_ _)); refine blk_far ?_ (by have h_ := Kd.N_away HO193.out (fun _ hk => hk.2.2.2); intro e_; exact h_ (by rw [e_]; rfl)) _; (with_reducible repeat (first | refine blk_drewN ?_ _ | refine blk_drew ?_ | refine blk_alloc ?_ _)); refine blk_far ?_ (by have h_ := Kd.N_away HO193.out (fun _ hk => hk.2.2.2); intro e_; exact h_ (by rw [e_]; rfl)) _; (with_reducible repeat (first | refine blk_drewN ?_ _ | refine blk_drew ?_ | refine blk_alloc ?_ _)); refine blk_far ?_ (by have h_ := Kd.N_away HO193.out (fun _ hk => hk.2.2.2); intro e_; exact h_ (by rw [e_]; rfl)) _; (with_reducible repeat (first | refine blk_drewN ?_ _ | refine blk_drew ?_ | refine blk_alloc ?_ _)); exact BK190.out⟩
                            have n7_ : Aside0 (Below w.heap.size w ((((w46.setCell ⟨go27, ((ji21) : Int).toNat * 4, none⟩ (.int .u32 ((rd_T40 l0_0 (ji24)).f0))).setCell ⟨go27, ((ji21) : Int).toNat * 4 + 1, none⟩ (.int .u32 ((rd_T40 l0_0 (ji24)).f1))).setCell ⟨go27, ((ji21) : Int).toNat * 4 + 2, none⟩ (.slice A196_2 ((rd_T40 l0_0 (ji24)).f2).length c196_2)).setCell ⟨go27, ((ji21) : Int).toNat * 4 + 3, none⟩ (.int .u32 ((rd_T40 l0_0 (ji24)).f3)))) := ⟨by repeat (first | (with_reducible first | exact HB.out | apply below_alloc | apply pw_below_drewN | apply below_drew1 | refine below_set ?_ GB27.out | refine below_set ?_ GB27.out | refine below_set ?_ GB27.out | refine below_set ?_ GB27.out | refine below_set ?_ GE186.out | refine below_set ?_ GE187.out | refine below_set ?_ GE190.out) | exact HB.out)⟩
                            (try clear HO_187000)
                            (try clear HO193)
                            (try clear HL194_2)
                            (try clear HL196_2)
                            (try clear BK186)
                            (try clear BK187)
                            (try clear BK190)
                            (try clear HB)
                            generalize ((((w46.setCell ⟨go27, ((ji21) : Int).toNat * 4, none⟩ (.int .u32 ((rd_T40 l0_0 (ji24)).f0))).setCell ⟨go27, ((ji21) : Int).toNat * 4 + 1, none⟩ (.int .u32 ((rd_T40 l0_0 (ji24)).f1))).setCell ⟨go27, ((ji21) : Int).toNat * 4 + 2, none⟩ (.slice A196_2 ((rd_T40 l0_0 (ji24)).f2).length c196_2)).setCell ⟨go27, ((ji21) : Int).toNat * 4 + 3, none⟩ (.int .u32 ((rd_T40 l0_0 (ji24)).f3))) = w49 at n0_ n1_ n2_ n3_ n4_ n5_ n6_ n7_ ⊢
                            have HO_187000 := n0_
                            have HO193 := n1_
                            have HL194_2 := n2_
                            have HL196_2 := n3_
                            have BK186 := n4_
                            have BK187 := n5_
                            have BK190 := n6_
                            have HB := n7_
                            clear n0_ n1_ n2_ n3_ n4_ n5_ n6_ n7_
                            have n0_ := Aside0.mk (Kd.V_drew HO_187000.out)
                            have n1_ := Aside0.mk (Kd.N_drew HO193.out)
                            have n2_ := Aside0.mk (Kd.V_drew HL194_2.out)
                            have n3_ := Aside0.mk (Kd.V_drew HL196_2.out)
                            have n4_ := Aside0.mk (blk_drew BK186.out)
                            have n5_ := Aside0.mk (blk_drew BK187.out)
                            have n6_ := Aside0.mk (blk_drew BK190.out)
                            have n7_ := Aside0.mk (below_drew1 HB.out)
                            clear HO_187000
                            clear HO193
                            clear HL194_2
                            clear HL196_2
                            clear BK186
                            clear BK187
                            clear BK190
                            clear HB
                            have HO_187000 := n0_
                            have HO193 := n1_
                            have HL194_2 := n2_
                            have HL196_2 := n3_
                            have BK186 := n4_
                            have BK187 := n5_
                            have BK190 := n6_
                            have HB := n7_
                            clear n0_ n1_ n2_ n3_ n4_ n5_ n6_ n7_
                            have p198 : 0 ≤ ((ji24) : Int) := of_decide_eq_true (by first | (with_reducible assumption) | assumption)
                            have q198 : (ji24) < (y197.length : Int) := (by have h_ : ((ji24) : Int) < ((y191.length : Int) : Int) := of_decide_eq_true (by first | (with_reducible assumption) | assumption); first | (have e_ := (Kd.N_reads' HO193.out).1; omega) | simpa only [Ny195.out, Ny197.out, List.length_set] using h_)
                            have ql198 : (((ji24) : Int) < ((y191.length : Int) : Int)) = True := eq_true (of_decide_eq_true (by first | (with_reducible assumption) | assumption))
                            obtain ⟨ad198, A198_2, c198_2, e198, hx198_0, hx198_1, hx198_2, hx198_3, hl198_2, hi198_2⟩ := at_T40 (Kd.N_reads' HO193.out).2.2 (ji24) p198 q198
                            obtain rfl : (⟨go27, 0, none⟩ : Addr) = ad198 := (by injection e198)
                            obtain ⟨ce198, hce198, hMe198, hcc198⟩ := Kd.N_get HO193.out z40 (ji24) p198 (by first | exact q198 | exact of_decide_eq_true (by first | (with_reducible assumption) | assumption) | (have e_ := (Kd.N_reads' HO193.out).1; omega))
                            obtain ⟨ua198_2, uc198_2, rfl, ul198_2, ge198_2⟩ := k40_openF hMe198
                            have hv198_2 := hcc198 2 _ rfl
                            rw [add_field _ _ 2 (by omega)] at hv198_2
                            replace hv198_2 := Option.some.inj (hv198_2.symm.trans hx198_2)
                            injection hv198_2 with hva_ hvn_ hvc_
                            rw [hva_] at ge198_2
                            rw [hvc_] at ul198_2
                            have HL198_2 := Aside0.mk (show Kd.V k61 61 _ w.heap.size _ _ ((rd_T40 y197 (ji24)).f2) from Kd.V_mk ul198_2 ge198_2)
                            clear hva_ hvn_ hvc_ ge198_2 ul198_2
                            clear hcc198 hce198
                            (first | simp only [add_plain] at hx198_0 | simp only [add_at] at hx198_0 | simp only [Addr.add, Nat.zero_add] at hx198_0 | skip)
                            (first | simp only [add_plain] at hx198_1 | simp only [add_at] at hx198_1 | simp only [Addr.add, Nat.zero_add] at hx198_1 | skip)
                            (first | simp only [add_plain] at hx198_2 | simp only [add_at] at hx198_2 | simp only [Addr.add, Nat.zero_add] at hx198_2 | skip)
                            (first | simp only [add_plain] at hx198_3 | simp only [add_at] at hx198_3 | simp only [Addr.add, Nat.zero_add] at hx198_3 | skip)
                            have HR198_2 := Aside0.mk hi198_2
                            have HC198_2 := Aside0.mk hl198_2
                            clear hi198_2 hl198_2
                            replace p198 := eq_true p198
                            replace q198 := eq_true q198
                            have p199 : 0 ≤ ((ji21) : Int) := of_decide_eq_true (by first | (with_reducible assumption) | assumption)
                            have q199 : (ji21) < (y197.length : Int) := (by have h_ : ((ji21) : Int) < ((y191.length : Int) : Int) := of_decide_eq_true (by first | (with_reducible assumption) | assumption); first | (have e_ := (Kd.N_reads' HO193.out).1; omega) | simpa only [Ny195.out, Ny197.out, List.length_set] using h_)
                            have ql199 : (((ji21) : Int) < ((y191.length : Int) : Int)) = True := eq_true (of_decide_eq_true (by first | (with_reducible assumption) | assumption))
                            obtain ⟨ad199, A199_2, c199_2, e199, hx199_0, hx199_1, hx199_2, hx199_3, hl199_2, hi199_2⟩ := at_T40 (Kd.N_reads' HO193.out).2.2 (ji21) p199 q199
                            obtain rfl : (⟨go27, 0, none⟩ : Addr) = ad199 := (by injection e199)
                            obtain ⟨ce199, hce199, hMe199, hcc199⟩ := Kd.N_get HO193.out z40 (ji21) p199 (by first | exact q199 | exact of_decide_eq_true (by first | (with_reducible assumption) | assumption) | (have e_ := (Kd.N_reads' HO193.out).1; omega))
                            obtain ⟨ua199_2, uc199_2, rfl, ul199_2, ge199_2⟩ := k40_openF hMe199
                            have hv199_2 := hcc199 2 _ rfl
                            rw [add_field _ _ 2 (by omega)] at hv199_2
                            replace hv199_2 := Option.some.inj (hv199_2.symm.trans hx199_2)
                            injection hv199_2 with hva_ hvn_ hvc_
                            rw [hva_] at ge199_2
                            rw [hvc_] at ul199_2
                            have HL199_2 := Aside0.mk (show Kd.V k61 61 _ w.heap.size _ _ ((rd_T40 y197 (ji21)).f2) from Kd.V_mk ul199_2 ge199_2)
                            clear hva_ hvn_ hvc_ ge199_2 ul199_2
                            clear hcc199 hce199
                            (first | simp only [add_plain] at hx199_0 | simp only [add_at] at hx199_0 | simp only [Addr.add, Nat.zero_add] at hx199_0 | skip)
                            (first | simp only [add_plain] at hx199_1 | simp only [add_at] at hx199_1 | simp only [Addr.add, Nat.zero_add] at hx199_1 | skip)
                            (first | simp only [add_plain] at hx199_2 | simp only [add_at] at hx199_2 | simp only [Addr.add, Nat.zero_add] at hx199_2 | skip)
                            (first | simp only [add_plain] at hx199_3 | simp only [add_at] at hx199_3 | simp only [Addr.add, Nat.zero_add] at hx199_3 | skip)
                            have HR199_2 := Aside0.mk hi199_2
                            have HC199_2 := Aside0.mk hl199_2
                            clear hi199_2 hl199_2
                            replace p199 := eq_true p199
                            replace q199 := eq_true q199
                            have p200 : 0 ≤ ((ji24) : Int) := of_decide_eq_true (by first | (with_reducible assumption) | assumption)
                            have q200 : (ji24) < (y197.length : Int) := (by have h_ : ((ji24) : Int) < ((y191.length : Int) : Int) := of_decide_eq_true (by first | (with_reducible assumption) | assumption); first | (have e_ := (Kd.N_reads' HO193.out).1; omega) | simpa only [Ny195.out, Ny197.out, List.length_set] using h_)
                            have ql200 : (((ji24) : Int) < ((y191.length : Int) : Int)) = True := eq_true (of_decide_eq_true (by first | (with_reducible assumption) | assumption))
                            obtain ⟨ad200, A200_2, c200_2, e200, hx200_0, hx200_1, hx200_2, hx200_3, hl200_2, hi200_2⟩ := at_T40 (Kd.N_reads' HO193.out).2.2 (ji24) p200 q200
                            obtain rfl : (⟨go27, 0, none⟩ : Addr) = ad200 := (by injection e200)
                            obtain ⟨ce200, hce200, hMe200, hcc200⟩ := Kd.N_get HO193.out z40 (ji24) p200 (by first | exact q200 | exact of_decide_eq_true (by first | (with_reducible assumption) | assumption) | (have e_ := (Kd.N_reads' HO193.out).1; omega))
                            obtain ⟨ua200_2, uc200_2, rfl, ul200_2, ge200_2⟩ := k40_openF hMe200
                            have hv200_2 := hcc200 2 _ rfl
                            rw [add_field _ _ 2 (by omega)] at hv200_2
                            replace hv200_2 := Option.some.inj (hv200_2.symm.trans hx200_2)
                            injection hv200_2 with hva_ hvn_ hvc_
                            rw [hva_] at ge200_2
                            rw [hvc_] at ul200_2
                            have HL200_2 := Aside0.mk (show Kd.V k61 61 _ w.heap.size _ _ ((rd_T40 y197 (ji24)).f2) from Kd.V_mk ul200_2 ge200_2)
                            clear hva_ hvn_ hvc_ ge200_2 ul200_2
                            clear hcc200 hce200
                            (first | simp only [add_plain] at hx200_0 | simp only [add_at] at hx200_0 | simp only [Addr.add, Nat.zero_add] at hx200_0 | skip)
                            (first | simp only [add_plain] at hx200_1 | simp only [add_at] at hx200_1 | simp only [Addr.add, Nat.zero_add] at hx200_1 | skip)
                            (first | simp only [add_plain] at hx200_2 | simp only [add_at] at hx200_2 | simp only [Addr.add, Nat.zero_add] at hx200_2 | skip)
                            (first | simp only [add_plain] at hx200_3 | simp only [add_at] at hx200_3 | simp only [Addr.add, Nat.zero_add] at hx200_3 | skip)
                            have HR200_2 := Aside0.mk hi200_2
                            have HC200_2 := Aside0.mk hl200_2
                            clear hi200_2 hl200_2
                            replace p200 := eq_true p200
                            replace q200 := eq_true q200
                            have ea_ := Option.some.inj (hx198_2.symm.trans hx200_2)
                            injection ea_ with ea_ en_ ec_
                            subst ea_
                            subst ec_
                            clear en_
                            have p201 : 0 ≤ ((ji21) : Int) := of_decide_eq_true (by first | (with_reducible assumption) | assumption)
                            have q201 : (ji21) < (y197.length : Int) := (by have h_ : ((ji21) : Int) < ((y191.length : Int) : Int) := of_decide_eq_true (by first | (with_reducible assumption) | assumption); first | (have e_ := (Kd.N_reads' HO193.out).1; omega) | simpa only [Ny195.out, Ny197.out, List.length_set] using h_)
                            have ql201 : (((ji21) : Int) < ((y191.length : Int) : Int)) = True := eq_true (of_decide_eq_true (by first | (with_reducible assumption) | assumption))
                            obtain ⟨ad201, A201_2, c201_2, e201, hx201_0, hx201_1, hx201_2, hx201_3, hl201_2, hi201_2⟩ := at_T40 (Kd.N_reads' HO193.out).2.2 (ji21) p201 q201
                            obtain rfl : (⟨go27, 0, none⟩ : Addr) = ad201 := (by injection e201)
                            obtain ⟨ce201, hce201, hMe201, hcc201⟩ := Kd.N_get HO193.out z40 (ji21) p201 (by first | exact q201 | exact of_decide_eq_true (by first | (with_reducible assumption) | assumption) | (have e_ := (Kd.N_reads' HO193.out).1; omega))
                            obtain ⟨ua201_2, uc201_2, rfl, ul201_2, ge201_2⟩ := k40_openF hMe201
                            have hv201_2 := hcc201 2 _ rfl
                            rw [add_field _ _ 2 (by omega)] at hv201_2
                            replace hv201_2 := Option.some.inj (hv201_2.symm.trans hx201_2)
                            injection hv201_2 with hva_ hvn_ hvc_
                            rw [hva_] at ge201_2
                            rw [hvc_] at ul201_2
                            have HL201_2 := Aside0.mk (show Kd.V k61 61 _ w.heap.size _ _ ((rd_T40 y197 (ji21)).f2) from Kd.V_mk ul201_2 ge201_2)
                            clear hva_ hvn_ hvc_ ge201_2 ul201_2
                            clear hcc201 hce201
                            (first | simp only [add_plain] at hx201_0 | simp only [add_at] at hx201_0 | simp only [Addr.add, Nat.zero_add] at hx201_0 | skip)
                            (first | simp only [add_plain] at hx201_1 | simp only [add_at] at hx201_1 | simp only [Addr.add, Nat.zero_add] at hx201_1 | skip)
                            (first | simp only [add_plain] at hx201_2 | simp only [add_at] at hx201_2 | simp only [Addr.add, Nat.zero_add] at hx201_2 | skip)
                            (first | simp only [add_plain] at hx201_3 | simp only [add_at] at hx201_3 | simp only [Addr.add, Nat.zero_add] at hx201_3 | skip)
                            have HR201_2 := Aside0.mk hi201_2
                            have HC201_2 := Aside0.mk hl201_2
                            clear hi201_2 hl201_2
                            replace p201 := eq_true p201
                            replace q201 := eq_true q201
                            have ea_ := Option.some.inj (hx199_2.symm.trans hx201_2)
                            injection ea_ with ea_ en_ ec_
                            subst ea_
                            subst ec_
                            clear en_
                            refine start_ (n := 30) (S := fun w' => w'.cell? ⟨gb190, 0, none⟩ = some (.slice (some ⟨go27, 0, none⟩) y191.length co40) ∧ w'.cell? ⟨gb190, 1, none⟩ = some (.int .u32 a0_1) ∧ w'.cell? ⟨go27, ((ji24)).toNat * 4, none⟩ = some (.int .u32 ((rd_T40 y197 (ji24)).f0)) ∧ w'.cell? ⟨go27, ((ji24)).toNat * 4 + 1, none⟩ = some (.int .u32 ((rd_T40 y197 (ji24)).f1)) ∧ w'.cell? ⟨go27, ((ji24)).toNat * 4 + 2, none⟩ = some (.slice A198_2 ((rd_T40 y197 (ji24)).f2).length c198_2) ∧ w'.cell? ⟨go27, ((ji24)).toNat * 4 + 3, none⟩ = some (.int .u32 ((rd_T40 y197 (ji24)).f3)) ∧ w'.cell? ⟨go27, ((ji21)).toNat * 4, none⟩ = some (.int .u32 ((rd_T40 y197 (ji21)).f0)) ∧ w'.cell? ⟨go27, ((ji21)).toNat * 4 + 1, none⟩ = some (.int .u32 ((rd_T40 y197 (ji21)).f1)) ∧ w'.cell? ⟨go27, ((ji21)).toNat * 4 + 2, none⟩ = some (.slice A199_2 ((rd_T40 y197 (ji21)).f2).length c199_2) ∧ w'.cell? ⟨go27, ((ji21)).toNat * 4 + 3, none⟩ = some (.int .u32 ((rd_T40 y197 (ji21)).f3)) ∧ w'.cell? ⟨go27, ((ji24)).toNat * 4, none⟩ = some (.int .u32 ((rd_T40 y197 (ji24)).f0)) ∧ w'.cell? ⟨go27, ((ji24)).toNat * 4 + 1, none⟩ = some (.int .u32 ((rd_T40 y197 (ji24)).f1)) ∧ w'.cell? ⟨go27, ((ji24)).toNat * 4 + 2, none⟩ = some (.slice A198_2 ((rd_T40 y197 (ji24)).f2).length c198_2) ∧ w'.cell? ⟨go27, ((ji24)).toNat * 4 + 3, none⟩ = some (.int .u32 ((rd_T40 y197 (ji24)).f3)) ∧ w'.cell? ⟨go27, ((ji21)).toNat * 4, none⟩ = some (.int .u32 ((rd_T40 y197 (ji21)).f0)) ∧ w'.cell? ⟨go27, ((ji21)).toNat * 4 + 1, none⟩ = some (.int .u32 ((rd_T40 y197 (ji21)).f1)) ∧ w'.cell? ⟨go27, ((ji21)).toNat * 4 + 2, none⟩ = some (.slice A199_2 ((rd_T40 y197 (ji21)).f2).length c199_2) ∧ w'.cell? ⟨go27, ((ji21)).toNat * 4 + 3, none⟩ = some (.int .u32 ((rd_T40 y197 (ji21)).f3))) (ds := []) #[false, false, false, false, false, false, false, false, false, false, false, false, false, false, false, false, false, false, false, false, false, false, false, false, false, false, false, false, false, false] (by kernel_rfl) rfl rfl ⟨(blk_cell BK190.out 0).trans rfl, (blk_cell BK190.out 1).trans rfl, hx198_0, hx198_1, hx198_2, hx198_3, hx199_0, hx199_1, hx199_2, hx199_3, hx200_0, hx200_1, hx200_2, hx200_3, hx201_0, hx201_1, hx201_2, hx201_3⟩ (fun hHeld => ?_); refine with_tabW hurdlelaw11_DenoteSwaps.tab8 hurdlelaw11_DenoteSwaps.bits8 (fun HT_ HW_ => ?_)
                            generalize w49.drew = w50 at HO_187000 HO193 HL194_2 HL196_2 BK186 BK187 BK190 HB HL198_2 HL199_2 HL200_2 HL201_2 HQ47 HR198_2 HR199_2 HR200_2 HR201_2 hx198_0 hx198_1 hx198_2 hx198_3 hx199_0 hx199_1 hx199_2 hx199_3 hx200_0 hx200_1 hx200_2 hx200_3 hx201_0 hx201_1 hx201_2 hx201_3 hHeld ⊢
                            refine pure_ (i := 0) (N := some 59) (v := ?_) (a' := ?_) #[true, false, false, false, false, false, false, false, false, false, false, false, false, false, false, false, false, false, false, false, false, false, false, false, false, false, false, false, false, false] rfl rfl (any_of HT_.out (by kernel_rfl)) (fun _ _ _ h => h) (Or.inl ⟨by rfl, ?_⟩) ?_ ?_
                            rotate_left
                            · intro w'
                              go_simp
                              with_reducible rfl
                            rotate_left
                            · simp only [Act.put, List.setIfInBounds_toArray, List.set_cons_zero, List.set_cons_succ, i64_w, i32_w]
                              rfl
                            refine pure_ (i := 2) (N := some 61) (v := ?_) (a' := ?_) #[true, false, true, false, false, false, false, false, false, false, false, false, false, false, false, false, false, false, false, false, false, false, false, false, false, false, false, false, false, false] rfl rfl (any_of HT_.out (by kernel_rfl)) (fun _ _ _ h => h) (Or.inl ⟨by rfl, ?_⟩) ?_ ?_
                            rotate_left
                            · intro w'
                              go_simp
                              with_reducible rfl
                            rotate_left
                            · simp only [Act.put, List.setIfInBounds_toArray, List.set_cons_zero, List.set_cons_succ, i64_w, i32_w]
                              rfl
                            refine pure_ (i := 6) (N := some 65) (v := ?_) (a' := ?_) #[true, false, true, false, false, false, true, false, false, false, false, false, false, false, false, false, false, false, false, false, false, false, false, false, false, false, false, false, false, false] rfl rfl (any_of HT_.out (by kernel_rfl)) (fun _ _ _ h => h) (Or.inl ⟨by rfl, ?_⟩) ?_ ?_
                            rotate_left
                            · intro w'
                              go_simp
                              with_reducible rfl
                            rotate_left
                            · simp only [Act.put, List.setIfInBounds_toArray, List.set_cons_zero, List.set_cons_succ, i64_w, i32_w]
                              rfl
                            refine pure_ (i := 8) (N := some 67) (v := ?_) (a' := ?_) #[true, false, true, false, false, false, true, false, true, false, false, false, false, false, false, false, false, false, false, false, false, false, false, false, false, false, false, false, false, false] rfl rfl (any_of HT_.out (by kernel_rfl)) (fun _ _ _ h => h) (Or.inl ⟨by rfl, ?_⟩) ?_ ?_
                            rotate_left
                            · intro w'
                              go_simp
                              with_reducible rfl
                            rotate_left
                            · simp only [Act.put, List.setIfInBounds_toArray, List.set_cons_zero, List.set_cons_succ, i64_w, i32_w]
                              rfl
                            refine pure_ (i := 9) (N := some 68) (v := ?_) (a' := ?_) #[true, false, true, false, false, false, true, false, true, true, false, false, false, false, false, false, false, false, false, false, false, false, false, false, false, false, false, false, false, false] rfl rfl (any_of HT_.out (by kernel_rfl)) (fun _ _ _ h => h) (Or.inl ⟨by rfl, ?_⟩) ?_ ?_
                            rotate_left
                            · intro w'
                              go_simp
                              with_reducible rfl
                            rotate_left
                            · simp only [Act.put, List.setIfInBounds_toArray, List.set_cons_zero, List.set_cons_succ, i64_w, i32_w]
                              rfl
                            refine take_ (i := 1) (N := some 60) (v := ?_) (a' := ?_) #[true, true, true, false, false, false, true, false, true, true, false, false, false, false, false, false, false, false, false, false, false, false, false, false, false, false, false, false, false, false] rfl rfl (take_ofW HT_.out HW_.out (by kernel_rfl)) (fun _ _ _ h => h) (Or.inl ⟨by rfl, ?_⟩) hHeld ?_ ?_
                            rotate_left
                            · rintro w' ⟨s0, s1, s2, s3, s4, s5, s6, s7, s8, s9, s10, s11, s12, s13, s14, s15, s16, s17⟩
                              go_simp
                              with_reducible rfl
                            rotate_left
                            · simp only [Act.put, List.setIfInBounds_toArray, List.set_cons_zero, List.set_cons_succ, i64_w, i32_w]
                              rfl
                            refine pure_ (i := 3) (N := some 62) (v := ?_) (a' := ?_) #[true, true, true, true, false, false, true, false, true, true, false, false, false, false, false, false, false, false, false, false, false, false, false, false, false, false, false, false, false, false] rfl rfl (any_of HT_.out (by kernel_rfl)) (fun _ _ _ h => h) (Or.inl ⟨by rfl, ?_⟩) ?_ ?_
                            rotate_left
                            · intro w'
                              go_simp
                              with_reducible rfl
                            rotate_left
                            · simp only [Act.put, List.setIfInBounds_toArray, List.set_cons_zero, List.set_cons_succ, i64_w, i32_w]
                              rfl
                            refine pure_ (i := 4) (N := some 63) (v := ?_) (a' := ?_) #[true, true, true, true, true, false, true, false, true, true, false, false, false, false, false, false, false, false, false, false, false, false, false, false, false, false, false, false, false, false] rfl rfl (any_of HT_.out (by kernel_rfl)) (fun _ _ _ h => h) (Or.inl ⟨by rfl, ?_⟩) ?_ ?_
                            rotate_left
                            · intro w'
                              go_simp
                              with_reducible rfl
                            rotate_left
                            · simp only [Act.put, List.setIfInBounds_toArray, List.set_cons_zero, List.set_cons_succ, i64_w, i32_w]
                              rfl
                            refine take_ (i := 5) (N := some 64) (v := ?_) (a' := ?_) #[true, true, true, true, true, true, true, false, true, true, false, false, false, false, false, false, false, false, false, false, false, false, false, false, false, false, false, false, false, false] rfl rfl (take_ofW HT_.out HW_.out (by kernel_rfl)) (fun _ _ _ h => h) (Or.inl ⟨by rfl, ?_⟩) hHeld ?_ ?_
                            rotate_left
                            · rintro w' ⟨s0, s1, s2, s3, s4, s5, s6, s7, s8, s9, s10, s11, s12, s13, s14, s15, s16, s17⟩
                              go_simp
                              with_reducible rfl
                            rotate_left
                            · simp only [Act.put, List.setIfInBounds_toArray, List.set_cons_zero, List.set_cons_succ, i64_w, i32_w]
                              rfl
                            refine take_ (i := 7) (N := some 66) (v := ?_) (a' := ?_) #[true, true, true, true, true, true, true, true, true, true, false, false, false, false, false, false, false, false, false, false, false, false, false, false, false, false, false, false, false, false] rfl rfl (take_ofW HT_.out HW_.out (by kernel_rfl)) (fun _ _ _ h => h) (Or.inl ⟨by rfl, ?_⟩) hHeld ?_ ?_
                            rotate_left
                            · rintro w' ⟨s0, s1, s2, s3, s4, s5, s6, s7, s8, s9, s10, s11, s12, s13, s14, s15, s16, s17⟩
                              go_simp
                              with_reducible rfl
                            rotate_left
                            · simp only [Act.put, List.setIfInBounds_toArray, List.set_cons_zero, List.set_cons_succ, i64_w, i32_w]
                              rfl
                            refine pure_ (i := 10) (N := some 69) (v := ?_) (a' := ?_) #[true, true, true, true, true, true, true, true, true, true, true, false, false, false, false, false, false, false, false, false, false, false, false, false, false, false, false, false, false, false] rfl rfl (any_of HT_.out (by kernel_rfl)) (fun _ _ _ h => h) (Or.inl ⟨by rfl, ?_⟩) ?_ ?_
                            rotate_left
                            · intro w'
                              go_simp
                              with_reducible rfl
                            rotate_left
                            · simp only [Act.put, List.setIfInBounds_toArray, List.set_cons_zero, List.set_cons_succ, i64_w, i32_w]
                              rfl
                            refine pure_ (i := 11) (N := some 70) (v := ?_) (a' := ?_) #[true, true, true, true, true, true, true, true, true, true, true, true, false, false, false, false, false, false, false, false, false, false, false, false, false, false, false, false, false, false] rfl rfl (any_of HT_.out (by kernel_rfl)) (fun _ _ _ h => h) (Or.inl ⟨by rfl, ?_⟩) ?_ ?_
                            rotate_left
                            · intro w'
                              go_simp
                              with_reducible rfl
                            rotate_left
                            · simp only [Act.put, List.setIfInBounds_toArray, List.set_cons_zero, List.set_cons_succ, i64_w, i32_w]
                              rfl
                            refine take_ (i := 12) (N := some 71) (v := ?_) (a' := ?_) #[true, true, true, true, true, true, true, true, true, true, true, true, true, false, false, false, false, false, false, false, false, false, false, false, false, false, false, false, false, false] rfl rfl (take_ofW HT_.out HW_.out (by kernel_rfl)) (fun _ _ _ h => h) (Or.inl ⟨by rfl, ?_⟩) hHeld ?_ ?_
                            rotate_left
                            · rintro w' ⟨s0, s1, s2, s3, s4, s5, s6, s7, s8, s9, s10, s11, s12, s13, s14, s15, s16, s17⟩
                              go_simp
                              with_reducible rfl
                            rotate_left
                            · simp only [Act.put, List.setIfInBounds_toArray, List.set_cons_zero, List.set_cons_succ, i64_w, i32_w]
                              rfl
                            refine pure_ (i := 13) (N := some 72) (v := ?_) (a' := ?_) #[true, true, true, true, true, true, true, true, true, true, true, true, true, true, false, false, false, false, false, false, false, false, false, false, false, false, false, false, false, false] rfl rfl (any_of HT_.out (by kernel_rfl)) (fun _ _ _ h => h) (Or.inl ⟨by rfl, ?_⟩) ?_ ?_
                            rotate_left
                            · intro w'
                              go_simp
                              with_reducible rfl
                            rotate_left
                            · simp only [Act.put, List.setIfInBounds_toArray, List.set_cons_zero, List.set_cons_succ, i64_w, i32_w]
                              rfl
                            refine pure_ (i := 14) (N := some 73) (v := ?_) (a' := ?_) #[true, true, true, true, true, true, true, true, true, true, true, true, true, true, true, false, false, false, false, false, false, false, false, false, false, false, false, false, false, false] rfl rfl (any_of HT_.out (by kernel_rfl)) (fun _ _ _ h => h) (Or.inl ⟨by rfl, ?_⟩) ?_ ?_
                            rotate_left
                            · intro w'
                              go_simp
                              with_reducible rfl
                            rotate_left
                            · simp only [Act.put, List.setIfInBounds_toArray, List.set_cons_zero, List.set_cons_succ, i64_w, i32_w]
                              rfl
                            refine pure_ (i := 15) (N := some 74) (v := ?_) (a' := ?_) #[true, true, true, true, true, true, true, true, true, true, true, true, true, true, true, true, false, false, false, false, false, false, false, false, false, false, false, false, false, false] rfl rfl (any_of HT_.out (by kernel_rfl)) (fun _ _ _ h => h) (Or.inl ⟨by rfl, ?_⟩) ?_ ?_
                            rotate_left
                            · intro w'
                              go_simp
                              with_reducible rfl
                            rotate_left
                            · simp only [Act.put, List.setIfInBounds_toArray, List.set_cons_zero, List.set_cons_succ, i64_w, i32_w]
                              rfl
                            refine pure_ (i := 17) (N := some 76) (v := ?_) (a' := ?_) #[true, true, true, true, true, true, true, true, true, true, true, true, true, true, true, true, false, true, false, false, false, false, false, false, false, false, false, false, false, false] rfl rfl (any_of HT_.out (by kernel_rfl)) (fun _ _ _ h => h) (Or.inl ⟨by rfl, ?_⟩) ?_ ?_
                            rotate_left
                            · intro w'
                              go_simp
                              with_reducible rfl
                            rotate_left
                            · simp only [Act.put, List.setIfInBounds_toArray, List.set_cons_zero, List.set_cons_succ, i64_w, i32_w]
                              rfl
                            refine pure_ (i := 21) (N := some 80) (v := ?_) (a' := ?_) #[true, true, true, true, true, true, true, true, true, true, true, true, true, true, true, true, false, true, false, false, false, true, false, false, false, false, false, false, false, false] rfl rfl (any_of HT_.out (by kernel_rfl)) (fun _ _ _ h => h) (Or.inl ⟨by rfl, ?_⟩) ?_ ?_
                            rotate_left
                            · intro w'
                              go_simp
                              with_reducible rfl
                            rotate_left
                            · simp only [Act.put, List.setIfInBounds_toArray, List.set_cons_zero, List.set_cons_succ, i64_w, i32_w]
                              rfl
                            refine pure_ (i := 23) (N := some 82) (v := ?_) (a' := ?_) #[true, true, true, true, true, true, true, true, true, true, true, true, true, true, true, true, false, true, false, false, false, true, false, true, false, false, false, false, false, false] rfl rfl (any_of HT_.out (by kernel_rfl)) (fun _ _ _ h => h) (Or.inl ⟨by rfl, ?_⟩) ?_ ?_
                            rotate_left
                            · intro w'
                              go_simp
                              with_reducible rfl
                            rotate_left
                            · simp only [Act.put, List.setIfInBounds_toArray, List.set_cons_zero, List.set_cons_succ, i64_w, i32_w]
                              rfl
                            refine pure_ (i := 24) (N := some 83) (v := ?_) (a' := ?_) #[true, true, true, true, true, true, true, true, true, true, true, true, true, true, true, true, false, true, false, false, false, true, false, true, true, false, false, false, false, false] rfl rfl (any_of HT_.out (by kernel_rfl)) (fun _ _ _ h => h) (Or.inl ⟨by rfl, ?_⟩) ?_ ?_
                            rotate_left
                            · intro w'
                              go_simp
                              with_reducible rfl
                            rotate_left
                            · simp only [Act.put, List.setIfInBounds_toArray, List.set_cons_zero, List.set_cons_succ, i64_w, i32_w]
                              rfl
                            refine take_ (i := 16) (N := some 75) (v := ?_) (a' := ?_) #[true, true, true, true, true, true, true, true, true, true, true, true, true, true, true, true, true, true, false, false, false, true, false, true, true, false, false, false, false, false] rfl rfl (take_ofW HT_.out HW_.out (by kernel_rfl)) (fun _ _ _ h => h) (Or.inl ⟨by rfl, ?_⟩) hHeld ?_ ?_
                            rotate_left
                            · rintro w' ⟨s0, s1, s2, s3, s4, s5, s6, s7, s8, s9, s10, s11, s12, s13, s14, s15, s16, s17⟩
                              go_simp
                              with_reducible rfl
                            rotate_left
                            · simp only [Act.put, List.setIfInBounds_toArray, List.set_cons_zero, List.set_cons_succ, i64_w, i32_w]
                              rfl
                            refine pure_ (i := 18) (N := some 77) (v := ?_) (a' := ?_) #[true, true, true, true, true, true, true, true, true, true, true, true, true, true, true, true, true, true, true, false, false, true, false, true, true, false, false, false, false, false] rfl rfl (any_of HT_.out (by kernel_rfl)) (fun _ _ _ h => h) (Or.inl ⟨by rfl, ?_⟩) ?_ ?_
                            rotate_left
                            · intro w'
                              go_simp
                              with_reducible rfl
                            rotate_left
                            · simp only [Act.put, List.setIfInBounds_toArray, List.set_cons_zero, List.set_cons_succ, i64_w, i32_w]
                              rfl
                            refine pure_ (i := 19) (N := some 78) (v := ?_) (a' := ?_) #[true, true, true, true, true, true, true, true, true, true, true, true, true, true, true, true, true, true, true, true, false, true, false, true, true, false, false, false, false, false] rfl rfl (any_of HT_.out (by kernel_rfl)) (fun _ _ _ h => h) (Or.inl ⟨by rfl, ?_⟩) ?_ ?_
                            rotate_left
                            · intro w'
                              go_simp
                              with_reducible rfl
                            rotate_left
                            · simp only [Act.put, List.setIfInBounds_toArray, List.set_cons_zero, List.set_cons_succ, i64_w, i32_w]
                              rfl
                            refine take_ (i := 20) (N := some 79) (v := ?_) (a' := ?_) #[true, true, true, true, true, true, true, true, true, true, true, true, true, true, true, true, true, true, true, true, true, true, false, true, true, false, false, false, false, false] rfl rfl (take_ofW HT_.out HW_.out (by kernel_rfl)) (fun _ _ _ h => h) (Or.inl ⟨by rfl, ?_⟩) hHeld ?_ ?_
                            rotate_left
                            · rintro w' ⟨s0, s1, s2, s3, s4, s5, s6, s7, s8, s9, s10, s11, s12, s13, s14, s15, s16, s17⟩
                              go_simp
                              with_reducible rfl
                            rotate_left
                            · simp only [Act.put, List.setIfInBounds_toArray, List.set_cons_zero, List.set_cons_succ, i64_w, i32_w]
                              rfl
                            refine take_ (i := 22) (N := some 81) (v := ?_) (a' := ?_) #[true, true, true, true, true, true, true, true, true, true, true, true, true, true, true, true, true, true, true, true, true, true, true, true, true, false, false, false, false, false] rfl rfl (take_ofW HT_.out HW_.out (by kernel_rfl)) (fun _ _ _ h => h) (Or.inl ⟨by rfl, ?_⟩) hHeld ?_ ?_
                            rotate_left
                            · rintro w' ⟨s0, s1, s2, s3, s4, s5, s6, s7, s8, s9, s10, s11, s12, s13, s14, s15, s16, s17⟩
                              go_simp
                              with_reducible rfl
                            rotate_left
                            · simp only [Act.put, List.setIfInBounds_toArray, List.set_cons_zero, List.set_cons_succ, i64_w, i32_w]
                              rfl
                            refine pure_ (i := 25) (N := some 84) (v := ?_) (a' := ?_) #[true, true, true, true, true, true, true, true, true, true, true, true, true, true, true, true, true, true, true, true, true, true, true, true, true, true, false, false, false, false] rfl rfl (any_of HT_.out (by kernel_rfl)) (fun _ _ _ h => h) (Or.inl ⟨by rfl, ?_⟩) ?_ ?_
                            rotate_left
                            · intro w'
                              go_simp
                              with_reducible rfl
                            rotate_left
                            · simp only [Act.put, List.setIfInBounds_toArray, List.set_cons_zero, List.set_cons_succ, i64_w, i32_w]
                              rfl
                            refine pure_ (i := 26) (N := some 85) (v := ?_) (a' := ?_) #[true, true, true, true, true, true, true, true, true, true, true, true, true, true, true, true, true, true, true, true, true, true, true, true, true, true, true, false, false, false] rfl rfl (any_of HT_.out (by kernel_rfl)) (fun _ _ _ h => h) (Or.inl ⟨by rfl, ?_⟩) ?_ ?_
                            rotate_left
                            · intro w'
                              go_simp
                              with_reducible rfl
                            rotate_left
                            · simp only [Act.put, List.setIfInBounds_toArray, List.set_cons_zero, List.set_cons_succ, i64_w, i32_w]
                              rfl
                            refine take_ (i := 27) (N := some 86) (v := ?_) (a' := ?_) #[true, true, true, true, true, true, true, true, true, true, true, true, true, true, true, true, true, true, true, true, true, true, true, true, true, true, true, true, false, false] rfl rfl (take_ofW HT_.out HW_.out (by kernel_rfl)) (fun _ _ _ h => h) (Or.inl ⟨by rfl, ?_⟩) hHeld ?_ ?_
                            rotate_left
                            · rintro w' ⟨s0, s1, s2, s3, s4, s5, s6, s7, s8, s9, s10, s11, s12, s13, s14, s15, s16, s17⟩
                              go_simp
                              with_reducible rfl
                            rotate_left
                            · simp only [Act.put, List.setIfInBounds_toArray, List.set_cons_zero, List.set_cons_succ, i64_w, i32_w]
                              rfl
                            refine pure_ (i := 28) (N := some 87) (v := ?_) (a' := ?_) #[true, true, true, true, true, true, true, true, true, true, true, true, true, true, true, true, true, true, true, true, true, true, true, true, true, true, true, true, true, false] rfl rfl (any_of HT_.out (by kernel_rfl)) (fun _ _ _ h => h) (Or.inl ⟨by rfl, ?_⟩) ?_ ?_
                            rotate_left
                            · intro w'
                              go_simp
                              with_reducible rfl
                            rotate_left
                            · simp only [Act.put, List.setIfInBounds_toArray, List.set_cons_zero, List.set_cons_succ, i64_w, i32_w]
                              rfl
                            refine pure_ (i := 29) (N := some 88) (v := ?_) (a' := ?_) #[true, true, true, true, true, true, true, true, true, true, true, true, true, true, true, true, true, true, true, true, true, true, true, true, true, true, true, true, true, true] rfl rfl (any_of HT_.out (by kernel_rfl)) (fun _ _ _ h => h) (Or.inl ⟨by rfl, ?_⟩) ?_ ?_
                            rotate_left
                            · intro w'
                              go_simp
                              with_reducible rfl
                            rotate_left
                            · simp only [Act.put, List.setIfInBounds_toArray, List.set_cons_zero, List.set_cons_succ, i64_w, i32_w]
                              rfl
                            refine done_ (done_of HT_.out (by kernel_rfl)) ?_
                            try go_wp2
                            go_meet
                            case rel => exact ⟨_, ((((rd_T40 y197 (ji24)).f1) == ((rd_T40 y197 (ji21)).f1))), (by first | rfl | (simp; done) | (simp only [← hji21, ← hji24] <;> (first | rfl | simp)) | (simp [*]; done)), H', ⟨by have := HJ3.out; first | omega | exact Nat.le_refl _⟩, ⟨by (with_reducible repeat (first | apply Kd.V_alloc | apply Kd.V_drewN | apply Kd.V_drew)); exact HO_187000.out⟩, ⟨by (with_reducible repeat (first | apply Kd.N_alloc | apply Kd.N_drewN | apply Kd.N_drew)); exact HO193.out⟩, ⟨by (with_reducible repeat (first | refine blk_drewN ?_ _ | refine blk_drew ?_ | refine blk_alloc ?_ _)); exact BK186.out⟩, ⟨by (with_reducible repeat (first | refine blk_drewN ?_ _ | refine blk_drew ?_ | refine blk_alloc ?_ _)); exact BK187.out⟩, ⟨by (with_reducible repeat (first | refine blk_drewN ?_ _ | refine blk_drew ?_ | refine blk_alloc ?_ _)); exact BK190.out⟩, ⟨by repeat (first | (with_reducible first | exact HB.out | apply below_alloc | apply pw_below_drewN | apply below_drew1 | refine below_set ?_ GE186.out | refine below_set ?_ GE187.out | refine below_set ?_ GE190.out) | exact HB.out)⟩⟩
                          · rw [if_neg c48] at H
                            have c48b0 : (((rd_T40 y197 (ji24)).f0) == ((rd_T40 y197 (ji21)).f0)) = false := beq_eq_false_iff_ne.mpr c48
                            have c48b1 : (((rd_T40 y197 (ji24)).f0) != ((rd_T40 y197 (ji21)).f0)) = true := bne_iff_ne.mpr c48
                            (first | rw [c48b0] | (simp only [i64_w, i32_w]; rw [c48b0]) | skip)
                            have H' := Aside0.mk H
                            clear H
                            try go_wp2
                            have n0_ : Aside0 (Kd.V k40 40 ((((w46.setCell ⟨go27, ((ji21) : Int).toNat * 4, none⟩ (.int .u32 ((rd_T40 l0_0 (ji24)).f0))).setCell ⟨go27, ((ji21) : Int).toNat * 4 + 1, none⟩ (.int .u32 ((rd_T40 l0_0 (ji24)).f1))).setCell ⟨go27, ((ji21) : Int).toNat * 4 + 2, none⟩ (.slice A196_2 ((rd_T40 l0_0 (ji24)).f2).length c196_2)).setCell ⟨go27, ((ji21) : Int).toNat * 4 + 3, none⟩ (.int .u32 ((rd_T40 l0_0 (ji24)).f3))) w.heap.size (fun k_ => (P0_0_ k_ ∨ w.heap.size ≤ k_) ∧ some k_ ≠ (.slice (some ⟨go27, 0, none⟩) y191.length co40 : Value).ownBlock ∧ k_ ≠ gb186 ∧ k_ ≠ gb187 ∧ k_ ≠ gb190) (.slice (some ad194) l0_0.length c0_0) l0_0) := ⟨by (with_reducible repeat (first | apply Kd.V_alloc | apply Kd.V_drewN | apply Kd.V_drew)); exact Kd.V_mono (Kd.V_far (p := ⟨go27, ((ji21) : Int).toNat * 4 + 3, none⟩) (Kd.V_far (p := ⟨go27, ((ji21) : Int).toNat * 4 + 2, none⟩) (Kd.V_far (p := ⟨go27, ((ji21) : Int).toNat * 4 + 1, none⟩) (Kd.V_far (p := ⟨go27, ((ji21) : Int).toNat * 4, none⟩) (Kd.V_mono HO_187000.out (fun k_ hk => (⟨hk, fun e_ => hk.2.1 (by rw [e_]; rfl)⟩ : _ ∧ k_ ≠ go27))) (fun _ hk => hk.2) (.int .u32 ((rd_T40 l0_0 (ji24)).f0))) (fun _ hk => hk.2) (.int .u32 ((rd_T40 l0_0 (ji24)).f1))) (fun _ hk => hk.2) (.slice A196_2 ((rd_T40 l0_0 (ji24)).f2).length c196_2)) (fun _ hk => hk.2) (.int .u32 ((rd_T40 l0_0 (ji24)).f3))) (fun _ hk => ⟨hk.1.1, ⟨hk.1.2.1, ⟨hk.1.2.2.1, ⟨hk.1.2.2.2.1, hk.1.2.2.2.2⟩⟩⟩⟩)⟩
                            have n1_ : Aside0 (Kd.N k40 40 ((((w46.setCell ⟨go27, ((ji21) : Int).toNat * 4, none⟩ (.int .u32 ((rd_T40 l0_0 (ji24)).f0))).setCell ⟨go27, ((ji21) : Int).toNat * 4 + 1, none⟩ (.int .u32 ((rd_T40 l0_0 (ji24)).f1))).setCell ⟨go27, ((ji21) : Int).toNat * 4 + 2, none⟩ (.slice A196_2 ((rd_T40 l0_0 (ji24)).f2).length c196_2)).setCell ⟨go27, ((ji21) : Int).toNat * 4 + 3, none⟩ (.int .u32 ((rd_T40 l0_0 (ji24)).f3))) w.heap.size (fun k_ => (P0_0_ k_ ∨ w.heap.size ≤ k_) ∧ k_ ≠ gb186 ∧ k_ ≠ gb187 ∧ k_ ≠ gb190) (.slice (some ⟨go27, 0, none⟩) y191.length co40) y197) := ⟨by (with_reducible repeat (first | apply Kd.N_alloc | apply Kd.N_drewN | apply Kd.N_drew)); exact HQ47.out⟩
                            have n2_ : Aside0 (Kd.V k61 61 ((((w46.setCell ⟨go27, ((ji21) : Int).toNat * 4, none⟩ (.int .u32 ((rd_T40 l0_0 (ji24)).f0))).setCell ⟨go27, ((ji21) : Int).toNat * 4 + 1, none⟩ (.int .u32 ((rd_T40 l0_0 (ji24)).f1))).setCell ⟨go27, ((ji21) : Int).toNat * 4 + 2, none⟩ (.slice A196_2 ((rd_T40 l0_0 (ji24)).f2).length c196_2)).setCell ⟨go27, ((ji21) : Int).toNat * 4 + 3, none⟩ (.int .u32 ((rd_T40 l0_0 (ji24)).f3))) w.heap.size (fun k_ => (P0_0_ k_ ∨ w.heap.size ≤ k_) ∧ some k_ ≠ (.slice (some ⟨go27, 0, none⟩) y191.length co40 : Value).ownBlock ∧ k_ ≠ gb186 ∧ k_ ≠ gb187 ∧ k_ ≠ gb190) (.slice A194_2 ((rd_T40 l0_0 (ji21)).f2).length c194_2) ((rd_T40 l0_0 (ji21)).f2)) := ⟨by (with_reducible repeat (first | apply Kd.V_alloc | apply Kd.V_drewN | apply Kd.V_drew)); exact Kd.V_mono (Kd.V_far (p := ⟨go27, ((ji21) : Int).toNat * 4 + 3, none⟩) (Kd.V_far (p := ⟨go27, ((ji21) : Int).toNat * 4 + 2, none⟩) (Kd.V_far (p := ⟨go27, ((ji21) : Int).toNat * 4 + 1, none⟩) (Kd.V_far (p := ⟨go27, ((ji21) : Int).toNat * 4, none⟩) (Kd.V_mono HL194_2.out (fun k_ hk => (⟨hk, fun e_ => hk.2.1 (by rw [e_]; rfl)⟩ : _ ∧ k_ ≠ go27))) (fun _ hk => hk.2) (.int .u32 ((rd_T40 l0_0 (ji24)).f0))) (fun _ hk => hk.2) (.int .u32 ((rd_T40 l0_0 (ji24)).f1))) (fun _ hk => hk.2) (.slice A196_2 ((rd_T40 l0_0 (ji24)).f2).length c196_2)) (fun _ hk => hk.2) (.int .u32 ((rd_T40 l0_0 (ji24)).f3))) (fun _ hk => ⟨hk.1.1, ⟨hk.1.2.1, ⟨hk.1.2.2.1, ⟨hk.1.2.2.2.1, hk.1.2.2.2.2⟩⟩⟩⟩)⟩
                            have n3_ : Aside0 (Kd.V k61 61 ((((w46.setCell ⟨go27, ((ji21) : Int).toNat * 4, none⟩ (.int .u32 ((rd_T40 l0_0 (ji24)).f0))).setCell ⟨go27, ((ji21) : Int).toNat * 4 + 1, none⟩ (.int .u32 ((rd_T40 l0_0 (ji24)).f1))).setCell ⟨go27, ((ji21) : Int).toNat * 4 + 2, none⟩ (.slice A196_2 ((rd_T40 l0_0 (ji24)).f2).length c196_2)).setCell ⟨go27, ((ji21) : Int).toNat * 4 + 3, none⟩ (.int .u32 ((rd_T40 l0_0 (ji24)).f3))) w.heap.size (fun k_ => (P0_0_ k_ ∨ w.heap.size ≤ k_) ∧ some k_ ≠ (.slice (some ⟨go27, 0, none⟩) y191.length co40 : Value).ownBlock ∧ k_ ≠ gb186 ∧ k_ ≠ gb187 ∧ k_ ≠ gb190) (.slice A196_2 ((rd_T40 l0_0 (ji24)).f2).length c196_2) ((rd_T40 l0_0 (ji24)).f2)) := ⟨by (with_reducible repeat (first | apply Kd.V_alloc | apply Kd.V_drewN | apply Kd.V_drew)); exact Kd.V_mono (Kd.V_far (p := ⟨go27, ((ji21) : Int).toNat * 4 + 3, none⟩) (Kd.V_far (p := ⟨go27, ((ji21) : Int).toNat * 4 + 2, none⟩) (Kd.V_far (p := ⟨go27, ((ji21) : Int).toNat * 4 + 1, none⟩) (Kd.V_far (p := ⟨go27, ((ji21) : Int).toNat * 4, none⟩) (Kd.V_mono HL196_2.out (fun k_ hk => (⟨hk, fun e_ => hk.2.1 (by rw [e_]; rfl)⟩ : _ ∧ k_ ≠ go27))) (fun _ hk => hk.2) (.int .u32 ((rd_T40 l0_0 (ji24)).f0))) (fun _ hk => hk.2) (.int .u32 ((rd_T40 l0_0 (ji24)).f1))) (fun _ hk => hk.2) (.slice A196_2 ((rd_T40 l0_0 (ji24)).f2).length c196_2)) (fun _ hk => hk.2) (.int .u32 ((rd_T40 l0_0 (ji24)).f3))) (fun _ hk => ⟨hk.1.1, ⟨hk.1.2.1, ⟨hk.1.2.2.1, ⟨hk.1.2.2.2.1, hk.1.2.2.2.2⟩⟩⟩⟩)⟩
                            have n4_ : Aside0 (((((w46.setCell ⟨go27, ((ji21) : Int).toNat * 4, none⟩ (.int .u32 ((rd_T40 l0_0 (ji24)).f0))).setCell ⟨go27, ((ji21) : Int).toNat * 4 + 1, none⟩ (.int .u32 ((rd_T40 l0_0 (ji24)).f1))).setCell ⟨go27, ((ji21) : Int).toNat * 4 + 2, none⟩ (.slice A196_2 ((rd_T40 l0_0 (ji24)).f2).length c196_2)).setCell ⟨go27, ((ji21) : Int).toNat * 4 + 3, none⟩ (.int .u32 ((rd_T40 l0_0 (ji24)).f3))).heap[gb186]? = some (.cells #[.slice (some ad194) l0_0.length c0_0, .int .u32 a0_1] 25 (0, 0))) := ⟨by (with_reducible repeat (first | refine blk_drewN ?_ _ | refine blk_drew ?_ | refine blk_alloc ?_ _)); refine blk_far ?_ (by have h_ := Kd.N_away HO193.out (fun _ hk => hk.2.1); intro e_; exact h_ (by rw [e_]; rfl)) _; (with_reducible repeat (first | refine blk_drewN ?_ _ | refine blk_drew ?_ | refine blk_alloc ?_ _)); refine blk_far ?_ (by have h_ := Kd.N_away HO193.out (fun _ hk => hk.2.1); intro e_; exact h_ (by rw [e_]; rfl)) _; (with_reducible repeat (first | refine blk_drewN ?_ _ | refine blk_drew ?_ | refine blk_alloc ?_ _)); refine blk_far ?_ (by have h_ := Kd.N_away HO193.out (fun _ hk => hk.2.1); intro e_; exact h_ (by rw [e_]; rfl)) _; (with_reducible repeat (first | refine blk_drewN ?_ _ | refine blk_drew ?_ | refine blk_alloc ?_ _)); refine blk_far ?_ (by have h_ := Kd.N_away HO193.out (fun _ hk => hk.2.1); intro e_; exact h_ (by rw [e_]; rfl)) _; (with_reducible repeat (first | refine blk_drewN ?_ _ | refine blk_drew ?_ | refine blk_alloc ?_ _)); exact BK186.out⟩
                            have n5_ : Aside0 (((((w46.setCell ⟨go27, ((ji21) : Int).toNat * 4, none⟩ (.int .u32 ((rd_T40 l0_0 (ji24)).f0))).setCell ⟨go27, ((ji21) : Int).toNat * 4 + 1, none⟩ (.int .u32 ((rd_T40 l0_0 (ji24)).f1))).setCell ⟨go27, ((ji21) : Int).toNat * 4 + 2, none⟩ (.slice A196_2 ((rd_T40 l0_0 (ji24)).f2).length c196_2)).setCell ⟨go27, ((ji21) : Int).toNat * 4 + 3, none⟩ (.int .u32 ((rd_T40 l0_0 (ji24)).f3))).heap[gb187]? = some (.cells #[.int .u32 a1_0, .int .u32 a1_1, .int .u64 a1_2, .int .u64 a1_3, .int .u64 a1_4, .int .u64 a1_5, .int .u64 a1_6, .int .u64 a1_7, .int .u64 a1_8] 44 (0, 0))) := ⟨by (with_reducible repeat (first | refine blk_drewN ?_ _ | refine blk_drew ?_ | refine blk_alloc ?_ _)); refine blk_far ?_ (by have h_ := Kd.N_away HO193.out (fun _ hk => hk.2.2.1); intro e_; exact h_ (by rw [e_]; rfl)) _; (with_reducible repeat (first | refine blk_drewN ?_ _ | refine blk_drew ?_ | refine blk_alloc ?_ _)); refine blk_far ?_ (by have h_ := Kd.N_away HO193.out (fun _ hk => hk.2.2.1); intro e_; exact h_ (by rw [e_]; rfl)) _; (with_reducible repeat (first | refine blk_drewN ?_ _ | refine blk_drew ?_ | refine blk_alloc ?_ _)); refine blk_far ?_ (by have h_ := Kd.N_away HO193.out (fun _ hk => hk.2.2.1); intro e_; exact h_ (by rw [e_]; rfl)) _; (with_reducible repeat (first | refine blk_drewN ?_ _ | refine blk_drew ?_ | refine blk_alloc ?_ _)); refine blk_far ?_ (by have h_ := Kd.N_away HO193.out (fun _ hk => hk.2.2.1); intro e_; exact h_ (by rw [e_]; rfl)) _; (with_reducible repeat (first | refine blk_drewN ?_ _ | refine blk_drew ?_ | refine blk_alloc ?_ _)); exact BK187.out⟩
                            have n6_ : Aside0 (((((w46.setCell ⟨go27, ((ji21) : Int).toNat * 4, none⟩ (.int .u32 ((rd_T40 l0_0 (ji24)).f0))).setCell ⟨go27, ((ji21) : Int).toNat * 4 + 1, none⟩ (.int .u32 ((rd_T40 l0_0 (ji24)).f1))).setCell ⟨go27, ((ji21) : Int).toNat * 4 + 2, none⟩ (.slice A196_2 ((rd_T40 l0_0 (ji24)).f2).length c196_2)).setCell ⟨go27, ((ji21) : Int).toNat * 4 + 3, none⟩ (.int .u32 ((rd_T40 l0_0 (ji24)).f3))).heap[gb190]? = some (.cells #[.slice (some ⟨go27, 0, none⟩) y191.length co40, .int .u32 a0_1] 25 (0, 0))) := ⟨by (with_reducible repeat (first | refine blk_drewN ?_ _ | refine blk_drew ?_ | refine blk_alloc ?_ _)); refine blk_far ?_ (by have h_ := Kd.N_away HO193.out (fun _ hk => hk.2.2.2); intro e_; exact h_ (by rw [e_]; rfl)) _; (with_reducible repeat (first | refine blk_drewN ?_ _ | refine blk_drew ?_ | refine blk_alloc ?_ _)); refine blk_far ?_ (by have h_ := Kd.N_away HO193.out (fun _ hk => hk.2.2.2); intro e_; exact h_ (by rw [e_]; rfl)) _; (with_reducible repeat (first | refine blk_drewN ?_ _ | refine blk_drew ?_ | refine blk_alloc ?_ _)); refine blk_far ?_ (by have h_ := Kd.N_away HO193.out (fun _ hk => hk.2.2.2); intro e_; exact h_ (by rw [e_]; rfl)) _; (with_reducible repeat (first | refine blk_drewN ?_ _ | refine blk_drew ?_ | refine blk_alloc ?_ _)); refine blk_far ?_ (by have h_ := Kd.N_away HO193.out (fun _ hk => hk.2.2.2); intro e_; exact h_ (by rw [e_]; rfl)) _; (with_reducible repeat (first | refine blk_drewN ?_ _ | refine blk_drew ?_ | refine blk_alloc ?_ _)); exact BK190.out⟩
                            have n7_ : Aside0 (Below w.heap.size w ((((w46.setCell ⟨go27, ((ji21) : Int).toNat * 4, none⟩ (.int .u32 ((rd_T40 l0_0 (ji24)).f0))).setCell ⟨go27, ((ji21) : Int).toNat * 4 + 1, none⟩ (.int .u32 ((rd_T40 l0_0 (ji24)).f1))).setCell ⟨go27, ((ji21) : Int).toNat * 4 + 2, none⟩ (.slice A196_2 ((rd_T40 l0_0 (ji24)).f2).length c196_2)).setCell ⟨go27, ((ji21) : Int).toNat * 4 + 3, none⟩ (.int .u32 ((rd_T40 l0_0 (ji24)).f3)))) := ⟨by repeat (first | (with_reducible first | exact HB.out | apply below_alloc | apply pw_below_drewN | apply below_drew1 | refine below_set ?_ GB27.out | refine below_set ?_ GB27.out | refine below_set ?_ GB27.out | refine below_set ?_ GB27.out | refine below_set ?_ GE186.out | refine below_set ?_ GE187.out | refine below_set ?_ GE190.out) | exact HB.out)⟩
                            (try clear HO_187000)
                            (try clear HO193)
                            (try clear HL194_2)
                            (try clear HL196_2)
                            (try clear BK186)
                            (try clear BK187)
                            (try clear BK190)
                            (try clear HB)
                            generalize ((((w46.setCell ⟨go27, ((ji21) : Int).toNat * 4, none⟩ (.int .u32 ((rd_T40 l0_0 (ji24)).f0))).setCell ⟨go27, ((ji21) : Int).toNat * 4 + 1, none⟩ (.int .u32 ((rd_T40 l0_0 (ji24)).f1))).setCell ⟨go27, ((ji21) : Int).toNat * 4 + 2, none⟩ (.slice A196_2 ((rd_T40 l0_0 (ji24)).f2).length c196_2)).setCell ⟨go27, ((ji21) : Int).toNat * 4 + 3, none⟩ (.int .u32 ((rd_T40 l0_0 (ji24)).f3))) = w51 at n0_ n1_ n2_ n3_ n4_ n5_ n6_ n7_ ⊢
                            have HO_187000 := n0_
                            have HO193 := n1_
                            have HL194_2 := n2_
                            have HL196_2 := n3_
                            have BK186 := n4_
                            have BK187 := n5_
                            have BK190 := n6_
                            have HB := n7_
                            clear n0_ n1_ n2_ n3_ n4_ n5_ n6_ n7_
                            have n0_ := Aside0.mk (Kd.V_drew HO_187000.out)
                            have n1_ := Aside0.mk (Kd.N_drew HO193.out)
                            have n2_ := Aside0.mk (Kd.V_drew HL194_2.out)
                            have n3_ := Aside0.mk (Kd.V_drew HL196_2.out)
                            have n4_ := Aside0.mk (blk_drew BK186.out)
                            have n5_ := Aside0.mk (blk_drew BK187.out)
                            have n6_ := Aside0.mk (blk_drew BK190.out)
                            have n7_ := Aside0.mk (below_drew1 HB.out)
                            clear HO_187000
                            clear HO193
                            clear HL194_2
                            clear HL196_2
                            clear BK186
                            clear BK187
                            clear BK190
                            clear HB
                            have HO_187000 := n0_
                            have HO193 := n1_
                            have HL194_2 := n2_
                            have HL196_2 := n3_
                            have BK186 := n4_
                            have BK187 := n5_
                            have BK190 := n6_
                            have HB := n7_
                            clear n0_ n1_ n2_ n3_ n4_ n5_ n6_ n7_
                            have p198 : 0 ≤ ((ji24) : Int) := of_decide_eq_true (by first | (with_reducible assumption) | assumption)
                            have q198 : (ji24) < (y197.length : Int) := (by have h_ : ((ji24) : Int) < ((y191.length : Int) : Int) := of_decide_eq_true (by first | (with_reducible assumption) | assumption); first | (have e_ := (Kd.N_reads' HO193.out).1; omega) | simpa only [Ny195.out, Ny197.out, List.length_set] using h_)
                            have ql198 : (((ji24) : Int) < ((y191.length : Int) : Int)) = True := eq_true (of_decide_eq_true (by first | (with_reducible assumption) | assumption))
                            obtain ⟨ad198, A198_2, c198_2, e198, hx198_0, hx198_1, hx198_2, hx198_3, hl198_2, hi198_2⟩ := at_T40 (Kd.N_reads' HO193.out).2.2 (ji24) p198 q198
                            obtain rfl : (⟨go27, 0, none⟩ : Addr) = ad198 := (by injection e198)
                            obtain ⟨ce198, hce198, hMe198, hcc198⟩ := Kd.N_get HO193.out z40 (ji24) p198 (by first | exact q198 | exact of_decide_eq_true (by first | (with_reducible assumption) | assumption) | (have e_ := (Kd.N_reads' HO193.out).1; omega))
                            obtain ⟨ua198_2, uc198_2, rfl, ul198_2, ge198_2⟩ := k40_openF hMe198
                            have hv198_2 := hcc198 2 _ rfl
                            rw [add_field _ _ 2 (by omega)] at hv198_2
                            replace hv198_2 := Option.some.inj (hv198_2.symm.trans hx198_2)
                            injection hv198_2 with hva_ hvn_ hvc_
                            rw [hva_] at ge198_2
                            rw [hvc_] at ul198_2
                            have HL198_2 := Aside0.mk (show Kd.V k61 61 _ w.heap.size _ _ ((rd_T40 y197 (ji24)).f2) from Kd.V_mk ul198_2 ge198_2)
                            clear hva_ hvn_ hvc_ ge198_2 ul198_2
                            clear hcc198 hce198
                            (first | simp only [add_plain] at hx198_0 | simp only [add_at] at hx198_0 | simp only [Addr.add, Nat.zero_add] at hx198_0 | skip)
                            (first | simp only [add_plain] at hx198_1 | simp only [add_at] at hx198_1 | simp only [Addr.add, Nat.zero_add] at hx198_1 | skip)
                            (first | simp only [add_plain] at hx198_2 | simp only [add_at] at hx198_2 | simp only [Addr.add, Nat.zero_add] at hx198_2 | skip)
                            (first | simp only [add_plain] at hx198_3 | simp only [add_at] at hx198_3 | simp only [Addr.add, Nat.zero_add] at hx198_3 | skip)
                            have HR198_2 := Aside0.mk hi198_2
                            have HC198_2 := Aside0.mk hl198_2
                            clear hi198_2 hl198_2
                            replace p198 := eq_true p198
                            replace q198 := eq_true q198
                            have p199 : 0 ≤ ((ji21) : Int) := of_decide_eq_true (by first | (with_reducible assumption) | assumption)
                            have q199 : (ji21) < (y197.length : Int) := (by have h_ : ((ji21) : Int) < ((y191.length : Int) : Int) := of_decide_eq_true (by first | (with_reducible assumption) | assumption); first | (have e_ := (Kd.N_reads' HO193.out).1; omega) | simpa only [Ny195.out, Ny197.out, List.length_set] using h_)
                            have ql199 : (((ji21) : Int) < ((y191.length : Int) : Int)) = True := eq_true (of_decide_eq_true (by first | (with_reducible assumption) | assumption))
                            obtain ⟨ad199, A199_2, c199_2, e199, hx199_0, hx199_1, hx199_2, hx199_3, hl199_2, hi199_2⟩ := at_T40 (Kd.N_reads' HO193.out).2.2 (ji21) p199 q199
                            obtain rfl : (⟨go27, 0, none⟩ : Addr) = ad199 := (by injection e199)
                            obtain ⟨ce199, hce199, hMe199, hcc199⟩ := Kd.N_get HO193.out z40 (ji21) p199 (by first | exact q199 | exact of_decide_eq_true (by first | (with_reducible assumption) | assumption) | (have e_ := (Kd.N_reads' HO193.out).1; omega))
                            obtain ⟨ua199_2, uc199_2, rfl, ul199_2, ge199_2⟩ := k40_openF hMe199
                            have hv199_2 := hcc199 2 _ rfl
                            rw [add_field _ _ 2 (by omega)] at hv199_2
                            replace hv199_2 := Option.some.inj (hv199_2.symm.trans hx199_2)
                            injection hv199_2 with hva_ hvn_ hvc_
                            rw [hva_] at ge199_2
                            rw [hvc_] at ul199_2
                            have HL199_2 := Aside0.mk (show Kd.V k61 61 _ w.heap.size _ _ ((rd_T40 y197 (ji21)).f2) from Kd.V_mk ul199_2 ge199_2)
                            clear hva_ hvn_ hvc_ ge199_2 ul199_2
                            clear hcc199 hce199
                            (first | simp only [add_plain] at hx199_0 | simp only [add_at] at hx199_0 | simp only [Addr.add, Nat.zero_add] at hx199_0 | skip)
                            (first | simp only [add_plain] at hx199_1 | simp only [add_at] at hx199_1 | simp only [Addr.add, Nat.zero_add] at hx199_1 | skip)
                            (first | simp only [add_plain] at hx199_2 | simp only [add_at] at hx199_2 | simp only [Addr.add, Nat.zero_add] at hx199_2 | skip)
                            (first | simp only [add_plain] at hx199_3 | simp only [add_at] at hx199_3 | simp only [Addr.add, Nat.zero_add] at hx199_3 | skip)
                            have HR199_2 := Aside0.mk hi199_2
                            have HC199_2 := Aside0.mk hl199_2
                            clear hi199_2 hl199_2
                            replace p199 := eq_true p199
                            replace q199 := eq_true q199
                            refine start_ (n := 30) (S := fun w' => w'.cell? ⟨gb190, 0, none⟩ = some (.slice (some ⟨go27, 0, none⟩) y191.length co40) ∧ w'.cell? ⟨gb190, 1, none⟩ = some (.int .u32 a0_1) ∧ w'.cell? ⟨go27, ((ji24)).toNat * 4, none⟩ = some (.int .u32 ((rd_T40 y197 (ji24)).f0)) ∧ w'.cell? ⟨go27, ((ji24)).toNat * 4 + 1, none⟩ = some (.int .u32 ((rd_T40 y197 (ji24)).f1)) ∧ w'.cell? ⟨go27, ((ji24)).toNat * 4 + 2, none⟩ = some (.slice A198_2 ((rd_T40 y197 (ji24)).f2).length c198_2) ∧ w'.cell? ⟨go27, ((ji24)).toNat * 4 + 3, none⟩ = some (.int .u32 ((rd_T40 y197 (ji24)).f3)) ∧ w'.cell? ⟨go27, ((ji21)).toNat * 4, none⟩ = some (.int .u32 ((rd_T40 y197 (ji21)).f0)) ∧ w'.cell? ⟨go27, ((ji21)).toNat * 4 + 1, none⟩ = some (.int .u32 ((rd_T40 y197 (ji21)).f1)) ∧ w'.cell? ⟨go27, ((ji21)).toNat * 4 + 2, none⟩ = some (.slice A199_2 ((rd_T40 y197 (ji21)).f2).length c199_2) ∧ w'.cell? ⟨go27, ((ji21)).toNat * 4 + 3, none⟩ = some (.int .u32 ((rd_T40 y197 (ji21)).f3))) (ds := []) #[false, false, false, false, false, false, false, false, false, false, false, false, false, false, false, false, false, false, false, false, false, false, false, false, false, false, false, false, false, false] (by kernel_rfl) rfl rfl ⟨(blk_cell BK190.out 0).trans rfl, (blk_cell BK190.out 1).trans rfl, hx198_0, hx198_1, hx198_2, hx198_3, hx199_0, hx199_1, hx199_2, hx199_3⟩ (fun hHeld => ?_); refine with_tabW hurdlelaw11_DenoteSwaps.tab8 hurdlelaw11_DenoteSwaps.bits8 (fun HT_ HW_ => ?_)
                            generalize w51.drew = w52 at HO_187000 HO193 HL194_2 HL196_2 BK186 BK187 BK190 HB HL198_2 HL199_2 HQ47 HR198_2 HR199_2 hx198_0 hx198_1 hx198_2 hx198_3 hx199_0 hx199_1 hx199_2 hx199_3 hHeld ⊢
                            refine pure_ (i := 0) (N := some 59) (v := ?_) (a' := ?_) #[true, false, false, false, false, false, false, false, false, false, false, false, false, false, false, false, false, false, false, false, false, false, false, false, false, false, false, false, false, false] rfl rfl (any_of HT_.out (by kernel_rfl)) (fun _ _ _ h => h) (Or.inl ⟨by rfl, ?_⟩) ?_ ?_
                            rotate_left
                            · intro w'
                              go_simp
                              with_reducible rfl
                            rotate_left
                            · simp only [Act.put, List.setIfInBounds_toArray, List.set_cons_zero, List.set_cons_succ, i64_w, i32_w]
                              rfl
                            refine pure_ (i := 2) (N := some 61) (v := ?_) (a' := ?_) #[true, false, true, false, false, false, false, false, false, false, false, false, false, false, false, false, false, false, false, false, false, false, false, false, false, false, false, false, false, false] rfl rfl (any_of HT_.out (by kernel_rfl)) (fun _ _ _ h => h) (Or.inl ⟨by rfl, ?_⟩) ?_ ?_
                            rotate_left
                            · intro w'
                              go_simp
                              with_reducible rfl
                            rotate_left
                            · simp only [Act.put, List.setIfInBounds_toArray, List.set_cons_zero, List.set_cons_succ, i64_w, i32_w]
                              rfl
                            refine pure_ (i := 6) (N := some 65) (v := ?_) (a' := ?_) #[true, false, true, false, false, false, true, false, false, false, false, false, false, false, false, false, false, false, false, false, false, false, false, false, false, false, false, false, false, false] rfl rfl (any_of HT_.out (by kernel_rfl)) (fun _ _ _ h => h) (Or.inl ⟨by rfl, ?_⟩) ?_ ?_
                            rotate_left
                            · intro w'
                              go_simp
                              with_reducible rfl
                            rotate_left
                            · simp only [Act.put, List.setIfInBounds_toArray, List.set_cons_zero, List.set_cons_succ, i64_w, i32_w]
                              rfl
                            refine pure_ (i := 8) (N := some 67) (v := ?_) (a' := ?_) #[true, false, true, false, false, false, true, false, true, false, false, false, false, false, false, false, false, false, false, false, false, false, false, false, false, false, false, false, false, false] rfl rfl (any_of HT_.out (by kernel_rfl)) (fun _ _ _ h => h) (Or.inl ⟨by rfl, ?_⟩) ?_ ?_
                            rotate_left
                            · intro w'
                              go_simp
                              with_reducible rfl
                            rotate_left
                            · simp only [Act.put, List.setIfInBounds_toArray, List.set_cons_zero, List.set_cons_succ, i64_w, i32_w]
                              rfl
                            refine pure_ (i := 9) (N := some 68) (v := ?_) (a' := ?_) #[true, false, true, false, false, false, true, false, true, true, false, false, false, false, false, false, false, false, false, false, false, false, false, false, false, false, false, false, false, false] rfl rfl (any_of HT_.out (by kernel_rfl)) (fun _ _ _ h => h) (Or.inl ⟨by rfl, ?_⟩) ?_ ?_
                            rotate_left
                            · intro w'
                              go_simp
                              with_reducible rfl
                            rotate_left
                            · simp only [Act.put, List.setIfInBounds_toArray, List.set_cons_zero, List.set_cons_succ, i64_w, i32_w]
                              rfl
                            refine take_ (i := 1) (N := some 60) (v := ?_) (a' := ?_) #[true, true, true, false, false, false, true, false, true, true, false, false, false, false, false, false, false, false, false, false, false, false, false, false, false, false, false, false, false, false] rfl rfl (take_ofW HT_.out HW_.out (by kernel_rfl)) (fun _ _ _ h => h) (Or.inl ⟨by rfl, ?_⟩) hHeld ?_ ?_
                            rotate_left
                            · rintro w' ⟨s0, s1, s2, s3, s4, s5, s6, s7, s8, s9⟩
                              go_simp
                              with_reducible rfl
                            rotate_left
                            · simp only [Act.put, List.setIfInBounds_toArray, List.set_cons_zero, List.set_cons_succ, i64_w, i32_w]
                              rfl
                            refine pure_ (i := 3) (N := some 62) (v := ?_) (a' := ?_) #[true, true, true, true, false, false, true, false, true, true, false, false, false, false, false, false, false, false, false, false, false, false, false, false, false, false, false, false, false, false] rfl rfl (any_of HT_.out (by kernel_rfl)) (fun _ _ _ h => h) (Or.inl ⟨by rfl, ?_⟩) ?_ ?_
                            rotate_left
                            · intro w'
                              go_simp
                              with_reducible rfl
                            rotate_left
                            · simp only [Act.put, List.setIfInBounds_toArray, List.set_cons_zero, List.set_cons_succ, i64_w, i32_w]
                              rfl
                            refine pure_ (i := 4) (N := some 63) (v := ?_) (a' := ?_) #[true, true, true, true, true, false, true, false, true, true, false, false, false, false, false, false, false, false, false, false, false, false, false, false, false, false, false, false, false, false] rfl rfl (any_of HT_.out (by kernel_rfl)) (fun _ _ _ h => h) (Or.inl ⟨by rfl, ?_⟩) ?_ ?_
                            rotate_left
                            · intro w'
                              go_simp
                              with_reducible rfl
                            rotate_left
                            · simp only [Act.put, List.setIfInBounds_toArray, List.set_cons_zero, List.set_cons_succ, i64_w, i32_w]
                              rfl
                            refine take_ (i := 5) (N := some 64) (v := ?_) (a' := ?_) #[true, true, true, true, true, true, true, false, true, true, false, false, false, false, false, false, false, false, false, false, false, false, false, false, false, false, false, false, false, false] rfl rfl (take_ofW HT_.out HW_.out (by kernel_rfl)) (fun _ _ _ h => h) (Or.inl ⟨by rfl, ?_⟩) hHeld ?_ ?_
                            rotate_left
                            · rintro w' ⟨s0, s1, s2, s3, s4, s5, s6, s7, s8, s9⟩
                              go_simp
                              with_reducible rfl
                            rotate_left
                            · simp only [Act.put, List.setIfInBounds_toArray, List.set_cons_zero, List.set_cons_succ, i64_w, i32_w]
                              rfl
                            refine take_ (i := 7) (N := some 66) (v := ?_) (a' := ?_) #[true, true, true, true, true, true, true, true, true, true, false, false, false, false, false, false, false, false, false, false, false, false, false, false, false, false, false, false, false, false] rfl rfl (take_ofW HT_.out HW_.out (by kernel_rfl)) (fun _ _ _ h => h) (Or.inl ⟨by rfl, ?_⟩) hHeld ?_ ?_
                            rotate_left
                            · rintro w' ⟨s0, s1, s2, s3, s4, s5, s6, s7, s8, s9⟩
                              go_simp
                              with_reducible rfl
                            rotate_left
                            · simp only [Act.put, List.setIfInBounds_toArray, List.set_cons_zero, List.set_cons_succ, i64_w, i32_w]
                              rfl
                            refine pure_ (i := 10) (N := some 69) (v := ?_) (a' := ?_) #[true, true, true, true, true, true, true, true, true, true, true, false, false, false, false, false, false, false, false, false, false, false, false, false, false, false, false, false, false, false] rfl rfl (any_of HT_.out (by kernel_rfl)) (fun _ _ _ h => h) (Or.inl ⟨by rfl, ?_⟩) ?_ ?_
                            rotate_left
                            · intro w'
                              go_simp
                              with_reducible rfl
                            rotate_left
                            · simp only [Act.put, List.setIfInBounds_toArray, List.set_cons_zero, List.set_cons_succ, i64_w, i32_w]
                              rfl
                            refine pure_ (i := 11) (N := some 70) (v := ?_) (a' := ?_) #[true, true, true, true, true, true, true, true, true, true, true, true, false, false, false, false, false, false, false, false, false, false, false, false, false, false, false, false, false, false] rfl rfl (any_of HT_.out (by kernel_rfl)) (fun _ _ _ h => h) (Or.inl ⟨by rfl, ?_⟩) ?_ ?_
                            rotate_left
                            · intro w'
                              go_simp
                              with_reducible rfl
                            rotate_left
                            · simp only [Act.put, List.setIfInBounds_toArray, List.set_cons_zero, List.set_cons_succ, i64_w, i32_w]
                              rfl
                            refine take_ (i := 12) (N := some 71) (v := ?_) (a' := ?_) #[true, true, true, true, true, true, true, true, true, true, true, true, true, false, false, false, false, false, false, false, false, false, false, false, false, false, false, false, false, false] rfl rfl (take_ofW HT_.out HW_.out (by kernel_rfl)) (fun _ _ _ h => h) (Or.inl ⟨by rfl, ?_⟩) hHeld ?_ ?_
                            rotate_left
                            · rintro w' ⟨s0, s1, s2, s3, s4, s5, s6, s7, s8, s9⟩
                              go_simp
                              with_reducible rfl
                            rotate_left
                            · simp only [Act.put, List.setIfInBounds_toArray, List.set_cons_zero, List.set_cons_succ, i64_w, i32_w]
                              rfl
                            refine pure_ (i := 13) (N := some 72) (v := ?_) (a' := ?_) #[true, true, true, true, true, true, true, true, true, true, true, true, true, true, false, false, false, false, false, false, false, false, false, false, false, false, false, false, false, false] rfl rfl (any_of HT_.out (by kernel_rfl)) (fun _ _ _ h => h) (Or.inl ⟨by rfl, ?_⟩) ?_ ?_
                            rotate_left
                            · intro w'
                              go_simp
                              with_reducible rfl
                            rotate_left
                            · simp only [Act.put, List.setIfInBounds_toArray, List.set_cons_zero, List.set_cons_succ, i64_w, i32_w]
                              rfl
                            refine pure_ (i := 14) (N := some 73) (v := ?_) (a' := ?_) #[true, true, true, true, true, true, true, true, true, true, true, true, true, true, true, false, false, false, false, false, false, false, false, false, false, false, false, false, false, false] rfl rfl (any_of HT_.out (by kernel_rfl)) (fun _ _ _ h => h) (Or.inl ⟨by rfl, ?_⟩) ?_ ?_
                            rotate_left
                            · intro w'
                              go_simp
                              with_reducible rfl
                            rotate_left
                            · simp only [Act.put, List.setIfInBounds_toArray, List.set_cons_zero, List.set_cons_succ, i64_w, i32_w]
                              rfl
                            refine pure_ (i := 15) (N := some 74) (v := undef) (a' := ?_) #[true, true, true, true, true, true, true, true, true, true, true, true, true, true, true, true, false, false, false, false, false, false, false, false, false, false, false, false, false, false] rfl rfl (any_of HT_.out (by kernel_rfl)) (fun _ _ _ h => h) (Or.inr ⟨by rfl, rfl⟩) ?_ ?_
                            rotate_left
                            · simp only [Act.put, List.setIfInBounds_toArray, List.set_cons_zero, List.set_cons_succ, i64_w, i32_w]
                              rfl
                            refine pure_ (i := 16) (N := some 75) (v := undef) (a' := ?_) #[true, true, true, true, true, true, true, true, true, true, true, true, true, true, true, true, true, false, false, false, false, false, false, false, false, false, false, false, false, false] rfl rfl (any_of HT_.out (by kernel_rfl)) (fun _ _ _ h => h) (Or.inr ⟨by rfl, rfl⟩) ?_ ?_
                            rotate_left
                            · simp only [Act.put, List.setIfInBounds_toArray, List.set_cons_zero, List.set_cons_succ, i64_w, i32_w]
                              rfl
                            refine pure_ (i := 17) (N := some 76) (v := undef) (a' := ?_) #[true, true, true, true, true, true, true, true, true, true, true, true, true, true, true, true, true, true, false, false, false, false, false, false, false, false, false, false, false, false] rfl rfl (any_of HT_.out (by kernel_rfl)) (fun _ _ _ h => h) (Or.inr ⟨by rfl, rfl⟩) ?_ ?_
                            rotate_left
                            · simp only [Act.put, List.setIfInBounds_toArray, List.set_cons_zero, List.set_cons_succ, i64_w, i32_w]
                              rfl
                            refine pure_ (i := 18) (N := some 77) (v := undef) (a' := ?_) #[true, true, true, true, true, true, true, true, true, true, true, true, true, true, true, true, true, true, true, false, false, false, false, false, false, false, false, false, false, false] rfl rfl (any_of HT_.out (by kernel_rfl)) (fun _ _ _ h => h) (Or.inr ⟨by rfl, rfl⟩) ?_ ?_
                            rotate_left
                            · simp only [Act.put, List.setIfInBounds_toArray, List.set_cons_zero, List.set_cons_succ, i64_w, i32_w]
                              rfl
                            refine pure_ (i := 19) (N := some 78) (v := undef) (a' := ?_) #[true, true, true, true, true, true, true, true, true, true, true, true, true, true, true, true, true, true, true, true, false, false, false, false, false, false, false, false, false, false] rfl rfl (any_of HT_.out (by kernel_rfl)) (fun _ _ _ h => h) (Or.inr ⟨by rfl, rfl⟩) ?_ ?_
                            rotate_left
                            · simp only [Act.put, List.setIfInBounds_toArray, List.set_cons_zero, List.set_cons_succ, i64_w, i32_w]
                              rfl
                            refine pure_ (i := 20) (N := some 79) (v := undef) (a' := ?_) #[true, true, true, true, true, true, true, true, true, true, true, true, true, true, true, true, true, true, true, true, true, false, false, false, false, false, false, false, false, false] rfl rfl (any_of HT_.out (by kernel_rfl)) (fun _ _ _ h => h) (Or.inr ⟨by rfl, rfl⟩) ?_ ?_
                            rotate_left
                            · simp only [Act.put, List.setIfInBounds_toArray, List.set_cons_zero, List.set_cons_succ, i64_w, i32_w]
                              rfl
                            refine pure_ (i := 21) (N := some 80) (v := undef) (a' := ?_) #[true, true, true, true, true, true, true, true, true, true, true, true, true, true, true, true, true, true, true, true, true, true, false, false, false, false, false, false, false, false] rfl rfl (any_of HT_.out (by kernel_rfl)) (fun _ _ _ h => h) (Or.inr ⟨by rfl, rfl⟩) ?_ ?_
                            rotate_left
                            · simp only [Act.put, List.setIfInBounds_toArray, List.set_cons_zero, List.set_cons_succ, i64_w, i32_w]
                              rfl
                            refine pure_ (i := 22) (N := some 81) (v := undef) (a' := ?_) #[true, true, true, true, true, true, true, true, true, true, true, true, true, true, true, true, true, true, true, true, true, true, true, false, false, false, false, false, false, false] rfl rfl (any_of HT_.out (by kernel_rfl)) (fun _ _ _ h => h) (Or.inr ⟨by rfl, rfl⟩) ?_ ?_
                            rotate_left
                            · simp only [Act.put, List.setIfInBounds_toArray, List.set_cons_zero, List.set_cons_succ, i64_w, i32_w]
                              rfl
                            refine pure_ (i := 23) (N := some 82) (v := undef) (a' := ?_) #[true, true, true, true, true, true, true, true, true, true, true, true, true, true, true, true, true, true, true, true, true, true, true, true, false, false, false, false, false, false] rfl rfl (any_of HT_.out (by kernel_rfl)) (fun _ _ _ h => h) (Or.inr ⟨by rfl, rfl⟩) ?_ ?_
                            rotate_left
                            · simp only [Act.put, List.setIfInBounds_toArray, List.set_cons_zero, List.set_cons_succ, i64_w, i32_w]
                              rfl
                            refine pure_ (i := 24) (N := some 83) (v := undef) (a' := ?_) #[true, true, true, true, true, true, true, true, true, true, true, true, true, true, true, true, true, true, true, true, true, true, true, true, true, false, false, false, false, false] rfl rfl (any_of HT_.out (by kernel_rfl)) (fun _ _ _ h => h) (Or.inr ⟨by rfl, rfl⟩) ?_ ?_
                            rotate_left
                            · simp only [Act.put, List.setIfInBounds_toArray, List.set_cons_zero, List.set_cons_succ, i64_w, i32_w]
                              rfl
                            refine pure_ (i := 25) (N := some 84) (v := undef) (a' := ?_) #[true, true, true, true, true, true, true, true, true, true, true, true, true, true, true, true, true, true, true, true, true, true, true, true, true, true, false, false, false, false] rfl rfl (any_of HT_.out (by kernel_rfl)) (fun _ _ _ h => h) (Or.inr ⟨by rfl, rfl⟩) ?_ ?_
                            rotate_left
                            · simp only [Act.put, List.setIfInBounds_toArray, List.set_cons_zero, List.set_cons_succ, i64_w, i32_w]
                              rfl
                            refine pure_ (i := 26) (N := some 85) (v := undef) (a' := ?_) #[true, true, true, true, true, true, true, true, true, true, true, true, true, true, true, true, true, true, true, true, true, true, true, true, true, true, true, false, false, false] rfl rfl (any_of HT_.out (by kernel_rfl)) (fun _ _ _ h => h) (Or.inr ⟨by rfl, rfl⟩) ?_ ?_
                            rotate_left
                            · simp only [Act.put, List.setIfInBounds_toArray, List.set_cons_zero, List.set_cons_succ, i64_w, i32_w]
                              rfl
                            refine pure_ (i := 27) (N := some 86) (v := undef) (a' := ?_) #[true, true, true, true, true, true, true, true, true, true, true, true, true, true, true, true, true, true, true, true, true, true, true, true, true, true, true, true, false, false] rfl rfl (any_of HT_.out (by kernel_rfl)) (fun _ _ _ h => h) (Or.inr ⟨by rfl, rfl⟩) ?_ ?_
                            rotate_left
                            · simp only [Act.put, List.setIfInBounds_toArray, List.set_cons_zero, List.set_cons_succ, i64_w, i32_w]
                              rfl
                            refine pure_ (i := 28) (N := some 87) (v := undef) (a' := ?_) #[true, true, true, true, true, true, true, true, true, true, true, true, true, true, true, true, true, true, true, true, true, true, true, true, true, true, true, true, true, false] rfl rfl (any_of HT_.out (by kernel_rfl)) (fun _ _ _ h => h) (Or.inr ⟨by rfl, rfl⟩) ?_ ?_
                            rotate_left
                            · simp only [Act.put, List.setIfInBounds_toArray, List.set_cons_zero, List.set_cons_succ, i64_w, i32_w]
                              rfl
                            refine pure_ (i := 29) (N := some 88) (v := ?_) (a' := ?_) #[true, true, true, true, true, true, true, true, true, true, true, true, true, true, true, true, true, true, true, true, true, true, true, true, true, true, true, true, true, true] rfl rfl (any_of HT_.out (by kernel_rfl)) (fun _ _ _ h => h) (Or.inl ⟨by rfl, ?_⟩) ?_ ?_
                            rotate_left
                            · intro w'
                              go_simp
                              with_reducible rfl
                            rotate_left
                            · simp only [Act.put, List.setIfInBounds_toArray, List.set_cons_zero, List.set_cons_succ, i64_w, i32_w]
                              rfl
                            refine done_ (done_of HT_.out (by kernel_rfl)) ?_
                            try go_wp2
                            go_meet
                            case rel => exact ⟨_, (false), (by first | rfl | (simp; done) | (simp [*]; done)), H', ⟨by have := HJ3.out; first | omega | exact Nat.le_refl _⟩, ⟨by (with_reducible repeat (first | apply Kd.V_alloc | apply Kd.V_drewN | apply Kd.V_drew)); exact HO_187000.out⟩, ⟨by (with_reducible repeat (first | apply Kd.N_alloc | apply Kd.N_drewN | apply Kd.N_drew)); exact HO193.out⟩, ⟨by (with_reducible repeat (first | refine blk_drewN ?_ _ | refine blk_drew ?_ | refine blk_alloc ?_ _)); exact BK186.out⟩, ⟨by (with_reducible repeat (first | refine blk_drewN ?_ _ | refine blk_drew ?_ | refine blk_alloc ?_ _)); exact BK187.out⟩, ⟨by (with_reducible repeat (first | refine blk_drewN ?_ _ | refine blk_drew ?_ | refine blk_alloc ?_ _)); exact BK190.out⟩, ⟨by repeat (first | (with_reducible first | exact HB.out | apply below_alloc | apply pw_below_drewN | apply below_drew1 | refine below_set ?_ GE186.out | refine below_set ?_ GE187.out | refine below_set ?_ GE190.out) | exact HB.out)⟩⟩
                        case rest =>
                          clear HC31
                          try clear c1
                          try clear p1
                          try clear q1
                          try clear hx1
                          try clear c2
                          try clear p2
                          try clear q2
                          try clear hx2
                          try clear c4
                          try clear c19
                          try clear p19
                          try clear q19
                          try clear hx19
                          try clear c20
                          try clear p20
                          try clear q20
                          try clear hx20
                          try clear c48
                          try clear c48b0
                          try clear c48b1
                          try clear hx198_0
                          try clear hx198_1
                          try clear hx198_2
                          try clear hx198_3
                          try clear hx199_0
                          try clear hx199_1
                          try clear hx199_2
                          try clear hx199_3
                          try clear hx200_0
                          try clear hx200_1
                          try clear hx200_2
                          try clear hx200_3
                          try clear hx201_0
                          try clear hx201_1
                          try clear hx201_2
                          try clear hx201_3
                          try clear p198
                          try clear p199
                          try clear p200
                          try clear p201
                          try clear q198
                          try clear q199
                          try clear q200
                          try clear q201
                          obtain ⟨kq, x88_30, rfl, HA, HJ30, HO_187000, HO_191000, BK186, BK187, BK190, HB⟩ := hcut
                          have hl191000_30 := (Kd.N_reads' HO_191000.out).1
                          rw [hl191000_30] at HO_191000
                          (try simp only [hl191000_30])
                          (try simp only [hl191000_30] at BK186)
                          (try simp only [hl191000_30] at BK187)
                          (try simp only [hl191000_30] at BK190)
                          (try simp only [hl191000_30] at HO_187000)
                          cases kq with
                          | zero => exact absurd HA.out (by simp [hurdlelaw11_DenoteSwaps.j1])
                          | succ kj30 =>
                            have H := HA.out
                            clear HA
                            simp only [hurdlelaw11_DenoteSwaps.j1] at H
                            by_cases c53 : x88_30 = true
                            · subst c53
                              have H1 : ((hurdlelaw11_knows.f).bind fun t202 => (some t202)) = some r := by rw [if_pos rfl] at H; exact H
                              clear H
                              have H := H1
                              clear H1
                              replace H := Option.bind_eq_some_iff.mp H
                              obtain ⟨t202, A540, H⟩ := H
                              replace H : (some t202) = some r := H
                              have A54 := Aside0.mk A540
                              clear A540
                              obtain rfl := Option.some.inj H
                              go_wp2_with (first | ((with_reducible refine gate_callee (f := 23) rfl ?_); refine goesL_ (some 89) rfl rfl Try.func23 (by kernel_rfl) rfl #[] rfl (by (try simp only [List.map_toArray, List.map_cons, List.map_nil]); first | done | rfl | (simp only [List.length_drop, List.length_take]; rfl)) ?_; (with_reducible refine (hurdlelaw11_knows.calls  t202 _ A54.out).mono ?_); rintro e w55 ⟨rfl, hb⟩; refine ⟨_, rfl, ?_⟩; have n0_ := Aside0.mk (Kd.V_below (by (with_reducible repeat (first | apply Kd.V_alloc | apply Kd.V_drewN | apply Kd.V_drew)); exact HO_187000.out) hb); have n1_ := Aside0.mk (Kd.N_below (by (with_reducible repeat (first | apply Kd.N_alloc | apply Kd.N_drewN | apply Kd.N_drew)); exact HO_191000.out) hb); have n2_ := Aside0.mk (blk_below (g := gb186) (o := .cells #[.slice (some ad194) l0_0.length c0_0, .int .u32 a0_1] 25 (0, 0)) (by (with_reducible repeat (first | refine blk_drewN ?_ _ | refine blk_drew ?_ | refine blk_alloc ?_ _)); exact BK186.out) hb); have n3_ := Aside0.mk (blk_below (g := gb187) (o := .cells #[.int .u32 a1_0, .int .u32 a1_1, .int .u64 a1_2, .int .u64 a1_3, .int .u64 a1_4, .int .u64 a1_5, .int .u64 a1_6, .int .u64 a1_7, .int .u64 a1_8] 44 (0, 0)) (by (with_reducible repeat (first | refine blk_drewN ?_ _ | refine blk_drew ?_ | refine blk_alloc ?_ _)); exact BK187.out) hb); have n4_ := Aside0.mk (blk_below (g := gb190) (o := .cells #[.slice (some ⟨go27, 0, none⟩) y197.length co40, .int .u32 a0_1] 25 (0, 0)) (by (with_reducible repeat (first | refine blk_drewN ?_ _ | refine blk_drew ?_ | refine blk_alloc ?_ _)); exact BK190.out) hb); have n5_ := Aside0.mk (below_step (by repeat (first | (with_reducible first | exact HB.out | apply below_alloc | apply pw_below_drewN | apply below_drew1 | refine below_set ?_ GE186.out | refine below_set ?_ GE187.out | refine below_set ?_ GE190.out) | exact HB.out)) hb); clear HO_187000; clear HO_191000; clear BK186; clear BK187; clear BK190; clear HB; have HO_187000 := n0_; have HO_191000 := n1_; have BK186 := n2_; have BK187 := n3_; have BK190 := n4_; have HB := n5_; clear n0_ n1_ n2_ n3_ n4_ n5_; (try clear hb); (try clear hb2); (try clear hk); (try clear hi)))
                              go_ret
                              exact ⟨by first | rfl | (simp [errW_none, errW_some] <;> rfl) | (simp only [← hji21, ← hji24]; first | rfl | (simp [errW_none, errW_some] <;> rfl)) | (simp [*, errW_none, errW_some] <;> rfl), by repeat (first | (with_reducible first | exact HB.out | apply below_alloc | apply pw_below_drewN | apply below_drew1 | refine below_set ?_ GE186.out | refine below_set ?_ GE187.out | refine below_set ?_ GE190.out) | exact HB.out)⟩
                            · replace c53 := Bool.eq_false_iff.mpr c53
                              subst c53
                              have H1 : ((denote_Judge.f l0_0 a0_1 a1_0 a1_1 a1_2 a1_3 a1_4 a1_5 a1_6 a1_7 a1_8).bind fun bt203 => ((denote_Judge.f y197 a0_1 a1_0 a1_1 a1_2 a1_3 a1_4 a1_5 a1_6 a1_7 a1_8).bind fun bt205 => (if bt203.1 = bt205.1 then (if bt203.2 = 0 then (if bt205.2 = 0 then ((hurdlelaw11_knows.f).bind fun t207 => (some t207)) else (some false)) else (some false)) else (some false)))) = some r := by rw [if_neg (show ¬ (false = true) by decide)] at H; exact H
                              clear H
                              have H := H1
                              clear H1
                              replace H := Option.bind_eq_some_iff.mp H
                              obtain ⟨⟨t203, t204⟩, A560, H⟩ := H
                              replace H : ((denote_Judge.f y197 a0_1 a1_0 a1_1 a1_2 a1_3 a1_4 a1_5 a1_6 a1_7 a1_8).bind fun bt205 => (if t203 = bt205.1 then (if t204 = 0 then (if bt205.2 = 0 then ((hurdlelaw11_knows.f).bind fun t207 => (some t207)) else (some false)) else (some false)) else (some false))) = some r := H
                              have A56 := Aside0.mk A560
                              clear A560
                              replace H := Option.bind_eq_some_iff.mp H
                              obtain ⟨⟨t205, t206⟩, A570, H⟩ := H
                              replace H : (if t203 = t205 then (if t204 = 0 then (if t206 = 0 then ((hurdlelaw11_knows.f).bind fun t207 => (some t207)) else (some false)) else (some false)) else (some false)) = some r := H
                              have A57 := Aside0.mk A570
                              clear A570
                              by_cases c58 : t203 = t205
                              · rw [if_pos c58] at H
                                have c58b0 : (t203 == t205) = true := beq_iff_eq.mpr c58
                                have c58b1 : (t203 != t205) = false := bne_eq_false_iff_eq.mpr c58
                                clear c58
                                by_cases c59 : t204 = 0
                                · rw [if_pos c59] at H
                                  have c59b0 : (t204 == 0) = true := beq_iff_eq.mpr c59
                                  have c59b1 : (t204 != 0) = false := bne_eq_false_iff_eq.mpr c59
                                  clear c59
                                  by_cases c60 : t206 = 0
                                  · rw [if_pos c60] at H
                                    have c60b0 : (t206 == 0) = true := beq_iff_eq.mpr c60
                                    have c60b1 : (t206 != 0) = false := bne_eq_false_iff_eq.mpr c60
                                    clear c60
                                    replace H := Option.bind_eq_some_iff.mp H
                                    obtain ⟨t207, A610, H⟩ := H
                                    replace H : (some t207) = some r := H
                                    have A61 := Aside0.mk A610
                                    clear A610
                                    obtain rfl := Option.some.inj H
                                    have hnb62 := NB186_187.out
                                    have hnc62 := NB187_186.out
                                    have hnb63 := NB186_190.out
                                    have hnc63 := NB190_186.out
                                    have hcz64_0 : wc.cell? ⟨gb186, 0, none⟩ = some (.slice (some ad194) l0_0.length c0_0) := (blk_cell BK186.out 0).trans rfl
                                    have hcz64_1 : wc.cell? ⟨gb186, 1, none⟩ = some (.int .u32 a0_1) := (blk_cell BK186.out 1).trans rfl
                                    have hfz64_0 := blk_frozen BK186.out 0
                                    have hfz64_1 := blk_frozen BK186.out 1
                                    have hnb65 := NB187_190.out
                                    have hnc65 := NB190_187.out
                                    have hcz66_0 : wc.cell? ⟨gb187, 0, none⟩ = some (.int .u32 a1_0) := (blk_cell BK187.out 0).trans rfl
                                    have hcz66_1 : wc.cell? ⟨gb187, 1, none⟩ = some (.int .u32 a1_1) := (blk_cell BK187.out 1).trans rfl
                                    have hcz66_2 : wc.cell? ⟨gb187, 2, none⟩ = some (.int .u64 a1_2) := (blk_cell BK187.out 2).trans rfl
                                    have hcz66_3 : wc.cell? ⟨gb187, 3, none⟩ = some (.int .u64 a1_3) := (blk_cell BK187.out 3).trans rfl
                                    have hcz66_4 : wc.cell? ⟨gb187, 4, none⟩ = some (.int .u64 a1_4) := (blk_cell BK187.out 4).trans rfl
                                    have hcz66_5 : wc.cell? ⟨gb187, 5, none⟩ = some (.int .u64 a1_5) := (blk_cell BK187.out 5).trans rfl
                                    have hcz66_6 : wc.cell? ⟨gb187, 6, none⟩ = some (.int .u64 a1_6) := (blk_cell BK187.out 6).trans rfl
                                    have hcz66_7 : wc.cell? ⟨gb187, 7, none⟩ = some (.int .u64 a1_7) := (blk_cell BK187.out 7).trans rfl
                                    have hcz66_8 : wc.cell? ⟨gb187, 8, none⟩ = some (.int .u64 a1_8) := (blk_cell BK187.out 8).trans rfl
                                    have hfz66_0 := blk_frozen BK187.out 0
                                    have hfz66_1 := blk_frozen BK187.out 1
                                    have hfz66_2 := blk_frozen BK187.out 2
                                    have hfz66_3 := blk_frozen BK187.out 3
                                    have hfz66_4 := blk_frozen BK187.out 4
                                    have hfz66_5 := blk_frozen BK187.out 5
                                    have hfz66_6 := blk_frozen BK187.out 6
                                    have hfz66_7 := blk_frozen BK187.out 7
                                    have hfz66_8 := blk_frozen BK187.out 8
                                    go_wp2_with (first | ((with_reducible refine gate_callee (f := 25) rfl ?_); refine goesL_ (some 93) rfl rfl Try.func25 (by kernel_rfl) rfl #[.agg #[.slice (some ad194) l0_0.length c0_0, .int .u32 a0_1], .agg #[.int .u32 a1_0, .int .u32 a1_1, .int .u64 a1_2, .int .u64 a1_3, .int .u64 a1_4, .int .u64 a1_5, .int .u64 a1_6, .int .u64 a1_7, .int .u64 a1_8]] rfl (by (try simp only [List.map_toArray, List.map_cons, List.map_nil]); first | done | rfl | (simp only [List.length_drop, List.length_take]; rfl)) ?_; (with_reducible refine (denote_Judge.calls _ _ l0_0 a0_1 a1_0 a1_1 a1_2 a1_3 a1_4 a1_5 a1_6 a1_7 a1_8 t203 t204 _ ?side1 ?side2 A56.out).mono ?_); (case side1 => repeat (first | exact (Kd.V_reads' HO_187000.out).2.2 | (with_reducible refine Kd.C_alloc ?_ _) | (with_reducible refine Kd.C_drewN ?_ _) | (with_reducible refine Kd.C_drew ?_))); (case side2 => exact (Kd.V_reads' HO_187000.out).2.1); rintro e w67 ⟨rfl, hb⟩; refine ⟨_, rfl, ?_⟩; have n0_ := Aside0.mk (Kd.V_below (by (with_reducible repeat (first | apply Kd.V_alloc | apply Kd.V_drewN | apply Kd.V_drew)); exact HO_187000.out) hb); have n1_ := Aside0.mk (Kd.N_below (by (with_reducible repeat (first | apply Kd.N_alloc | apply Kd.N_drewN | apply Kd.N_drew)); exact HO_191000.out) hb); have n2_ := Aside0.mk (blk_below (g := gb186) (o := .cells #[.slice (some ad194) l0_0.length c0_0, .int .u32 a0_1] 25 (0, 0)) (by (with_reducible repeat (first | refine blk_drewN ?_ _ | refine blk_drew ?_ | refine blk_alloc ?_ _)); exact BK186.out) hb); have n3_ := Aside0.mk (blk_below (g := gb187) (o := .cells #[.int .u32 a1_0, .int .u32 a1_1, .int .u64 a1_2, .int .u64 a1_3, .int .u64 a1_4, .int .u64 a1_5, .int .u64 a1_6, .int .u64 a1_7, .int .u64 a1_8] 44 (0, 0)) (by (with_reducible repeat (first | refine blk_drewN ?_ _ | refine blk_drew ?_ | refine blk_alloc ?_ _)); exact BK187.out) hb); have n4_ := Aside0.mk (blk_below (g := gb190) (o := .cells #[.slice (some ⟨go27, 0, none⟩) y197.length co40, .int .u32 a0_1] 25 (0, 0)) (by (with_reducible repeat (first | refine blk_drewN ?_ _ | refine blk_drew ?_ | refine blk_alloc ?_ _)); exact BK190.out) hb); have n5_ := Aside0.mk (below_step (by repeat (first | (with_reducible first | exact HB.out | apply below_alloc | apply pw_below_drewN | apply below_drew1 | refine below_set ?_ GE186.out | refine below_set ?_ GE187.out | refine below_set ?_ GE190.out) | exact HB.out)) hb); clear HO_187000; clear HO_191000; clear BK186; clear BK187; clear BK190; clear HB; have HO_187000 := n0_; have HO_191000 := n1_; have BK186 := n2_; have BK187 := n3_; have BK190 := n4_; have HB := n5_; clear n0_ n1_ n2_ n3_ n4_ n5_; (try clear hb); (try clear hb2); (try clear hk); (try clear hi); have hcz68_0 : w67.cell? ⟨gb190, 0, none⟩ = some (.slice (some ⟨go27, 0, none⟩) y197.length co40) := (blk_cell BK190.out 0).trans rfl; have hcz68_1 : w67.cell? ⟨gb190, 1, none⟩ = some (.int .u32 a0_1) := (blk_cell BK190.out 1).trans rfl; have hfz68_0 := blk_frozen BK190.out 0; have hfz68_1 := blk_frozen BK190.out 1; have hcz69_0 : w67.cell? ⟨gb187, 0, none⟩ = some (.int .u32 a1_0) := (blk_cell BK187.out 0).trans rfl; have hcz69_1 : w67.cell? ⟨gb187, 1, none⟩ = some (.int .u32 a1_1) := (blk_cell BK187.out 1).trans rfl; have hcz69_2 : w67.cell? ⟨gb187, 2, none⟩ = some (.int .u64 a1_2) := (blk_cell BK187.out 2).trans rfl; have hcz69_3 : w67.cell? ⟨gb187, 3, none⟩ = some (.int .u64 a1_3) := (blk_cell BK187.out 3).trans rfl; have hcz69_4 : w67.cell? ⟨gb187, 4, none⟩ = some (.int .u64 a1_4) := (blk_cell BK187.out 4).trans rfl; have hcz69_5 : w67.cell? ⟨gb187, 5, none⟩ = some (.int .u64 a1_5) := (blk_cell BK187.out 5).trans rfl; have hcz69_6 : w67.cell? ⟨gb187, 6, none⟩ = some (.int .u64 a1_6) := (blk_cell BK187.out 6).trans rfl; have hcz69_7 : w67.cell? ⟨gb187, 7, none⟩ = some (.int .u64 a1_7) := (blk_cell BK187.out 7).trans rfl; have hcz69_8 : w67.cell? ⟨gb187, 8, none⟩ = some (.int .u64 a1_8) := (blk_cell BK187.out 8).trans rfl; have hfz69_0 := blk_frozen BK187.out 0; have hfz69_1 := blk_frozen BK187.out 1; have hfz69_2 := blk_frozen BK187.out 2; have hfz69_3 := blk_frozen BK187.out 3; have hfz69_4 := blk_frozen BK187.out 4; have hfz69_5 := blk_frozen BK187.out 5; have hfz69_6 := blk_frozen BK187.out 6; have hfz69_7 := blk_frozen BK187.out 7; have hfz69_8 := blk_frozen BK187.out 8) | ((with_reducible refine gate_callee (f := 25) rfl ?_); refine goesL_ (some 99) rfl rfl Try.func25 (by kernel_rfl) rfl #[.agg #[.slice (some ⟨go27, 0, none⟩) y197.length co40, .int .u32 a0_1], .agg #[.int .u32 a1_0, .int .u32 a1_1, .int .u64 a1_2, .int .u64 a1_3, .int .u64 a1_4, .int .u64 a1_5, .int .u64 a1_6, .int .u64 a1_7, .int .u64 a1_8]] rfl (by (try simp only [List.map_toArray, List.map_cons, List.map_nil]); first | done | rfl | (simp only [List.length_drop, List.length_take]; rfl)) ?_; (with_reducible refine (denote_Judge.calls _ _ y197 a0_1 a1_0 a1_1 a1_2 a1_3 a1_4 a1_5 a1_6 a1_7 a1_8 t205 t206 _ ?side1 ?side2 A57.out).mono ?_); (case side1 => repeat (first | exact (Kd.N_reads' HO_191000.out).2.2 | (with_reducible refine Kd.C_alloc ?_ _) | (with_reducible refine Kd.C_drewN ?_ _) | (with_reducible refine Kd.C_drew ?_))); (case side2 => exact (Kd.N_reads' HO_191000.out).2.1); rintro e w70 ⟨rfl, hb⟩; refine ⟨_, rfl, ?_⟩; have n0_ := Aside0.mk (Kd.V_below (by (with_reducible repeat (first | apply Kd.V_alloc | apply Kd.V_drewN | apply Kd.V_drew)); exact HO_187000.out) hb); have n1_ := Aside0.mk (Kd.N_below (by (with_reducible repeat (first | apply Kd.N_alloc | apply Kd.N_drewN | apply Kd.N_drew)); exact HO_191000.out) hb); have n2_ := Aside0.mk (blk_below (g := gb186) (o := .cells #[.slice (some ad194) l0_0.length c0_0, .int .u32 a0_1] 25 (0, 0)) (by (with_reducible repeat (first | refine blk_drewN ?_ _ | refine blk_drew ?_ | refine blk_alloc ?_ _)); exact BK186.out) hb); have n3_ := Aside0.mk (blk_below (g := gb187) (o := .cells #[.int .u32 a1_0, .int .u32 a1_1, .int .u64 a1_2, .int .u64 a1_3, .int .u64 a1_4, .int .u64 a1_5, .int .u64 a1_6, .int .u64 a1_7, .int .u64 a1_8] 44 (0, 0)) (by (with_reducible repeat (first | refine blk_drewN ?_ _ | refine blk_drew ?_ | refine blk_alloc ?_ _)); exact BK187.out) hb); have n4_ := Aside0.mk (blk_below (g := gb190) (o := .cells #[.slice (some ⟨go27, 0, none⟩) y197.length co40, .int .u32 a0_1] 25 (0, 0)) (by (with_reducible repeat (first | refine blk_drewN ?_ _ | refine blk_drew ?_ | refine blk_alloc ?_ _)); exact BK190.out) hb); have n5_ := Aside0.mk (below_step (by repeat (first | (with_reducible first | exact HB.out | apply below_alloc | apply pw_below_drewN | apply below_drew1 | refine below_set ?_ GE186.out | refine below_set ?_ GE187.out | refine below_set ?_ GE190.out) | exact HB.out)) hb); clear HO_187000; clear HO_191000; clear BK186; clear BK187; clear BK190; clear HB; have HO_187000 := n0_; have HO_191000 := n1_; have BK186 := n2_; have BK187 := n3_; have BK190 := n4_; have HB := n5_; clear n0_ n1_ n2_ n3_ n4_ n5_; (try clear hb); (try clear hb2); (try clear hk); (try clear hi)) | (go_at_call 23; (with_reducible refine (hurdlelaw11_knows.calls  t207 _ A61.out).mono ?_); rintro e w71 ⟨rfl, hb⟩; have n0_ := Aside0.mk (Kd.V_below (by (with_reducible repeat (first | apply Kd.V_alloc | apply Kd.V_drewN | apply Kd.V_drew)); exact HO_187000.out) hb); have n1_ := Aside0.mk (Kd.N_below (by (with_reducible repeat (first | apply Kd.N_alloc | apply Kd.N_drewN | apply Kd.N_drew)); exact HO_191000.out) hb); have n2_ := Aside0.mk (blk_below (g := gb186) (o := .cells #[.slice (some ad194) l0_0.length c0_0, .int .u32 a0_1] 25 (0, 0)) (by (with_reducible repeat (first | refine blk_drewN ?_ _ | refine blk_drew ?_ | refine blk_alloc ?_ _)); exact BK186.out) hb); have n3_ := Aside0.mk (blk_below (g := gb187) (o := .cells #[.int .u32 a1_0, .int .u32 a1_1, .int .u64 a1_2, .int .u64 a1_3, .int .u64 a1_4, .int .u64 a1_5, .int .u64 a1_6, .int .u64 a1_7, .int .u64 a1_8] 44 (0, 0)) (by (with_reducible repeat (first | refine blk_drewN ?_ _ | refine blk_drew ?_ | refine blk_alloc ?_ _)); exact BK187.out) hb); have n4_ := Aside0.mk (blk_below (g := gb190) (o := .cells #[.slice (some ⟨go27, 0, none⟩) y197.length co40, .int .u32 a0_1] 25 (0, 0)) (by (with_reducible repeat (first | refine blk_drewN ?_ _ | refine blk_drew ?_ | refine blk_alloc ?_ _)); exact BK190.out) hb); have n5_ := Aside0.mk (below_step (by repeat (first | (with_reducible first | exact HB.out | apply below_alloc | apply pw_below_drewN | apply below_drew1 | refine below_set ?_ GE186.out | refine below_set ?_ GE187.out | refine below_set ?_ GE190.out) | exact HB.out)) hb); clear HO_187000; clear HO_191000; clear BK186; clear BK187; clear BK190; clear HB; have HO_187000 := n0_; have HO_191000 := n1_; have BK186 := n2_; have BK187 := n3_; have BK190 := n4_; have HB := n5_; clear n0_ n1_ n2_ n3_ n4_ n5_; (try clear hb); (try clear hb2); (try clear hk); (try clear hi)))
                                    go_ret
                                    exact ⟨by first | rfl | (simp [errW_none, errW_some] <;> rfl) | (simp only [← hji21, ← hji24]; first | rfl | (simp [errW_none, errW_some] <;> rfl)) | (simp [*, errW_none, errW_some] <;> rfl), by repeat (first | (with_reducible first | exact HB.out | apply below_alloc | apply pw_below_drewN | apply below_drew1 | refine below_set ?_ GE186.out | refine below_set ?_ GE187.out | refine below_set ?_ GE190.out) | exact HB.out)⟩
                                  · rw [if_neg c60] at H
                                    exact absurd ((Option.some.inj H).trans ht) Bool.false_ne_true
                                · rw [if_neg c59] at H
                                  exact absurd ((Option.some.inj H).trans ht) Bool.false_ne_true
                              · rw [if_neg c58] at H
                                exact absurd ((Option.some.inj H).trans ht) Bool.false_ne_true
                      · rw [if_neg c29] at H
                        exact absurd H (by simp)
                    · rw [if_neg c28] at H
                      exact absurd H (by simp)
                  · rw [if_neg c26] at H
                    exact absurd H (by simp)
                · rw [if_neg c25] at H
                  exact absurd H (by simp)
              · rw [if_neg c23] at H
                exact absurd H (by simp)
            · rw [if_neg c22] at H
              exact absurd H (by simp)
          · rw [if_neg c20] at H
            exact absurd H (by simp)
end Go.Proofs.Ytekpbgmmogpbdaa.D
set_option linter.unusedVariables false
set_option linter.unusedSimpArgs false
set_option maxRecDepth 100000
namespace Go.Proofs.Ytekpbgmmogpbdaa.H
open Go.RowKit Go.Proofs.YtekpbgmmogpbdaaW.PrintWords Go.ChangeShapes Go.WideShapes
section
variable {H : Type} {enc : TypeId × Value → H} {P : Program} {w : World} {base : Nat} {spare : Nat → Bool} {held : Bool} {fuel : Nat} {t : TypeId} {cs : List Value} {x : DataW H × List MemPlace}
theorem trod_arr_ints {n : Nat} {e : TypeId} {k : IntKind} (ht : P.underlying t = some (.array n e)) (he : P.underlying e = some (.int k)) (hc : P.cellsOf e = 1) (hct : P.cellsOf t = n)
    (h : DataW.trod enc P w base spare held fuel t cs = some x) :
    ∃ xs : List Int, xs.length = n ∧ cs = nums k xs ∧ x.2 = [] ∧ ∀ i, i < n → (Lit.int k (xs.getD i 0)).wf = true := by
  obtain ⟨ys, m, _, rfl, hl, hly, hf⟩ := DataW.trod_array ht h
  rw [hct] at hl
  have key : ∀ i, i < n → ∃ z y, cs[i]? = some (.int k z) ∧ ys[i]? = some y ∧ y.2 = [] ∧ (Lit.int k z).wf = true := by
    intro i hi
    have h1 := hf i hi
    rw [hc, Nat.mul_one, List.getElem?_eq_getElem (show i < ys.length by omega)] at h1
    obtain ⟨z, h2, h3, h4⟩ := DataW.trod_int he h1
    refine ⟨z, ys[i]'(by omega), ?_, List.getElem?_eq_getElem (by omega), by rw [h3], h4⟩
    have h5 : (cs.drop i).take 1 = [cs[i]'(by omega)] := by
      rw [List.take_one, List.head?_drop, List.getElem?_eq_getElem (show i < cs.length by omega)]
      rfl
    rw [h5] at h2
    rw [List.getElem?_eq_getElem (show i < cs.length by omega)]
    simpa using h2
  refine ⟨cs.map intOf, by simpa using hl, ?_, ?_, ?_⟩
  · apply List.ext_getElem?
    intro i
    by_cases hi : i < n
    · obtain ⟨z, y, h1, _⟩ := key i hi
      simp [nums, h1, intOf]
    · rw [List.getElem?_eq_none (by omega), List.getElem?_eq_none (by simp [nums]; omega)]
  · show ys.flatMap (·.2) = []
    rw [List.flatMap_eq_nil_iff]
    intro y hy
    obtain ⟨i, hi, rfl⟩ := List.mem_iff_getElem.1 hy
    obtain ⟨z, y, _, h2, h3, _⟩ := key i (by omega)
    rw [List.getElem?_eq_getElem hi] at h2
    cases h2
    exact h3
  · intro i hi
    obtain ⟨z, y, h1, _, _, h4⟩ := key i hi
    rw [show (cs.map intOf).getD i 0 = z by simp [List.getD_eq_getElem?_getD, h1, intOf]]
    exact h4
end
end Go.Proofs.Ytekpbgmmogpbdaa.H
set_option linter.unusedVariables false
set_option linter.unusedSimpArgs false
set_option maxRecDepth 100000
namespace Go.Proofs.Ytekpbgmmogpbdaa.H
open Go.RowKit Go.Proofs.Ytekpbgmmogpbdaa.P Go.Proofs.YtekpbgmmogpbdaaW.PrintWords Go.ChangeShapes Go.WideShapes
section
variable {H : Type} {enc : TypeId × Value → H} {w : World} {base : Nat} {spare : Nat → Bool} {held : Bool} {fuel : Nat} {x : DataW H × List MemPlace}
theorem open_kd {α : Type} (d : Kd α) (Q : α → Prop) {t e : TypeId} (ht : Try.prog.underlying t = some (.slice e)) (hs : Try.prog.cellsOf e = d.sz) {cs : List Value}
    (el : ∀ (n : Nat) (cs : List Value) (x : DataW H × List MemPlace), cs.length = d.sz → DataW.trod enc Try.prog w base spare held n e cs = some x → ∃ a : α, d.K w a cs ∧ Q a)
    (h : DataW.trod enc Try.prog w base spare held fuel t cs = some x) :
    ∃ A c L, cs = [.slice A L.length c] ∧ L.length ≤ c ∧ d.C w A L.length L ∧ ∀ a ∈ L, Q a := by
  rcases DataW.trod_slice ht h with ⟨rfl, _⟩ | ⟨a, len, cap, elems, rest, n, _, rfl, _, hb, hl, hm, hlen, hel, _⟩
  · exact ⟨none, 0, [], rfl, Nat.le_refl _, ⟨rfl, by simp, fun h => absurd h (by simp)⟩, by simp⟩
  · have key : ∀ i, i < len → ∃ cs', w.cells? base (a.add (i * d.sz)) d.sz = some cs' ∧ ∃ z : α, d.K w z cs' ∧ Q z := by
      intro i hi
      have h1 := hel i hi
      rw [hs, List.getElem?_eq_getElem (show i < elems.length by omega)] at h1
      obtain ⟨cs', h2, h3⟩ := Option.bind_eq_some_iff.1 h1
      exact ⟨cs', h2, el n cs' _ (World.cells?_some h2).2.1 h3⟩
    have : ∃ L : List α, L.length = len ∧ ∀ i (hi : i < L.length), ∃ cs', w.cells? base (a.add (i * d.sz)) d.sz = some cs' ∧ d.K w L[i] cs' ∧ Q L[i] := by
      have : ∀ m, m ≤ len → ∃ L : List α, L.length = m ∧ ∀ i (hi : i < L.length), ∃ cs', w.cells? base (a.add (i * d.sz)) d.sz = some cs' ∧ d.K w L[i] cs' ∧ Q L[i] := by
        intro m
        induction m with
        | zero => intro _; exact ⟨[], rfl, fun i hi => absurd hi (by simp)⟩
        | succ m ih =>
          intro hm
          obtain ⟨L, hL, hp⟩ := ih (by omega)
          obtain ⟨cs', h1, z, h2, h3⟩ := key m (by omega)
          refine ⟨L ++ [z], by simp [hL], fun i hi => ?_⟩
          by_cases hlt : i < L.length
          · obtain ⟨c2, g1, g2, g3⟩ := hp i hlt
            exact ⟨c2, g1, by rw [List.getElem_append_left hlt]; exact g2, by rw [List.getElem_append_left hlt]; exact g3⟩
          · have e : i = m := by simp at hi; omega
            subst e
            have hz : (L ++ [z])[i] = z := by rw [List.getElem_append_right (by omega)]; simp [hL]
            exact ⟨cs', h1, by rw [hz]; exact h2, by rw [hz]; exact h3⟩
      exact this len (Nat.le_refl _)
    obtain ⟨L, hL, hp⟩ := this
    subst hL
    refine ⟨some a, cap, L, rfl, hl, ⟨rfl, ?_, fun _ => ⟨a, rfl, fun j p hj => ?_⟩⟩, fun z hz => ?_⟩
    · unfold maxLen at hm; omega
    · obtain ⟨hlt, rfl⟩ := List.getElem?_eq_some_iff.1 hj
      obtain ⟨cs', h1, h2, h3⟩ := hp j hlt
      obtain ⟨_, h5, h6⟩ := World.cells?_some h1
      refine ⟨cs', h5, h2, fun i u hu => ?_⟩
      have hi : i < d.sz := by rw [← h5]; exact (List.getElem?_eq_some_iff.1 hu).1
      have := h6 i hi
      rw [hu] at this
      rw [← Go.Proofs.YtekpbgmmogpbdaaW.PrintWords.add_add]
      exact this
    · obtain ⟨i, hi, rfl⟩ := List.mem_iff_getElem.1 hz
      obtain ⟨_, _, _, h⟩ := hp i hi
      exact h
theorem wf32 {n : Int} (h : (Lit.int .u32 n).wf = true) : u32P n := by have := bounds_u32 h; unfold u32P; omega
theorem wf64 {n : Int} (h : (Lit.int .u64 n).wf = true) : u64P n := by have := bounds_u64 h; unfold u64P; omega
theorem el_cond (n : Nat) (cs : List Value) (x : DataW H × List MemPlace) (hl : cs.length = 4) (h : DataW.trod enc Try.prog w base spare held n 61 cs = some x) : ∃ a : S61, k61.K w a cs ∧ condK a := by
  obtain ⟨xs, m, _, hx, hl2, hlx, hfi⟩ := DataW.trod_struct Try.underlying61 h
  have h1 : Try.prog.cellsOf 3 = 1 := by kernel_rfl
  have h2 : Try.prog.cellsOf 41 = 1 := by kernel_rfl
  match cs, hl with
  | [c0, c1, c2, c3], _ =>
    match xs, hlx with
    | [y0, y1, y2, y3], _ =>
      have f0 : DataW.trod enc Try.prog w base spare held m 3 ((List.drop 0 [c0, c1, c2, c3]).take (Try.prog.cellsOf 3)) = some y0 := hfi 0 _ rfl
      have f1 : DataW.trod enc Try.prog w base spare held m 3 ((List.drop 1 [c0, c1, c2, c3]).take (Try.prog.cellsOf 3)) = some y1 := hfi 1 _ rfl
      have f2 : DataW.trod enc Try.prog w base spare held m 41 ((List.drop 2 [c0, c1, c2, c3]).take (Try.prog.cellsOf 41)) = some y2 := hfi 2 _ rfl
      have f3 : DataW.trod enc Try.prog w base spare held m 41 ((List.drop 3 [c0, c1, c2, c3]).take (Try.prog.cellsOf 41)) = some y3 := hfi 3 _ rfl
      simp only [h1, h2, Value.cells, List.drop_zero, List.drop_succ_cons, List.take_succ_cons, List.take_zero] at f0 f1 f2 f3
      obtain ⟨x0, e0, g0, w0⟩ := DataW.trod_int Try.underlying3 f0
      obtain ⟨x1, e1, g1, w1⟩ := DataW.trod_int Try.underlying3 f1
      obtain ⟨x2, e2, g2, w2⟩ := DataW.trod_int Try.underlying41 f2
      obtain ⟨x3, e3, g3, w3⟩ := DataW.trod_int Try.underlying41 f3
      simp only [List.cons.injEq, and_true] at e0 e1 e2 e3
      subst e0 e1 e2 e3
      exact ⟨⟨x0, x1, x2, x3⟩, k61_mk w ⟨x0, x1, x2, x3⟩, wf64 w2, wf64 w3⟩
theorem el_rule (n : Nat) (cs : List Value) (x : DataW H × List MemPlace) (hl : cs.length = 4) (h : DataW.trod enc Try.prog w base spare held n 40 cs = some x) : ∃ a : S40, k40.K w a cs ∧ ruleK a := by
  obtain ⟨xs, m, _, hx, hl2, hlx, hfi⟩ := DataW.trod_struct Try.underlying40 h
  have h1 : Try.prog.cellsOf 23 = 1 := by kernel_rfl
  have h2 : Try.prog.cellsOf 38 = 1 := by kernel_rfl
  match cs, hl with
  | [c0, c1, c2, c3], _ =>
    match xs, hlx with
    | [y0, y1, y2, y3], _ =>
      have f0 : DataW.trod enc Try.prog w base spare held m 23 ((List.drop 0 [c0, c1, c2, c3]).take (Try.prog.cellsOf 23)) = some y0 := hfi 0 _ rfl
      have f1 : DataW.trod enc Try.prog w base spare held m 23 ((List.drop 1 [c0, c1, c2, c3]).take (Try.prog.cellsOf 23)) = some y1 := hfi 1 _ rfl
      have f2 : DataW.trod enc Try.prog w base spare held m 38 ((List.drop 2 [c0, c1, c2, c3]).take (Try.prog.cellsOf 38)) = some y2 := hfi 2 _ rfl
      have f3 : DataW.trod enc Try.prog w base spare held m 23 ((List.drop 3 [c0, c1, c2, c3]).take (Try.prog.cellsOf 23)) = some y3 := hfi 3 _ rfl
      simp only [h1, h2, Value.cells, List.drop_zero, List.drop_succ_cons, List.take_succ_cons, List.take_zero] at f0 f1 f2 f3
      obtain ⟨x0, e0, g0, w0⟩ := DataW.trod_int Try.underlying23 f0
      obtain ⟨x1, e1, g1, w1⟩ := DataW.trod_int Try.underlying23 f1
      obtain ⟨A, c, L, e2, hc, hr, hk⟩ := open_kd k61 condK Try.underlying38 (by kernel_rfl) el_cond f2
      obtain ⟨x3, e3, g3, w3⟩ := DataW.trod_int Try.underlying23 f3
      simp only [List.cons.injEq, and_true] at e0 e1 e2 e3
      subst e0 e1 e2 e3
      exact ⟨⟨x0, x1, L, x3⟩, k40_mk w ⟨x0, x1, L, x3⟩ hc hr, wf32 w0, wf32 w1, wf32 w3, hk⟩
theorem open_policy {r : Reach} {b0 : Nat} {v : Value} {d : DataW H} {ps : List MemPlace} (hval : Value.okWide Try.prog w r b0 25 v) (hd : DataW.Trod enc Try.prog w base spare held 25 v d ps) :
    ∃ (A : Option Addr) (c : Nat) (L : List S40) (df : Int), v = .agg #[.slice A L.length c, .int .u32 df] ∧ L.length ≤ c ∧ k40.C w A L.length L ∧ polK L df := by
  obtain ⟨cs, rfl, hsz⟩ := okWide_struct Try.underlying25 hval
  obtain ⟨fuel, hf⟩ := hd
  obtain ⟨xs, n, _, hx, hl, hlx, hfi⟩ := DataW.trod_struct Try.underlying25 hf
  have h9 : Try.prog.cellsOf 25 = 2 := by kernel_rfl
  have h1 : Try.prog.cellsOf 23 = 1 := by kernel_rfl
  have h2 : Try.prog.cellsOf 22 = 1 := by kernel_rfl
  have hc9 : cs.toList.length = 2 := by simpa [h9] using hsz
  obtain ⟨L, hL⟩ : ∃ L, cs.toList = L := ⟨_, rfl⟩
  have hcs : cs = L.toArray := by rw [← hL]
  rw [hL] at hc9
  subst hcs
  match L, hc9 with
  | [c0, c1], _ =>
    match xs, hlx with
    | [y0, y1], _ =>
      have f0 : DataW.trod enc Try.prog w base spare held n 22 ((List.drop 0 [c0, c1]).take (Try.prog.cellsOf 22)) = some y0 := hfi 0 _ rfl
      have f1 : DataW.trod enc Try.prog w base spare held n 23 ((List.drop 1 [c0, c1]).take (Try.prog.cellsOf 23)) = some y1 := hfi 1 _ rfl
      simp only [h1, h2, Value.cells, List.drop_zero, List.drop_succ_cons, List.take_succ_cons, List.take_zero] at f0 f1
      obtain ⟨A, c, L, e0, hc, hr, hk⟩ := open_kd k40 ruleK Try.underlying22 (by kernel_rfl) el_rule f0
      obtain ⟨df, e1, g1, w1⟩ := DataW.trod_int Try.underlying23 f1
      simp only [List.cons.injEq, and_true] at e0 e1
      subst e0 e1
      exact ⟨A, c, L, df, rfl, hc, hr, hk, wf32 w1⟩
end
end Go.Proofs.Ytekpbgmmogpbdaa.H
set_option linter.unusedVariables false
set_option linter.unusedSimpArgs false
set_option maxRecDepth 100000
namespace Go.Proofs.Ytekpbgmmogpbdaa.H
open Go.RowKit Go.Proofs.YtekpbgmmogpbdaaW.PrintWords Go.ChangeShapes Go.WideShapes
section
variable {H : Type} {enc : TypeId × Value → H} {w : World} {base : Nat} {spare : Nat → Bool} {held : Bool}
theorem wf_bounds32 {n : Int} (h : (Lit.int .u32 n).wf = true) : 0 ≤ n ∧ n < 4294967296 := by have := bounds_u32 h; omega
theorem wf_bounds64 {n : Int} (h : (Lit.int .u64 n).wf = true) : 0 ≤ n ∧ n < 18446744073709551616 := by have := bounds_u64 h; omega
theorem open_data {r : Reach} {b0 : Nat} {v : Value} {d : DataW H} {ps : List MemPlace} (hval : Value.okWide Try.prog w r b0 44 v) (hd : DataW.Trod enc Try.prog w base spare held 44 v d ps) :
    ∃ x0 x1 x2 x3 x4 x5 x6 x7 x8 : Int, v = .agg #[.int .u32 x0, .int .u32 x1, .int .u64 x2, .int .u64 x3, .int .u64 x4, .int .u64 x5, .int .u64 x6, .int .u64 x7, .int .u64 x8] ∧ ps = [] ∧
      IsDat x0 x1 x2 [x3, x4, x5, x6, x7, x8] := by
  obtain ⟨cs, rfl, hsz⟩ := okWide_struct Try.underlying44 hval
  obtain ⟨fuel, hf⟩ := hd
  obtain ⟨xs, n, _, hx, hl, hlx, hfi⟩ := DataW.trod_struct Try.underlying44 hf
  simp only [Prod.mk.injEq] at hx
  have h9 : Try.prog.cellsOf 44 = 9 := by kernel_rfl
  have h1 : Try.prog.cellsOf 23 = 1 := by kernel_rfl
  have h2 : Try.prog.cellsOf 41 = 1 := by kernel_rfl
  have h6 : Try.prog.cellsOf 42 = 6 := by kernel_rfl
  have hc9 : cs.toList.length = 9 := by simpa [h9] using hsz
  obtain ⟨L, hL⟩ : ∃ L, cs.toList = L := ⟨_, rfl⟩
  have hcs : cs = L.toArray := by rw [← hL]
  rw [hL] at hc9
  subst hcs
  match L, hc9 with
  | [c0, c1, c2, c3, c4, c5, c6, c7, c8], _ =>
    match xs, hlx with
    | [y0, y1, y2, y3], _ =>
      have f0 : DataW.trod enc Try.prog w base spare held n 23 ((List.drop 0 [c0, c1, c2, c3, c4, c5, c6, c7, c8]).take (Try.prog.cellsOf 23)) = some y0 := hfi 0 _ rfl
      have f1 : DataW.trod enc Try.prog w base spare held n 23 ((List.drop 1 [c0, c1, c2, c3, c4, c5, c6, c7, c8]).take (Try.prog.cellsOf 23)) = some y1 := hfi 1 _ rfl
      have f2 : DataW.trod enc Try.prog w base spare held n 41 ((List.drop 2 [c0, c1, c2, c3, c4, c5, c6, c7, c8]).take (Try.prog.cellsOf 41)) = some y2 := hfi 2 _ rfl
      have f3 : DataW.trod enc Try.prog w base spare held n 42 ((List.drop 3 [c0, c1, c2, c3, c4, c5, c6, c7, c8]).take (Try.prog.cellsOf 42)) = some y3 := hfi 3 _ rfl
      simp only [h1, h2, h6, Value.cells, List.drop_zero, List.drop_succ_cons, List.take_succ_cons, List.take_zero, List.getElem?_cons_zero, List.getElem?_cons_succ] at f0 f1 f2 f3
      obtain ⟨x0, e0, g0, w0⟩ := DataW.trod_int Try.underlying23 f0
      obtain ⟨x1, e1, g1, w1⟩ := DataW.trod_int Try.underlying23 f1
      obtain ⟨x2, e2, g2, w2⟩ := DataW.trod_int Try.underlying41 f2
      obtain ⟨zs, hz, e3, g3, w3⟩ := trod_arr_ints Try.underlying42 Try.underlying41 h2 h6 f3
      match zs, hz with
      | [x3, x4, x5, x6, x7, x8], _ =>
        simp only [nums, List.map_cons, List.map_nil, List.cons.injEq, and_true] at e0 e1 e2 e3
        obtain ⟨rfl, rfl, rfl, rfl, rfl, rfl⟩ := e3
        subst e0 e1 e2
        refine ⟨x0, x1, x2, x3, x4, x5, x6, x7, x8, rfl, ?_, ⟨rfl, wf_bounds32 w0, wf_bounds32 w1, wf_bounds64 w2, fun k => by
          by_cases hk : k < 6
          · exact wf_bounds64 (w3 k hk)
          · rw [List.getD_eq_getElem?_getD, List.getElem?_eq_none (by simpa using hk)]; exact ⟨by decide, by decide⟩⟩⟩
        rw [hx.2]
        simp [g0, g1, g2, g3]
end
end Go.Proofs.Ytekpbgmmogpbdaa.H
set_option linter.unusedVariables false
set_option linter.unusedSimpArgs false
set_option maxRecDepth 100000
namespace Go.Proofs.Ytekpbgmmogpbdaa.H
open Go.RowKit Go.Proofs.YtekpbgmmogpbdaaW.PrintWords
open Go.Proofs.Ytekpbgmmogpbdaa.P (S61 S40 k61 k40 rd_T40)
theorem two_at (L : List S40) (i : Nat) (h : i + 1 < L.length) : ∃ pre x y post, L = pre ++ x :: y :: post ∧ pre.length = i := by
  refine ⟨L.take i, L[i], L[i + 1], L.drop (i + 2), ?_, by simp; omega⟩
  conv => lhs; rw [← List.take_append_drop i L]
  rw [List.drop_eq_getElem_cons (by omega), List.drop_eq_getElem_cons (by omega)]
theorem rd_mid (pre post : List S40) (x : S40) : rd_T40 (pre ++ x :: post) (pre.length : Int) = x := by
  rw [rd40 _ _ (by simp)]
  simp
theorem judge_swap (pre post : List S40) (x y : S40) (df a0 a1 : Int) (ags : List Int) (h : ¬ (y.f0 = x.f0 ∧ y.f1 = x.f1)) :
    judgeV (pre ++ x :: y :: post) df a0 a1 ags = judgeV (pre ++ y :: x :: post) df a0 a1 ags := by
  unfold judgeV
  rw [List.find?_append, List.find?_append]
  cases List.find? (fitX a0 a1 ags) pre with
  | some z => rfl
  | none =>
    simp only [Option.none_or]
    by_cases hx : fitX a0 a1 ags x = true
    · by_cases hy : fitX a0 a1 ags y = true
      · exfalso
        unfold fitX fitsB at hx hy
        simp only [Bool.and_eq_true, decide_eq_true_eq] at hx hy
        exact h ⟨hy.1.trans hx.1.symm, hy.2.1.trans hx.2.1.symm⟩
      · rw [List.find?_cons_of_pos hx, List.find?_cons_of_neg hy, List.find?_cons_of_pos hx]
    · by_cases hy : fitX a0 a1 ags y = true
      · rw [List.find?_cons_of_neg hx, List.find?_cons_of_pos hy, List.find?_cons_of_pos hy]
      · rw [List.find?_cons_of_neg hx, List.find?_cons_of_neg hy, List.find?_cons_of_neg hy, List.find?_cons_of_neg hx]
theorem polOk_swap {pre post : List S40} {x y : S40} {df : Int} (h : polOk (pre ++ x :: y :: post) df) : polOk (pre ++ y :: x :: post) df := by
  refine ⟨by have := h.1; simp only [List.length_append, List.length_cons] at this ⊢; omega, fun z hz => h.2.1 z ?_, h.2.2⟩
  simp only [List.mem_append, List.mem_cons] at hz ⊢
  rcases hz with h | h | h | h
  · exact .inl h
  · exact .inr (.inr (.inl h))
  · exact .inr (.inl h)
  · exact .inr (.inr (.inr h))
theorem swaps_j1 (k : Nat) (b : Bool) (pre post : List S40) (x y : S40) (df a0 a1 a2 a3 a4 a5 a6 a7 a8 : Int) (ok : polOk (pre ++ x :: y :: post) df) (hd : IsDat a0 a1 a2 [a3, a4, a5, a6, a7, a8]) (hb : b = false → ¬ (y.f0 = x.f0 ∧ y.f1 = x.f1)) :
    D.hurdlelaw11_DenoteSwaps.j1 (k + 1) b (pre ++ x :: y :: post) df a0 a1 a2 a3 a4 a5 a6 a7 a8 (pre ++ y :: x :: post) df = some true := by
  cases b with
  | true => simp only [D.hurdlelaw11_DenoteSwaps.j1, if_true, hurdlelaw11_knows.f, Option.bind_some]
  | false =>
    simp only [D.hurdlelaw11_DenoteSwaps.j1, Bool.false_eq_true, if_false, Judge_f ok hd, Judge_f (polOk_swap ok) hd, Option.bind_some, hurdlelaw11_knows.f]
    rw [if_pos (judge_swap pre post x y df a0 a1 _ (hb rfl)), if_pos trivial, if_pos trivial]
theorem swaps_f (k : Nat) (L : List S40) (df a0 a1 a2 a3 a4 a5 a6 a7 a8 at_ : Int) (h : polK L df) (hd : IsDat a0 a1 a2 [a3, a4, a5, a6, a7, a8]) (ha : 0 ≤ at_ ∧ at_ ≤ 255) :
    D.hurdlelaw11_DenoteSwaps.f (k + 2) L df a0 a1 a2 a3 a4 a5 a6 a7 a8 at_ = some true := by
  unfold D.hurdlelaw11_DenoteSwaps.f
  rw [Right_f h]
  simp only [Option.bind_some]
  by_cases hb : polB L df = true
  · rw [if_pos hb]
    have ok := (polOk_iff h).1 hb
    have hl := ok.1
    by_cases hn : (L.length : Int) < 2
    · rw [decide_eq_true hn]
      simp only [D.hurdlelaw11_DenoteSwaps.j0, if_true, hurdlelaw11_knows.f, Option.bind_some]
    · rw [decide_eq_false hn]
      obtain ⟨m, hm⟩ : ∃ m : Nat, L.length = m + 2 := ⟨L.length - 2, by omega⟩
      obtain ⟨t, rfl⟩ : ∃ t : Nat, at_ = (t : Int) := ⟨at_.toNat, by omega⟩
      have e1 : wrap64 ((L.length : Int) - 1) = ((m + 1 : Nat) : Int) := by unfold wrap64; omega
      have e2 : wrap64 (t : Int) = (t : Int) := by unfold wrap64; omega
      have e3 : Int.tmod (t : Int) ((m + 1 : Nat) : Int) = ((t % (m + 1) : Nat) : Int) := rfl
      have hi : t % (m + 1) < m + 1 := Nat.mod_lt _ (by omega)
      generalize t % (m + 1) = i at e3 hi
      have e4 : wrap64 ((i : Int) + 1) = ((i + 1 : Nat) : Int) := by unfold wrap64; omega
      obtain ⟨pre, x, y, post, rfl, hp⟩ := two_at L i (by omega)
      subst hp
      have r1 : rd_T40 (pre ++ x :: y :: post) ((pre.length + 1 : Nat) : Int) = y := by
        have := rd_mid (pre ++ [x]) post y
        simpa using this
      have r2 := rd_mid pre (y :: post) x
      have s1 : ((pre ++ x :: y :: post).set pre.length y).set (pre.length + 1) x = pre ++ y :: x :: post := by
        rw [List.set_append_right _ _ (Nat.le_refl _), List.set_append_right _ _ (by omega)]
        simp
      have r3 := rd_mid pre (x :: post) y
      have r4 : rd_T40 (pre ++ y :: x :: post) ((pre.length + 1 : Nat) : Int) = x := by
        have := rd_mid (pre ++ [y]) post x
        simpa using this
      unfold D.hurdlelaw11_DenoteSwaps.j0
      simp only [Bool.false_eq_true, if_false, e1, e2, e3, e4, Option.bind_some, List.nil_append, List.length_nil, Int.toNat_natCast, r1, r2, s1, r3, r4]
      rw [if_neg (by omega), if_pos (by omega), if_pos (by omega), if_pos (by omega), if_pos (by omega), if_pos (by omega), if_pos (by omega), if_pos (by omega)]
      by_cases hf : y.f0 = x.f0
      · rw [if_pos hf]
        exact swaps_j1 k _ pre post x y df a0 a1 a2 a3 a4 a5 a6 a7 a8 ok hd (fun hb hh => by rw [hh.2] at hb; simp at hb)
      · rw [if_neg hf]
        exact swaps_j1 k _ pre post x y df a0 a1 a2 a3 a4 a5 a6 a7 a8 ok hd (fun _ hh => hf hh.1)
  · rw [if_neg hb]
    simp only [D.hurdlelaw11_DenoteSwaps.j0, if_true, hurdlelaw11_knows.f, Option.bind_some]
theorem DenoteSwaps_row (A : Option Addr) (c : Nat) (L : List S40) (df : Int) (a0 a1 a2 a3 a4 a5 a6 a7 a8 at_ : Int) (W : World) (hc : L.length ≤ c) (hr : k40.C W A L.length L) (hk : polK L df) (hd : IsDat a0 a1 a2 [a3, a4, a5, a6, a7, a8]) (ha : 0 ≤ at_ ∧ at_ ≤ 255) :
    Calls Try.prog 12 #[.agg #[.slice A L.length c, .int .u32 df], .agg #[.int .u32 a0, .int .u32 a1, .int .u64 a2, .int .u64 a3, .int .u64 a4, .int .u64 a5, .int .u64 a6, .int .u64 a7, .int .u64 a8], .int .u8 at_] W fun e w' => e = .returned (.bool true) ∧ Below W.heap.size W w' :=
  (D.hurdlelaw11_DenoteSwaps.calls 2 (fun k => k < W.heap.size) A c L df a0 a1 a2 a3 a4 a5 a6 a7 a8 at_ true W (Kd.V_mk hc (Kd.C_F D.k40_heap hr)) (swaps_f 0 L df a0 a1 a2 a3 a4 a5 a6 a7 a8 at_ hk hd ha) rfl).mono (fun e w' h => h)
end Go.Proofs.Ytekpbgmmogpbdaa.H
namespace Go.Proofs.Ytekpbgmmogpbdaa.denoteSwaps
open Go.ChangeShapes Go.WideShapes Go.ChangeAt Go.RowKit
open Go.ChangeMaps (open_string shut_string)
set_option linter.unusedVariables false
theorem laidOut : laidOutB Try.prog = true := by kernel_rfl
theorem own : ownKnob Try.prog.godebug = none := by kernel_rfl
set_option maxRecDepth 100000 in
theorem lifted (os : Os) (started : os.Started) (H : Type) (enc : TypeId × Value → H) :
    ReturnsInHanded {} Try.checked os 12 .any (Rows.denoteSwapsSpec.pre6 enc Try.prog Try.f12 Rows.denoteSwapsRow.domain false) (Rows.denoteSwapsSpec.post enc Try.prog Try.f12 false true false false) := by
  refine returnsInHanded_of_change_sized (C := Try.checked) own started (by kernel_rfl) Try.func12
    (ChangeSpec.witness6 (enc := enc) (C := Try.checked) false ⟨#[], #[.agg #[.slice none 0 0, .int .u32 0], .agg #[.int .u32 0, .int .u32 0, .int .u64 0, .int .u64 0, .int .u64 0, .int .u64 0, .int .u64 0, .int .u64 0, .int .u64 0], .int .u8 0], []⟩ 8 (by kernel_rfl) (by kernel_rfl) (by kernel_rfl) (by kernel_rfl)) ?_
  intro W base args ds gs before hval0 hW hcnd hsz0 _
  have hsz : (DataW.weightsEach Try.prog (Try.f12.params.toList ++ Rows.denoteSwapsSpec.plain.varTypes Try.prog) (ds ++ gs)).all (· ≤ reachBytes) = true := hsz0
  have hval : ∀ (j : Nat) t v, Try.f12.params[j]? = some t → args[j]? = some v → Value.okWide Try.prog W .any base t v := hval0
  have hW' := hW
  obtain ⟨p, q, hA0, hV, rfl, hfz, hnd⟩ := hW
  have hA : DataW.TrodAll enc Try.prog W 0 (fun _ => true) true Try.f12.params.toList args.toList ds p := hA0
  rw [Try.params12] at hA hval hsz
  obtain ⟨v0, vs0, d0, ds0, p0, q0, hargs, rfl, rfl, h0, r0⟩ := trodAll_cons hA
  obtain ⟨v1, vs1, d1, ds1, p1, q1, rfl, rfl, rfl, h1, r1⟩ := trodAll_cons r0
  obtain ⟨v2, vs2, d2, ds2, p2, q2, rfl, rfl, rfl, h2, r2⟩ := trodAll_cons r1
  obtain ⟨rfl, rfl, rfl⟩ := trodAll_nil r2
  obtain rfl : args = #[v0, v1, v2] := by cases args; simp_all
  obtain ⟨rfl, rfl⟩ := trodVars_none hV
  have k0 := h0
  have lt0 : ∀ x ∈ p0, x.block < W.heap.size := by obtain ⟨m, hm⟩ := k0; exact DataW.trod_lt m _ _ _ hm
  obtain ⟨A0, c0, L0, f0, rfl, hc0, hr0, b0⟩ := Go.Proofs.Ytekpbgmmogpbdaa.H.open_policy (hval 0 25 v0 rfl rfl) h0
  have k1 := h1
  obtain ⟨a1_0, a1_1, a1_2, a1_3, a1_4, a1_5, a1_6, a1_7, a1_8, rfl, hp1, b1⟩ := Go.Proofs.Ytekpbgmmogpbdaa.H.open_data (hval 1 44 v1 rfl rfl) h1
  have lt1 : ∀ x ∈ p1, x.block < W.heap.size := by rw [hp1]; simp
  obtain ⟨a2, rfl, rfl, rfl, w2⟩ := open_int Try.underlying5 (hval 2 5 v2 rfl rfl) h2
  clear hA0 hval0 hsz0 hsz
  refine (Go.Proofs.Ytekpbgmmogpbdaa.H.DenoteSwaps_row A0 c0 L0 f0 a1_0 a1_1 a1_2 a1_3 a1_4 a1_5 a1_6 a1_7 a1_8 a2 W hc0 hr0 b0 b1 (by have := bounds_u8 w2; omega)).mono fun e W' ⟨he, bel⟩ => ?_
  subst he
  exact ⟨_, rfl, _, _, _, [], _, [], hW', trodAll_mk1 (shut_bool Try.underlying4 _), (trodAll_cons_mk (Below.trod laidOut (by kernel_rfl) (of_decide_eq_true (by kernel_rfl)) k0 bel lt0) (trodAll_cons_mk (Below.trod laidOut (by kernel_rfl) (of_decide_eq_true (by kernel_rfl)) k1 bel lt1) (trodAll_cons_mk (shut_int Try.underlying5 w2) trodAll_mk0))), rfl, bel.frame _, fun h => by cases h⟩
theorem over : Rows.denoteSwapsRow.holds Try.pinned (OpenSpec.ofChange Rows.denoteSwapsSpec) :=
  OpenClaim.holds_of_wide 12 Try.f12 rfl rfl rfl rfl rfl rfl rfl ⟨rfl, rfl, rfl, rfl, rfl⟩ rfl rfl rfl rfl rfl (by kernel_rfl) Try.func12 (by kernel_rfl)
    (of_decide_eq_true (by kernel_rfl)) (by unfold Func.isWrapper; first | (rw [if_pos (by decide +kernel)]; kernel_rfl) | (rw [if_neg (by decide +kernel)]; exact ⟨rfl, rfl⟩))
    (fun os started H enc _ => lifted os started H enc)
theorem proved : Rows.DenoteSwapsSaid := over
#print axioms proved
end Go.Proofs.Ytekpbgmmogpbdaa.denoteSwaps
namespace Go.Proofs.Ytekpbgmmogpbdaa
theorem denoteSwaps_holds : Rows.DenoteSwapsSaid := denoteSwaps.proved
end Go.Proofs.Ytekpbgmmogpbdaa
