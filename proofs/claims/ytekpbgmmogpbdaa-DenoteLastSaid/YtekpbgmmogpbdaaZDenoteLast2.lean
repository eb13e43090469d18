/- A last rule whose action is the default makes no difference (any policy, any record, any rule). -/
import Derived.ProofKit
import Derived.ChangeOld
import Derived.DataReads
import Derived.Test.YtekpbgmmogpbdaaRows
import Derived.ShutString
import Derived.SizedLaws
import Derived.Test.YtekpbgmmogpbdaaZDenoteLast1
namespace Go.Proofs.Ytekpbgmmogpbdaa.D
open Go.RowKit Go.Proofs.Ytekpbgmmogpbdaa.H Go.Proofs.YtekpbgmmogpbdaaW.PrintWords Go.Proofs.YtekpbgmmogpbdaaW.PrintLast Go.Proofs.YtekpbgmmogpbdaaW.PrintMore
open Go.Proofs.Ytekpbgmmogpbdaa.P (errW errW_none errW_some info40 info61 S61 z61 k61 k61_open k61_mk k61_mkM rd_T61 at_T61 S40 z40 k40 k40_open k40_openM k40_mk k40_mkM k40_mkF rd_T40 at_T40)
attribute [local go_sem] max2_int min2_int max_two min_two max_three min_three max_four min_four
set_option linter.unusedVariables false
set_option linter.unusedSimpArgs false
theorem k61_heap : Kd.Heap k61 := Kd.heap_iso _ (Kd.heap_pair (Kd.heap_int .i64) (Kd.heap_pair (Kd.heap_int .i64) (Kd.heap_pair (Kd.heap_int .u64) (Kd.heap_int .u64))))
theorem k40_heap : Kd.Heap k40 := Kd.heap_iso _ (Kd.heap_pair (Kd.heap_int .u32) (Kd.heap_pair (Kd.heap_int .u32) (Kd.heap_pair (Kd.heap_slice 61 k61_heap) (Kd.heap_int .u32))))
noncomputable def hurdlelaw11_put.f (l0_0 : List (S40)) (a0_1 : Int) (a1 : Int) (a2_0 : Int) (a2_1 : Int) (l2_2 : List (S61)) (a2_3 : Int) : Option ((List (S40)) × Int) := (some (([] : List (S40)) : List (S40))).bind fun y163 => (if 0 ≤ a1 then (if a1 ≤ (l0_0.length : Int) then ((some (l0_0.take (a1 : Int).toNat : List (S40))).bind fun y166 => (if y163.length + y166.length < 3518437208883 then ((some (y163 ++ y166 : List (S40))).bind fun y171 => (if y171.length < 3518437208883 then ((some (y171 ++ [(⟨a2_0, a2_1, l2_2, a2_3⟩ : S40)] : List (S40))).bind fun y174 => ((some (l0_0.drop (a1 : Int).toNat : List (S40))).bind fun y177 => (if y174.length + y177.length < 3518437208883 then (some ((y174 ++ y177), a0_1)) else (none)))) else (none))) else (none))) else (none)) else (none))
def hurdlelaw11_put.T2 : Bool × List (List Nat × List Nat) := (true, [([], []), ([], []), ([1], [1]), ([0, 2], [0, 2]), ([], []), ([4], [4]), ([], []), ([5, 6], [5, 6]), ([3, 7, 3], [3, 7]), ([8, 8, 0, 1, 2, 3, 4, 5, 6, 7, 8], [0, 8])])
def hurdlelaw11_put.B2 : List Nat := [0, 0, 2, 7, 0, 16, 0, 112, 255, 511]
theorem hurdlelaw11_put.tab2 : rtab .any (opsOf Try.f30 2) = hurdlelaw11_put.T2 := by kernel_rfl
theorem hurdlelaw11_put.bits2 : waitsOk hurdlelaw11_put.T2.2 hurdlelaw11_put.B2 = true := by kernel_rfl
set_option maxHeartbeats 8000000 in
set_option maxRecDepth 100000 in
theorem hurdlelaw11_put.calls (P0_0_ : Nat → Prop) (A0_0 : Option Addr) (c0_0 : Nat) (l0_0 : List (S40)) (a0_1 : Int) (a1 : Int) (a2_0 : Int) (a2_1 : Int) (P2_2_ : Nat → Prop) (A2_2 : Option Addr) (c2_2 : Nat) (l2_2 : List (S61)) (a2_3 : Int) (r1 : List (S40)) (r2 : Int) (w : World) (hs0_0 : Kd.V k40 40 w w.heap.size (fun k_ => P0_0_ k_) (.slice A0_0 l0_0.length c0_0) l0_0) (hs2_2 : Kd.V k61 61 w w.heap.size (fun k_ => P2_2_ k_) (.slice A2_2 l2_2.length c2_2) l2_2) (h : hurdlelaw11_put.f l0_0 a0_1 a1 a2_0 a2_1 l2_2 a2_3 = some (r1, r2)) :
    Calls Try.prog 30 #[.agg #[.slice A0_0 l0_0.length c0_0, .int .u32 a0_1], .int .i64 a1, .agg #[.int .u32 a2_0, .int .u32 a2_1, .slice A2_2 l2_2.length c2_2, .int .u32 a2_3]] w fun e w' => ∃ v0_ : Value, e = .returned (.agg #[v0_, .int .u32 r2]) ∧ Kd.N k40 40 w' w.heap.size (fun k_ => ((P0_0_ k_ ∨ P2_2_ k_) ∨ w.heap.size ≤ k_)) v0_ r1 ∧ Below w.heap.size w w' := by
  have hu25 := Try.underlying25
  have hu40 := Try.underlying40
  have HO0_0 := Aside0.mk (show Kd.V k40 40 w w.heap.size (fun k_ => ((P0_0_ k_ ∨ P2_2_ k_) ∨ w.heap.size ≤ k_)) (.slice A0_0 l0_0.length c0_0) l0_0 from Kd.V_mono hs0_0 (fun k_ hk => .inl (.inl hk)))
  have HO2_2 := Aside0.mk (show Kd.V k61 61 w w.heap.size (fun k_ => ((P0_0_ k_ ∨ P2_2_ k_) ∨ w.heap.size ≤ k_)) (.slice A2_2 l2_2.length c2_2) l2_2 from Kd.V_mono hs2_2 (fun k_ hk => .inl (.inr hk)))
  have HB := Aside0.mk (Below.refl w.heap.size w)
  have H : ((some (([] : List (S40)) : List (S40))).bind fun y163 => (if 0 ≤ a1 then (if a1 ≤ (l0_0.length : Int) then ((some (l0_0.take (a1 : Int).toNat : List (S40))).bind fun y166 => (if y163.length + y166.length < 3518437208883 then ((some (y163 ++ y166 : List (S40))).bind fun y171 => (if y171.length < 3518437208883 then ((some (y171 ++ [(⟨a2_0, a2_1, l2_2, a2_3⟩ : S40)] : List (S40))).bind fun y174 => ((some (l0_0.drop (a1 : Int).toNat : List (S40))).bind fun y177 => (if y174.length + y177.length < 3518437208883 then (some ((y174 ++ y177), a0_1)) else (none)))) else (none))) else (none))) else (none)) else (none))) = some (r1, r2) := h
  clear h
  obtain ⟨y163, hy163⟩ : ∃ y_ : List (S40), y_ = (([] : List (S40))) := ⟨_, rfl⟩
  replace H : (if 0 ≤ a1 then (if a1 ≤ (l0_0.length : Int) then ((some (l0_0.take (a1 : Int).toNat : List (S40))).bind fun y166 => (if y163.length + y166.length < 3518437208883 then ((some (y163 ++ y166 : List (S40))).bind fun y171 => (if y171.length < 3518437208883 then ((some (y171 ++ [(⟨a2_0, a2_1, l2_2, a2_3⟩ : S40)] : List (S40))).bind fun y174 => ((some (l0_0.drop (a1 : Int).toNat : List (S40))).bind fun y177 => (if y174.length + y177.length < 3518437208883 then (some ((y174 ++ y177), a0_1)) else (none)))) else (none))) else (none))) else (none)) else (none)) = some (r1, r2) := by first | (rw [hy163]; with_reducible exact H) | (have H2_ := (Option.bind_some _ _).symm.trans H; rw [hy163]; with_reducible exact H2_) | (have H2_ := (Option.bind_some _ _).symm.trans H; with_reducible exact H2_) | with_reducible exact H | (rw [hy163]; exact H) | exact H
  have Ny163 := Aside0.mk hy163
  clear hy163
  by_cases c4 : 0 ≤ a1
  · rw [if_pos c4] at H
    have c4b0 := eq_true c4
    have c4b1 : decide (0 ≤ a1) = true := decide_eq_true c4
    clear c4
    by_cases c5 : a1 ≤ (l0_0.length : Int)
    · rw [if_pos c5] at H
      have c5b0 := eq_true c5
      have c5b1 : decide (a1 ≤ (l0_0.length : Int)) = true := decide_eq_true c5
      clear c5
      obtain ⟨y166, hy166⟩ : ∃ y_ : List (S40), y_ = (l0_0.take (a1 : Int).toNat) := ⟨_, rfl⟩
      replace H : (if y163.length + y166.length < 3518437208883 then ((some (y163 ++ y166 : List (S40))).bind fun y171 => (if y171.length < 3518437208883 then ((some (y171 ++ [(⟨a2_0, a2_1, l2_2, a2_3⟩ : S40)] : List (S40))).bind fun y174 => ((some (l0_0.drop (a1 : Int).toNat : List (S40))).bind fun y177 => (if y174.length + y177.length < 3518437208883 then (some ((y174 ++ y177), a0_1)) else (none)))) else (none))) else (none)) = some (r1, r2) := by first | (rw [hy166]; with_reducible exact H) | (have H2_ := (Option.bind_some _ _).symm.trans H; rw [hy166]; with_reducible exact H2_) | (have H2_ := (Option.bind_some _ _).symm.trans H; with_reducible exact H2_) | with_reducible exact H | (rw [hy166]; exact H) | exact H
      have Ny166 := Aside0.mk hy166
      clear hy166
      by_cases c6 : y163.length + y166.length < 3518437208883
      · rw [if_pos c6] at H
        have LMc6 := Aside0.mk c6
        clear c6
        obtain ⟨y171, hy171⟩ : ∃ y_ : List (S40), y_ = (y163 ++ y166) := ⟨_, rfl⟩
        replace H : (if y171.length < 3518437208883 then ((some (y171 ++ [(⟨a2_0, a2_1, l2_2, a2_3⟩ : S40)] : List (S40))).bind fun y174 => ((some (l0_0.drop (a1 : Int).toNat : List (S40))).bind fun y177 => (if y174.length + y177.length < 3518437208883 then (some ((y174 ++ y177), a0_1)) else (none)))) else (none)) = some (r1, r2) := by first | (rw [hy171]; with_reducible exact H) | (have H2_ := (Option.bind_some _ _).symm.trans H; rw [hy171]; with_reducible exact H2_) | (have H2_ := (Option.bind_some _ _).symm.trans H; with_reducible exact H2_) | with_reducible exact H | (rw [hy171]; exact H) | exact H
        have Ny171 := Aside0.mk hy171
        clear hy171
        by_cases c7 : y171.length < 3518437208883
        · rw [if_pos c7] at H
          have LMc7 := Aside0.mk c7
          clear c7
          obtain ⟨y174, hy174⟩ : ∃ y_ : List (S40), y_ = (y171 ++ [(⟨a2_0, a2_1, l2_2, a2_3⟩ : S40)]) := ⟨_, rfl⟩
          replace H : ((some (l0_0.drop (a1 : Int).toNat : List (S40))).bind fun y177 => (if y174.length + y177.length < 3518437208883 then (some ((y174 ++ y177), a0_1)) else (none))) = some (r1, r2) := by first | (rw [hy174]; with_reducible exact H) | (have H2_ := (Option.bind_some _ _).symm.trans H; rw [hy174]; with_reducible exact H2_) | (have H2_ := (Option.bind_some _ _).symm.trans H; with_reducible exact H2_) | with_reducible exact H | (rw [hy174]; exact H) | exact H
          have Ny174 := Aside0.mk hy174
          clear hy174
          have c8b0 := eq_true (of_decide_eq_true (by first | (with_reducible assumption) | assumption) : 0 ≤ a1)
          have c9b0 := eq_true (of_decide_eq_true (by first | (with_reducible assumption) | assumption) : a1 ≤ (l0_0.length : Int))
          obtain ⟨y177, hy177⟩ : ∃ y_ : List (S40), y_ = (l0_0.drop (a1 : Int).toNat) := ⟨_, rfl⟩
          replace H : (if y174.length + y177.length < 3518437208883 then (some ((y174 ++ y177), a0_1)) else (none)) = some (r1, r2) := by first | (rw [hy177]; with_reducible exact H) | (have H2_ := (Option.bind_some _ _).symm.trans H; rw [hy177]; with_reducible exact H2_) | (have H2_ := (Option.bind_some _ _).symm.trans H; with_reducible exact H2_) | with_reducible exact H | (rw [hy177]; exact H) | exact H
          have Ny177 := Aside0.mk hy177
          clear hy177
          by_cases c10 : y174.length + y177.length < 3518437208883
          · rw [if_pos c10] at H
            have LMc10 := Aside0.mk c10
            clear c10
            obtain ⟨y182, hy182⟩ : ∃ y_ : List (S40), y_ = (y174 ++ y177) := ⟨_, rfl⟩
            replace H : (some (y182, a0_1)) = some (r1, r2) := by first | (rw [hy182]; with_reducible exact H) | (have H2_ := (Option.bind_some _ _).symm.trans H; rw [hy182]; with_reducible exact H2_) | (have H2_ := (Option.bind_some _ _).symm.trans H; with_reducible exact H2_) | with_reducible exact H | (rw [hy182]; exact H) | exact H
            have Ny182 := Aside0.mk hy182
            clear hy182
            simp only [Option.some.injEq, Prod.mk.injEq] at H
            obtain ⟨rfl, rfl⟩ := H
            go_enter Try.func30, Try.ntmps30
            try go_wp2_with (first | ((with_reducible refine gate_dst (N := 3) rfl ?_); refine box_event ?hg (N := 3) ?hd (cs := #[.slice A0_0 l0_0.length c0_0, .int .u32 a0_1]) (t := 25) ?hr ?_; (case hd => rfl); (case hg => rfl); (case hr => first | (go_simp; done) | (go_simp; rfl)); intro gb160 hg w11 hbox hb; have n0_ := Aside0.mk (Kd.V_below (Kd.V_elderB (by (with_reducible repeat (first | apply Kd.V_alloc | apply Kd.V_drewN | apply Kd.V_drew)); exact HO0_0.out) gb160 (Nat.le_of_eq hg.symm)) hb); have n1_ := Aside0.mk (Kd.V_below (Kd.V_elderB (by (with_reducible repeat (first | apply Kd.V_alloc | apply Kd.V_drewN | apply Kd.V_drew)); exact HO2_2.out) gb160 (Nat.le_of_eq hg.symm)) hb); have n2_ := Aside0.mk (below_step (by repeat (first | (with_reducible first | exact HB.out | apply below_alloc | apply pw_below_drewN | apply below_drew1) | exact HB.out)) hb); have n3_ := Aside0.mk (hbox); have n4_ := Aside0.mk ((by rw [hg]; exact (below_size (by repeat (first | (with_reducible first | exact HB.out | apply below_alloc | apply pw_below_drewN | apply below_drew1) | exact HB.out))) : w.heap.size ≤ gb160)); have n5_ := Aside0.mk ((by rw [hg]; exact (below_size (by repeat (first | (with_reducible first | exact HB.out | apply below_alloc | apply pw_below_drewN | apply below_drew1) | exact HB.out))) : w.heap.size ≤ gb160)); clear HO0_0; clear HO2_2; clear HB; have HO0_0 := n0_; have HO2_2 := n1_; have HB := n2_; have BK160 := n3_; have GW160 := n4_; have GE160 := n5_; clear n0_ n1_ n2_ n3_ n4_ n5_; clear hb hbox hg) | ((with_reducible refine gate_dst (N := 5) rfl ?_); refine box_event ?hg (N := 5) ?hd (cs := #[.int .u32 a2_0, .int .u32 a2_1, .slice A2_2 l2_2.length c2_2, .int .u32 a2_3]) (t := 40) ?hr ?_; (case hd => rfl); (case hg => rfl); (case hr => first | (go_simp; done) | (go_simp; rfl)); intro gb161 hg w12 hbox hb; have n0_ := Aside0.mk (Kd.V_below (Kd.V_elderB (by (with_reducible repeat (first | apply Kd.V_alloc | apply Kd.V_drewN | apply Kd.V_drew)); exact HO0_0.out) gb161 (Nat.le_of_eq hg.symm)) hb); have n1_ := Aside0.mk (Kd.V_below (Kd.V_elderB (by (with_reducible repeat (first | apply Kd.V_alloc | apply Kd.V_drewN | apply Kd.V_drew)); exact HO2_2.out) gb161 (Nat.le_of_eq hg.symm)) hb); have n2_ := Aside0.mk (blk_below (g := gb160) (o := .cells #[.slice A0_0 l0_0.length c0_0, .int .u32 a0_1] 25 (0, 0)) (by (with_reducible repeat (first | refine blk_drewN ?_ _ | refine blk_drew ?_ | refine blk_alloc ?_ _)); exact BK160.out) hb); have n3_ := Aside0.mk (below_step (by repeat (first | (with_reducible first | exact HB.out | apply below_alloc | apply pw_below_drewN | apply below_drew1 | refine below_set ?_ GE160.out) | exact HB.out)) hb); have n4_ := Aside0.mk (hbox); have n5_ := Aside0.mk ((by rw [hg]; exact (below_size (by repeat (first | (with_reducible first | exact HB.out | apply below_alloc | apply pw_below_drewN | apply below_drew1 | refine below_set ?_ GE160.out) | exact HB.out))) : w.heap.size ≤ gb161)); have n6_ := Aside0.mk ((by rw [hg]; exact (below_size (by repeat (first | (with_reducible first | exact HB.out | apply below_alloc | apply pw_below_drewN | apply below_drew1 | refine below_set ?_ GE160.out) | exact HB.out))) : w.heap.size ≤ gb161)); have n7_ := Aside0.mk ((by rw [hg]; exact Nat.ne_of_lt (blk_lt (g := gb160) (o := .cells #[.slice A0_0 l0_0.length c0_0, .int .u32 a0_1] 25 (0, 0)) (by (with_reducible repeat (first | refine blk_drewN ?_ _ | refine blk_drew ?_ | refine blk_alloc ?_ _)); exact BK160.out)) : gb160 ≠ gb161)); have n8_ := Aside0.mk ((by rw [hg]; exact Nat.ne_of_gt (blk_lt (g := gb160) (o := .cells #[.slice A0_0 l0_0.length c0_0, .int .u32 a0_1] 25 (0, 0)) (by (with_reducible repeat (first | refine blk_drewN ?_ _ | refine blk_drew ?_ | refine blk_alloc ?_ _)); exact BK160.out)) : gb161 ≠ gb160)); clear HO0_0; clear HO2_2; clear BK160; clear HB; have HO0_0 := n0_; have HO2_2 := n1_; have BK160 := n2_; have HB := n3_; have BK161 := n4_; have GW161 := n5_; have GE161 := n6_; have NB160_161 := n7_; have NB161_160 := n8_; clear n0_ n1_ n2_ n3_ n4_ n5_ n6_ n7_ n8_; clear hb hbox hg) | ((with_reducible refine gate_dst (N := 6) rfl ?_); refine box_event ?hg (N := 6) ?hd (cs := #[.slice none 0 0, .int .u32 0]) (t := 25) ?hr ?_; (case hd => rfl); (case hg => rfl); (case hr => first | (go_simp; done) | (go_simp; rfl)); intro gb162 hg w13 hbox hb; have n0_ := Aside0.mk (Kd.V_below (Kd.V_elderB (by (with_reducible repeat (first | apply Kd.V_alloc | apply Kd.V_drewN | apply Kd.V_drew)); exact HO0_0.out) gb162 (Nat.le_of_eq hg.symm)) hb); have n1_ := Aside0.mk (Kd.V_below (Kd.V_elderB (by (with_reducible repeat (first | apply Kd.V_alloc | apply Kd.V_drewN | apply Kd.V_drew)); exact HO2_2.out) gb162 (Nat.le_of_eq hg.symm)) hb); have n2_ := Aside0.mk (blk_below (g := gb160) (o := .cells #[.slice A0_0 l0_0.length c0_0, .int .u32 a0_1] 25 (0, 0)) (by (with_reducible repeat (first | refine blk_drewN ?_ _ | refine blk_drew ?_ | refine blk_alloc ?_ _)); exact BK160.out) hb); have n3_ := Aside0.mk (blk_below (g := gb161) (o := .cells #[.int .u32 a2_0, .int .u32 a2_1, .slice A2_2 l2_2.length c2_2, .int .u32 a2_3] 40 (0, 0)) (by (with_reducible repeat (first | refine blk_drewN ?_ _ | refine blk_drew ?_ | refine blk_alloc ?_ _)); exact BK161.out) hb); have n4_ := Aside0.mk (below_step (by repeat (first | (with_reducible first | exact HB.out | apply below_alloc | apply pw_below_drewN | apply below_drew1 | refine below_set ?_ GE160.out | refine below_set ?_ GE161.out) | exact HB.out)) hb); have n5_ := Aside0.mk (hbox); have n6_ := Aside0.mk ((by rw [hg]; exact (below_size (by repeat (first | (with_reducible first | exact HB.out | apply below_alloc | apply pw_below_drewN | apply below_drew1 | refine below_set ?_ GE160.out | refine below_set ?_ GE161.out) | exact HB.out))) : w.heap.size ≤ gb162)); have n7_ := Aside0.mk ((by rw [hg]; exact (below_size (by repeat (first | (with_reducible first | exact HB.out | apply below_alloc | apply pw_below_drewN | apply below_drew1 | refine below_set ?_ GE160.out | refine below_set ?_ GE161.out) | exact HB.out))) : w.heap.size ≤ gb162)); have n8_ := Aside0.mk ((by rw [hg]; exact Nat.ne_of_lt (blk_lt (g := gb160) (o := .cells #[.slice A0_0 l0_0.length c0_0, .int .u32 a0_1] 25 (0, 0)) (by (with_reducible repeat (first | refine blk_drewN ?_ _ | refine blk_drew ?_ | refine blk_alloc ?_ _)); exact BK160.out)) : gb160 ≠ gb162)); have n9_ := Aside0.mk ((by rw [hg]; exact Nat.ne_of_gt (blk_lt (g := gb160) (o := .cells #[.slice A0_0 l0_0.length c0_0, .int .u32 a0_1] 25 (0, 0)) (by (with_reducible repeat (first | refine blk_drewN ?_ _ | refine blk_drew ?_ | refine blk_alloc ?_ _)); exact BK160.out)) : gb162 ≠ gb160)); have n10_ := Aside0.mk ((by rw [hg]; exact Nat.ne_of_lt (blk_lt (g := gb161) (o := .cells #[.int .u32 a2_0, .int .u32 a2_1, .slice A2_2 l2_2.length c2_2, .int .u32 a2_3] 40 (0, 0)) (by (with_reducible repeat (first | refine blk_drewN ?_ _ | refine blk_drew ?_ | refine blk_alloc ?_ _)); exact BK161.out)) : gb161 ≠ gb162)); have n11_ := Aside0.mk ((by rw [hg]; exact Nat.ne_of_gt (blk_lt (g := gb161) (o := .cells #[.int .u32 a2_0, .int .u32 a2_1, .slice A2_2 l2_2.length c2_2, .int .u32 a2_3] 40 (0, 0)) (by (with_reducible repeat (first | refine blk_drewN ?_ _ | refine blk_drew ?_ | refine blk_alloc ?_ _)); exact BK161.out)) : gb162 ≠ gb161)); clear HO0_0; clear HO2_2; clear BK160; clear BK161; clear HB; have HO0_0 := n0_; have HO2_2 := n1_; have BK160 := n2_; have BK161 := n3_; have HB := n4_; have BK162 := n5_; have GW162 := n6_; have GE162 := n7_; have NB160_162 := n8_; have NB162_160 := n9_; have NB161_162 := n10_; have NB162_161 := n11_; clear n0_ n1_ n2_ n3_ n4_ n5_ n6_ n7_ n8_ n9_ n10_ n11_; clear hb hbox hg) | ((with_reducible refine gate_dst (N := 8) rfl ?_); refine Kd.N_lit k40 _ 40 ?hg (N' := 8) ?hd (xs := ([] : List (S40))) (inner := []) (ok := (fun k_ => ((P0_0_ k_ ∨ P2_2_ k_) ∨ w.heap.size ≤ k_) ∧ k_ ≠ gb160 ∧ k_ ≠ gb161 ∧ k_ ≠ gb162)) (okp := (fun k_ => ((P0_0_ k_ ∨ P2_2_ k_) ∨ w.heap.size ≤ k_) ∧ k_ ≠ gb160 ∧ k_ ≠ gb161 ∧ k_ ≠ gb162)) ?hr ?hp (fun _ hk => hk) ((show ∀ k_, w13.heap.size ≤ k_ → (fun k_ => ((P0_0_ k_ ∨ P2_2_ k_) ∨ w.heap.size ≤ k_) ∧ k_ ≠ gb160 ∧ k_ ≠ gb161 ∧ k_ ≠ gb162) k_ from fun k_ hk => ⟨(.inr (Nat.le_trans (below_size (by repeat (first | (with_reducible first | exact HB.out | apply below_alloc | apply pw_below_drewN | apply below_drew1 | refine below_set ?_ GE160.out | refine below_set ?_ GE161.out | refine below_set ?_ GE162.out) | exact HB.out))) hk)), Kd.freshB (g := gb160) (o := .cells #[.slice A0_0 l0_0.length c0_0, .int .u32 a0_1] 25 (0, 0)) (by (with_reducible repeat (first | refine blk_drewN ?_ _ | refine blk_drew ?_ | refine blk_alloc ?_ _)); exact BK160.out) k_ hk, Kd.freshB (g := gb161) (o := .cells #[.int .u32 a2_0, .int .u32 a2_1, .slice A2_2 l2_2.length c2_2, .int .u32 a2_3] 40 (0, 0)) (by (with_reducible repeat (first | refine blk_drewN ?_ _ | refine blk_drew ?_ | refine blk_alloc ?_ _)); exact BK161.out) k_ hk, Kd.freshB (g := gb162) (o := .cells #[.slice none 0 0, .int .u32 0] 25 (0, 0)) (by (with_reducible repeat (first | refine blk_drewN ?_ _ | refine blk_drew ?_ | refine blk_alloc ?_ _)); exact BK162.out) k_ hk⟩) _ (Nat.le_refl _)) (Below.refl _ _) (Nat.le_refl _) (by simp) ?_; (case hd => rfl); (case hg => rfl); (case hr => first | (go_simp; done) | (go_simp; rfl)); (case hp => exact (Reps.none _ _)); intro v164 w14 ho15 hb hg_ hnew_; clear hg_ hnew_; (first | rw [← Ny163.out] at ho15 | (simp only [Int.reduceToNat] at ho15; rw [← Ny163.out] at ho15)); have n0_ := Aside0.mk (Kd.V_elder' (by (with_reducible repeat (first | apply Kd.V_alloc | apply Kd.V_drewN | apply Kd.V_drew)); exact HO0_0.out) (Kd.N_base ho15) hb); have n1_ := Aside0.mk (Kd.V_elder' (by (with_reducible repeat (first | apply Kd.V_alloc | apply Kd.V_drewN | apply Kd.V_drew)); exact HO2_2.out) (Kd.N_base ho15) hb); have n2_ := Aside0.mk (Kd.N_lower ho15 (below_size (by repeat (first | (with_reducible first | exact HB.out | apply below_alloc | apply pw_below_drewN | apply below_drew1 | refine below_set ?_ GE160.out | refine below_set ?_ GE161.out | refine below_set ?_ GE162.out) | exact HB.out)))); have n3_ := Aside0.mk (blk_below (g := gb160) (o := .cells #[.slice A0_0 l0_0.length c0_0, .int .u32 a0_1] 25 (0, 0)) (by (with_reducible repeat (first | refine blk_drewN ?_ _ | refine blk_drew ?_ | refine blk_alloc ?_ _)); exact BK160.out) hb); have n4_ := Aside0.mk (blk_below (g := gb161) (o := .cells #[.int .u32 a2_0, .int .u32 a2_1, .slice A2_2 l2_2.length c2_2, .int .u32 a2_3] 40 (0, 0)) (by (with_reducible repeat (first | refine blk_drewN ?_ _ | refine blk_drew ?_ | refine blk_alloc ?_ _)); exact BK161.out) hb); have n5_ := Aside0.mk (blk_below (g := gb162) (o := .cells #[.slice none 0 0, .int .u32 0] 25 (0, 0)) (by (with_reducible repeat (first | refine blk_drewN ?_ _ | refine blk_drew ?_ | refine blk_alloc ?_ _)); exact BK162.out) hb); have n6_ := Aside0.mk (below_step (by repeat (first | (with_reducible first | exact HB.out | apply below_alloc | apply pw_below_drewN | apply below_drew1 | refine below_set ?_ GE160.out | refine below_set ?_ GE161.out | refine below_set ?_ GE162.out) | exact HB.out)) hb); clear HO0_0; clear HO2_2; clear BK160; clear BK161; clear BK162; clear HB; have HO0_0 := n0_; have HO2_2 := n1_; have HO165 := n2_; have BK160 := n3_; have BK161 := n4_; have BK162 := n5_; have HB := n6_; clear n0_ n1_ n2_ n3_ n4_ n5_ n6_; clear hb ho15; have hnb16 := NB160_161.out; have hnc16 := NB161_160.out; have hnb17 := NB160_162.out; have hnc17 := NB162_160.out; have hcz18_0 : w14.cell? ⟨gb160, 0, none⟩ = some (.slice A0_0 l0_0.length c0_0) := (blk_cell BK160.out 0).trans rfl; have hcz18_1 : w14.cell? ⟨gb160, 1, none⟩ = some (.int .u32 a0_1) := (blk_cell BK160.out 1).trans rfl; have hfz18_0 := blk_frozen BK160.out 0; have hfz18_1 := blk_frozen BK160.out 1; have q19 : (a1 : Int) ≤ ((l0_0.length : Int) : Int) := of_decide_eq_true (by first | (with_reducible assumption) | assumption); obtain ⟨i019, hi019, _, hsz19, _⟩ := info_parts info40; have hroom19 : l0_0.length ≤ c0_0 := (Kd.V_reads' HO0_0.out).2.1; have hC19 : Kd.F k40 _ _ A0_0 l0_0.length l0_0 := (Kd.V_at (base := w.heap.size) HO0_0.out).2.2; have hcut19 := cut_to (P := Try.prog) 22 40 .i64 Try.underlying22 hi019 A0_0 l0_0.length c0_0 a1 (of_decide_eq_true (by first | (with_reducible assumption) | assumption)) q19 hroom19; have hr19 := Kd.F_take (m := (a1 : Int).toNat) hC19 (by omega); have hy19 : y166.length = (a1 : Int).toNat := (by rw [Ny166.out, List.length_take]; omega); rw [← Ny166.out] at hr19; rw [← hy19] at hcut19; have HO170 := Aside0.mk (show Kd.V k40 40 _ w.heap.size _ (.slice A0_0 y166.length c0_0) y166 from Kd.V_mk (by omega) hr19); have HC170 := Aside0.mk (show y166.length ≤ c0_0 from by omega); clear hr19 hC19 hroom19 hi019 hsz19; have KY19 := Aside0.mk hy19; clear hy19; replace q19 := eq_true q19) | ((with_reducible refine gate_builtin (b := .append) (xs := #[.tmp 8, .tmp 12]) rfl ?_); at_builtin; refine Kd.N_append_rows k40 (w0 := w) w.heap.size rfl (.tmp 8) (.tmp 12) 22 40 (.agg #[(.int .u32 0), (.int .u32 0), (.slice none 0 0), (.int .u32 0)]) 40 rfl Try.underlying22 info40 rfl (by decide) (by omega) v164 y163 y166 _ _ _ (fun k_ => ((P0_0_ k_ ∨ P2_2_ k_) ∨ w.heap.size ≤ k_) ∧ k_ ≠ gb160 ∧ k_ ≠ gb161 ∧ k_ ≠ gb162) (fun k_ => ((fun k_ => ((P0_0_ k_ ∨ P2_2_ k_) ∨ w.heap.size ≤ k_) ∧ k_ ≠ gb160 ∧ k_ ≠ gb161 ∧ k_ ≠ gb162)) k_ ∧ some k_ ≠ (v164 : Value).ownBlock) rfl rfl ?aO ?aR (fun _ hk => hk) ?aF ?aB ?aS ?aL ?_; (case aR => exact (by skip; exact Kd.V_F (Kd.V_mono (ok' := (fun k_ => ((fun k_ => ((P0_0_ k_ ∨ P2_2_ k_) ∨ w.heap.size ≤ k_) ∧ k_ ≠ gb160 ∧ k_ ≠ gb161 ∧ k_ ≠ gb162)) k_ ∧ some k_ ≠ (v164 : Value).ownBlock)) (HO170.out) (fun k_ hk => ⟨⟨hk.1.1.1.1, ⟨hk.1.1.1.2, ⟨hk.1.1.2, hk.1.2⟩⟩⟩, hk.2⟩)))); (case aB => exact (by repeat (first | (with_reducible first | exact HB.out | apply below_alloc | apply pw_below_drewN | apply below_drew1 | refine below_set ?_ GE160.out | refine below_set ?_ GE161.out | refine below_set ?_ GE162.out) | exact HB.out))); (case aF => exact (fun k_ hk => ⟨(.inr (Nat.le_trans (below_size (by repeat (first | (with_reducible first | exact HB.out | apply below_alloc | apply pw_below_drewN | apply below_drew1 | refine below_set ?_ GE160.out | refine below_set ?_ GE161.out | refine below_set ?_ GE162.out) | exact HB.out))) hk)), Kd.freshB (g := gb160) (o := .cells #[.slice A0_0 l0_0.length c0_0, .int .u32 a0_1] 25 (0, 0)) (by (with_reducible repeat (first | refine blk_drewN ?_ _ | refine blk_drew ?_ | refine blk_alloc ?_ _)); exact BK160.out) k_ hk, Kd.freshB (g := gb161) (o := .cells #[.int .u32 a2_0, .int .u32 a2_1, .slice A2_2 l2_2.length c2_2, .int .u32 a2_3] 40 (0, 0)) (by (with_reducible repeat (first | refine blk_drewN ?_ _ | refine blk_drew ?_ | refine blk_alloc ?_ _)); exact BK161.out) k_ hk, Kd.freshB (g := gb162) (o := .cells #[.slice none 0 0, .int .u32 0] 25 (0, 0)) (by (with_reducible repeat (first | refine blk_drewN ?_ _ | refine blk_drew ?_ | refine blk_alloc ?_ _)); exact BK162.out) k_ hk⟩)); (case aO => exact (by (with_reducible repeat (first | apply Kd.N_alloc | apply Kd.N_drewN | apply Kd.N_drew)); exact HO165.out)); (case aS => exact (below_size (by repeat (first | (with_reducible first | exact HB.out | apply below_alloc | apply pw_below_drewN | apply below_drew1 | refine below_set ?_ GE160.out | refine below_set ?_ GE161.out | refine below_set ?_ GE162.out) | exact HB.out)))); (case aL => have := LMc6.out; omega); intro v172 w20 ho hb hg hat; rw [← Ny171.out] at ho; have n0_ := Aside0.mk (Kd.V_afterv (ok := (fun k_ => ((P0_0_ k_ ∨ P2_2_ k_) ∨ w.heap.size ≤ k_) ∧ k_ ≠ gb160 ∧ k_ ≠ gb161 ∧ k_ ≠ gb162)) (by (with_reducible repeat (first | apply Kd.V_alloc | apply Kd.V_drewN | apply Kd.V_drew)); exact Kd.V_mono HO0_0.out (fun _ hk => ⟨⟨hk.1.1.1.1, ⟨hk.1.1.1.2, ⟨hk.1.1.2, hk.1.2⟩⟩⟩, hk.2⟩)) hg hat); have n1_ := Aside0.mk (Kd.V_afterv (ok := (fun k_ => ((P0_0_ k_ ∨ P2_2_ k_) ∨ w.heap.size ≤ k_) ∧ k_ ≠ gb160 ∧ k_ ≠ gb161 ∧ k_ ≠ gb162)) (by (with_reducible repeat (first | apply Kd.V_alloc | apply Kd.V_drewN | apply Kd.V_drew)); exact Kd.V_mono HO2_2.out (fun _ hk => ⟨⟨hk.1.1.1.1, ⟨hk.1.1.1.2, ⟨hk.1.1.2, hk.1.2⟩⟩⟩, hk.2⟩)) hg hat); have n2_ := Aside0.mk (blk_grown (g := gb160) (o := .cells #[.slice A0_0 l0_0.length c0_0, .int .u32 a0_1] 25 (0, 0)) (by (with_reducible repeat (first | refine blk_drewN ?_ _ | refine blk_drew ?_ | refine blk_alloc ?_ _)); exact BK160.out) hg (Kd.N_ne HO165.out BK160.out (by decide))); have n3_ := Aside0.mk (blk_grown (g := gb161) (o := .cells #[.int .u32 a2_0, .int .u32 a2_1, .slice A2_2 l2_2.length c2_2, .int .u32 a2_3] 40 (0, 0)) (by (with_reducible repeat (first | refine blk_drewN ?_ _ | refine blk_drew ?_ | refine blk_alloc ?_ _)); exact BK161.out) hg (Kd.N_away HO165.out (fun _ hk => hk.2.2.1))); have n4_ := Aside0.mk (blk_grown (g := gb162) (o := .cells #[.slice none 0 0, .int .u32 0] 25 (0, 0)) (by (with_reducible repeat (first | refine blk_drewN ?_ _ | refine blk_drew ?_ | refine blk_alloc ?_ _)); exact BK162.out) hg (Kd.N_ne HO165.out BK162.out (by decide))); have n5_ := Aside0.mk (Kd.V_afterv (ok := (fun k_ => ((P0_0_ k_ ∨ P2_2_ k_) ∨ w.heap.size ≤ k_) ∧ k_ ≠ gb160 ∧ k_ ≠ gb161 ∧ k_ ≠ gb162)) (by (with_reducible repeat (first | apply Kd.V_alloc | apply Kd.V_drewN | apply Kd.V_drew)); exact Kd.V_mono HO170.out (fun _ hk => ⟨⟨hk.1.1.1.1, ⟨hk.1.1.1.2, ⟨hk.1.1.2, hk.1.2⟩⟩⟩, hk.2⟩)) hg hat); have n6_ := Aside0.mk (hb); have n7_ := Aside0.mk (ho); clear HO0_0; clear HO2_2; clear BK160; clear BK161; clear BK162; clear HO170; clear HB; clear HO165; have HO0_0 := n0_; have HO2_2 := n1_; have BK160 := n2_; have BK161 := n3_; have BK162 := n4_; have HO170 := n5_; have HB := n6_; have HO173 := n7_; clear n0_ n1_ n2_ n3_ n4_ n5_ n6_ n7_; clear ho hb hg hat))
            have n0_ := Aside0.mk (Kd.V_drew HO0_0.out)
            have n1_ := Aside0.mk (Kd.V_drew HO2_2.out)
            have n2_ := Aside0.mk (Kd.V_drew HO170.out)
            have n3_ := Aside0.mk (Kd.N_drew HO173.out)
            have n4_ := Aside0.mk (blk_drew BK160.out)
            have n5_ := Aside0.mk (blk_drew BK161.out)
            have n6_ := Aside0.mk (blk_drew BK162.out)
            have n7_ := Aside0.mk (below_drew1 HB.out)
            clear HO0_0
            clear HO2_2
            clear HO170
            clear HO173
            clear BK160
            clear BK161
            clear BK162
            clear HB
            have HO0_0 := n0_
            have HO2_2 := n1_
            have HO170 := n2_
            have HO173 := n3_
            have BK160 := n4_
            have BK161 := n5_
            have BK162 := n6_
            have HB := n7_
            clear n0_ n1_ n2_ n3_ n4_ n5_ n6_ n7_
            have q22 : (a1 : Int) ≤ ((l0_0.length : Int) : Int) := of_decide_eq_true (by first | (with_reducible assumption) | assumption)
            obtain ⟨i022, hi022, _, hsz22, _⟩ := info_parts info40
            have hroom22 : l0_0.length ≤ c0_0 := (Kd.V_reads' HO0_0.out).2.1
            have hC22 : Kd.F k40 _ _ A0_0 l0_0.length l0_0 := (Kd.V_at (base := w.heap.size) HO0_0.out).2.2
            have q022 : (0 : Int) ≤ (a1 : Int) := of_decide_eq_true (by first | (with_reducible assumption) | assumption)
            have hcut22 := cut_from (P := Try.prog) 22 40 .i64 Try.underlying22 hi022 4 hsz22 A0_0 l0_0.length c0_0 a1 q022 q22
            have hr22 := Kd.F_cut (m := (a1 : Int).toNat) (c := c0_0) hC22 (by omega) hroom22
            obtain ⟨A22, hA22⟩ : ∃ A1, A1 = (if c0_0 = (a1 : Int).toNat then A0_0 else (A0_0 : Option Addr).map (·.add ((a1 : Int).toNat * 4))) := ⟨_, rfl⟩
            obtain ⟨c22, hc22⟩ : ∃ c1, c1 = c0_0 - (a1 : Int).toNat := ⟨_, rfl⟩
            have hy22 : y177.length = l0_0.length - (a1 : Int).toNat := (by rw [Ny177.out, List.length_drop] <;> omega)
            rw [show (l0_0).drop (a1 : Int).toNat = y177 from Ny177.out.symm] at hr22
            replace hr22 : Kd.F k40 _ _ A22 y177.length y177 := (by rw [hA22]; exact hr22)
            rw [← hy22, ← hA22, ← hc22] at hcut22
            have HO181 := Aside0.mk (show Kd.V k40 40 _ w.heap.size _ (.slice A22 y177.length c22) y177 from Kd.V_mk (by rw [hy22, hc22]; exact Nat.sub_le_sub_right hroom22 _) hr22)
            have HC181 := Aside0.mk (show y177.length ≤ c22 from by rw [hy22, hc22]; exact Nat.sub_le_sub_right hroom22 _)
            clear hr22 hC22 hroom22 hi022 hsz22 hc22
            have KY22 := Aside0.mk hy22
            have KA22 := Aside0.mk hA22
            clear hy22 hA22
            replace q22 := eq_true q22
            refine start_ (n := 10) (S := fun w' => w'.cell? ⟨gb161, 0, none⟩ = some (.int .u32 a2_0) ∧ w'.cell? ⟨gb161, 1, none⟩ = some (.int .u32 a2_1) ∧ w'.cell? ⟨gb161, 2, none⟩ = some (.slice A2_2 l2_2.length c2_2) ∧ w'.cell? ⟨gb161, 3, none⟩ = some (.int .u32 a2_3) ∧ w'.cell? ⟨gb160, 0, none⟩ = some (.slice A0_0 l0_0.length c0_0) ∧ w'.cell? ⟨gb160, 1, none⟩ = some (.int .u32 a0_1)) (ds := []) #[false, false, false, false, false, false, false, false, false, false] (by kernel_rfl) rfl rfl ⟨(blk_cell BK161.out 0).trans rfl, (blk_cell BK161.out 1).trans rfl, (blk_cell BK161.out 2).trans rfl, (blk_cell BK161.out 3).trans rfl, (blk_cell BK160.out 0).trans rfl, (blk_cell BK160.out 1).trans rfl⟩ (fun hHeld => ?_); refine with_tabW hurdlelaw11_put.tab2 hurdlelaw11_put.bits2 (fun HT_ HW_ => ?_)
            generalize w20.drew = w21 at HO0_0 HO2_2 HO170 HO173 BK160 BK161 BK162 HB HO181 hHeld ⊢
            refine pure_ (i := 0) (N := some 14) (v := ?_) (a' := ?_) #[true, false, false, false, false, false, false, false, false, false] rfl rfl (any_of HT_.out (by kernel_rfl)) (fun _ _ _ h => h) (Or.inl ⟨by rfl, ?_⟩) ?_ ?_
            rotate_left
            · intro w'
              go_simp
              with_reducible rfl
            rotate_left
            · simp only [Act.put, List.setIfInBounds_toArray, List.set_cons_zero, List.set_cons_succ, i64_w, i32_w]
              rfl
            refine pure_ (i := 4) (N := some 18) (v := ?_) (a' := ?_) #[true, false, false, false, true, false, false, false, false, false] rfl rfl (any_of HT_.out (by kernel_rfl)) (fun _ _ _ h => h) (Or.inl ⟨by rfl, ?_⟩) ?_ ?_
            rotate_left
            · intro w'
              go_simp
              with_reducible rfl
            rotate_left
            · simp only [Act.put, List.setIfInBounds_toArray, List.set_cons_zero, List.set_cons_succ, i64_w, i32_w]
              rfl
            refine pure_ (i := 6) (N := some 20) (v := ?_) (a' := ?_) #[true, false, false, false, true, false, true, false, false, false] rfl rfl (any_of HT_.out (by kernel_rfl)) (fun _ _ _ h => h) (Or.inl ⟨by rfl, ?_⟩) ?_ ?_
            rotate_left
            · intro w'
              go_simp
              with_reducible rfl
            rotate_left
            · simp only [Act.put, List.setIfInBounds_toArray, List.set_cons_zero, List.set_cons_succ, i64_w, i32_w]
              rfl
            refine take_ (i := 1) (N := some 15) (v := ?_) (a' := ?_) #[true, true, false, false, true, false, true, false, false, false] rfl rfl (take_ofW HT_.out HW_.out (by kernel_rfl)) (fun _ _ _ h => h) (Or.inl ⟨by rfl, ?_⟩) hHeld ?_ ?_
            rotate_left
            · rintro w' ⟨s0, s1, s2, s3, s4, s5⟩
              go_simp
              with_reducible rfl
            rotate_left
            · simp only [Act.put, List.setIfInBounds_toArray, List.set_cons_zero, List.set_cons_succ, i64_w, i32_w]
              rfl
            refine take_ (i := 5) (N := some 19) (v := ?_) (a' := ?_) #[true, true, false, false, true, true, true, false, false, false] rfl rfl (take_ofW HT_.out HW_.out (by kernel_rfl)) (fun _ _ _ h => h) (Or.inl ⟨by rfl, ?_⟩) hHeld ?_ ?_
            rotate_left
            · rintro w' ⟨s0, s1, s2, s3, s4, s5⟩
              go_simp
              with_reducible rfl
            rotate_left
            · simp only [Act.put, List.setIfInBounds_toArray, List.set_cons_zero, List.set_cons_succ, i64_w, i32_w]
              rfl
            refine pure_ (i := 7) (N := some 21) (v := ?_) (a' := ?_) #[true, true, false, false, true, true, true, true, false, false] rfl rfl (any_of HT_.out (by kernel_rfl)) (fun _ _ _ h => h) (Or.inl ⟨by rfl, ?_⟩) ?_ ?_
            rotate_left
            · intro w'
              go_simp
              with_reducible rfl
            rotate_left
            · simp only [Act.put, List.setIfInBounds_toArray, List.set_cons_zero, List.set_cons_succ, i64_w, i32_w]
              rfl
            refine one_ (i := 2) (N := some 16) #[true, true, true, false, true, true, true, true, false, false] rfl rfl (one_of HT_.out (by kernel_rfl)) (by decide) (fun K hK => ?_)
            refine value_ (w1 := ?_) (v := ?_) (by rfl) rfl ?_ ?_
            rotate_left 2
            · go_simp
              constructor
              · rfl
              · rfl
            refine hK.out _ _ ⟨(blk_cell (blk_alloc BK161.out _) 0).trans rfl, (blk_cell (blk_alloc BK161.out _) 1).trans rfl, (blk_cell (blk_alloc BK161.out _) 2).trans rfl, (blk_cell (blk_alloc BK161.out _) 3).trans rfl, (blk_cell (blk_alloc BK160.out _) 0).trans rfl, (blk_cell (blk_alloc BK160.out _) 1).trans rfl⟩ (fun hHeld => ?_)
            clear hK K
            refine norm_ (a' := ?_) ?_ ?_
            rotate_left
            · show Act.put _ (some 16) _ = _
              simp only [Act.put, List.setIfInBounds_toArray, List.set_cons_zero, List.set_cons_succ, i64_w, i32_w]
              rfl
            refine one_ (i := 3) (N := some 17) #[true, true, true, true, true, true, true, true, false, false] rfl rfl (one_of HT_.out (by kernel_rfl)) (by decide) (fun K hK => ?_)
            refine Kd.N_append_step k40 (w0 := w) w.heap.size (by rfl) (.tmp 14) (.tmp 16) 22 40 (.agg #[(.int .u32 0), (.int .u32 0), (.slice none 0 0), (.int .u32 0)]) 40 rfl Try.underlying22 info40 rfl (by decide) (by omega) v172 y171 (⟨a2_0, a2_1, l2_2, a2_3⟩ : S40) [.int .u32 a2_0, .int .u32 a2_1, .slice A2_2 l2_2.length c2_2, .int .u32 a2_3] (fun k_ => ((P0_0_ k_ ∨ P2_2_ k_) ∨ w.heap.size ≤ k_) ∧ k_ ≠ gb160 ∧ k_ ≠ gb161 ∧ k_ ≠ gb162) (fun k_ => ((fun k_ => ((P0_0_ k_ ∨ P2_2_ k_) ∨ w.heap.size ≤ k_) ∧ k_ ≠ gb160 ∧ k_ ≠ gb161 ∧ k_ ≠ gb162)) k_ ∧ some k_ ≠ (v172 : Value).ownBlock) rfl rfl ?aP (fun _ hk => hk) ?aF ?aO ?aB ?aS ?aL ?_
            (case aP => exact (k40_mkF _ _ (⟨a2_0, a2_1, l2_2, a2_3⟩ : S40) (Kd.V_reads' (Kd.V_mono (ok' := (fun k_ => ((fun k_ => ((P0_0_ k_ ∨ P2_2_ k_) ∨ w.heap.size ≤ k_) ∧ k_ ≠ gb160 ∧ k_ ≠ gb161 ∧ k_ ≠ gb162)) k_ ∧ some k_ ≠ (v172 : Value).ownBlock)) (HO2_2.out) (fun k_ hk => ⟨⟨hk.1.1, ⟨hk.1.2.1, ⟨hk.1.2.2.1, hk.1.2.2.2⟩⟩⟩, hk.2⟩))).2.1 (Kd.V_F (Kd.V_mono (ok' := (fun k_ => ((fun k_ => ((P0_0_ k_ ∨ P2_2_ k_) ∨ w.heap.size ≤ k_) ∧ k_ ≠ gb160 ∧ k_ ≠ gb161 ∧ k_ ≠ gb162)) k_ ∧ some k_ ≠ (v172 : Value).ownBlock)) (HO2_2.out) (fun k_ hk => ⟨⟨hk.1.1, ⟨hk.1.2.1, ⟨hk.1.2.2.1, hk.1.2.2.2⟩⟩⟩, hk.2⟩)))))
            (case aB => exact (by repeat (first | (with_reducible first | exact HB.out | apply below_alloc | apply pw_below_drewN | apply below_drew1 | refine below_set ?_ GE160.out | refine below_set ?_ GE161.out | refine below_set ?_ GE162.out) | exact HB.out)))
            (case aF => exact (fun k_ hk => ⟨(.inr (Nat.le_trans (below_size (by repeat (first | (with_reducible first | exact HB.out | apply below_alloc | apply pw_below_drewN | apply below_drew1 | refine below_set ?_ GE160.out | refine below_set ?_ GE161.out | refine below_set ?_ GE162.out) | exact HB.out))) hk)), Kd.freshB (g := gb160) (o := .cells #[.slice A0_0 l0_0.length c0_0, .int .u32 a0_1] 25 (0, 0)) (by (with_reducible repeat (first | refine blk_drewN ?_ _ | refine blk_drew ?_ | refine blk_alloc ?_ _)); exact BK160.out) k_ hk, Kd.freshB (g := gb161) (o := .cells #[.int .u32 a2_0, .int .u32 a2_1, .slice A2_2 l2_2.length c2_2, .int .u32 a2_3] 40 (0, 0)) (by (with_reducible repeat (first | refine blk_drewN ?_ _ | refine blk_drew ?_ | refine blk_alloc ?_ _)); exact BK161.out) k_ hk, Kd.freshB (g := gb162) (o := .cells #[.slice none 0 0, .int .u32 0] 25 (0, 0)) (by (with_reducible repeat (first | refine blk_drewN ?_ _ | refine blk_drew ?_ | refine blk_alloc ?_ _)); exact BK162.out) k_ hk⟩))
            (case aO => exact (by (with_reducible repeat (first | apply Kd.N_alloc | apply Kd.N_drewN | apply Kd.N_drew)); exact HO173.out))
            (case aS => exact (below_size (by repeat (first | (with_reducible first | exact HB.out | apply below_alloc | apply pw_below_drewN | apply below_drew1 | refine below_set ?_ GE160.out | refine below_set ?_ GE161.out | refine below_set ?_ GE162.out) | exact HB.out))))
            (case aL => have := LMc7.out; omega)
            intro v175 w23 ho hb hg hat
            rw [← Ny174.out] at ho
            have n0_ := Aside0.mk (Kd.V_afterv (ok := (fun k_ => ((P0_0_ k_ ∨ P2_2_ k_) ∨ w.heap.size ≤ k_) ∧ k_ ≠ gb160 ∧ k_ ≠ gb161 ∧ k_ ≠ gb162)) (by (with_reducible repeat (first | apply Kd.V_alloc | apply Kd.V_drewN | apply Kd.V_drew)); exact HO0_0.out) hg hat)
            have n1_ := Aside0.mk (Kd.V_afterv (ok := (fun k_ => ((P0_0_ k_ ∨ P2_2_ k_) ∨ w.heap.size ≤ k_) ∧ k_ ≠ gb160 ∧ k_ ≠ gb161 ∧ k_ ≠ gb162)) (by (with_reducible repeat (first | apply Kd.V_alloc | apply Kd.V_drewN | apply Kd.V_drew)); exact HO2_2.out) hg hat)
            have n2_ := Aside0.mk (blk_grown (g := gb160) (o := .cells #[.slice A0_0 l0_0.length c0_0, .int .u32 a0_1] 25 (0, 0)) (by (with_reducible repeat (first | refine blk_drewN ?_ _ | refine blk_drew ?_ | refine blk_alloc ?_ _)); exact BK160.out) hg (Kd.N_ne HO173.out BK160.out (by decide)))
            have n3_ := Aside0.mk (blk_grown (g := gb161) (o := .cells #[.int .u32 a2_0, .int .u32 a2_1, .slice A2_2 l2_2.length c2_2, .int .u32 a2_3] 40 (0, 0)) (by (with_reducible repeat (first | refine blk_drewN ?_ _ | refine blk_drew ?_ | refine blk_alloc ?_ _)); exact BK161.out) hg (Kd.N_away HO173.out (fun _ hk => hk.2.2.1)))
            have n4_ := Aside0.mk (blk_grown (g := gb162) (o := .cells #[.slice none 0 0, .int .u32 0] 25 (0, 0)) (by (with_reducible repeat (first | refine blk_drewN ?_ _ | refine blk_drew ?_ | refine blk_alloc ?_ _)); exact BK162.out) hg (Kd.N_ne HO173.out BK162.out (by decide)))
            have n5_ := Aside0.mk (Kd.V_afterv (ok := (fun k_ => ((P0_0_ k_ ∨ P2_2_ k_) ∨ w.heap.size ≤ k_) ∧ k_ ≠ gb160 ∧ k_ ≠ gb161 ∧ k_ ≠ gb162)) (by (with_reducible repeat (first | apply Kd.V_alloc | apply Kd.V_drewN | apply Kd.V_drew)); exact HO170.out) hg hat)
            have n6_ := Aside0.mk (Kd.V_afterv (ok := (fun k_ => ((P0_0_ k_ ∨ P2_2_ k_) ∨ w.heap.size ≤ k_) ∧ k_ ≠ gb160 ∧ k_ ≠ gb161 ∧ k_ ≠ gb162)) (by (with_reducible repeat (first | apply Kd.V_alloc | apply Kd.V_drewN | apply Kd.V_drew)); exact HO181.out) hg hat)
            have n7_ := Aside0.mk (hb)
            have n8_ := Aside0.mk (ho)
            clear HO0_0
            clear HO2_2
            clear BK160
            clear BK161
            clear BK162
            clear HO170
            clear HO181
            clear HB
            clear HO173
            have HO0_0 := n0_
            have HO2_2 := n1_
            have BK160 := n2_
            have BK161 := n3_
            have BK162 := n4_
            have HO170 := n5_
            have HO181 := n6_
            have HB := n7_
            have HO176 := n8_
            clear n0_ n1_ n2_ n3_ n4_ n5_ n6_ n7_ n8_
            clear ho hb hg hat
            refine hK.out _ _ ⟨(blk_cell BK161.out 0).trans rfl, (blk_cell BK161.out 1).trans rfl, (blk_cell BK161.out 2).trans rfl, (blk_cell BK161.out 3).trans rfl, (blk_cell BK160.out 0).trans rfl, (blk_cell BK160.out 1).trans rfl⟩ (fun hHeld => ?_)
            clear hK K
            refine norm_ (a' := ?_) ?_ ?_
            rotate_left
            · show Act.put _ (some 17) _ = _
              simp only [Act.put, List.setIfInBounds_toArray, List.set_cons_zero, List.set_cons_succ, i64_w, i32_w]
              rfl
            refine one_ (i := 8) (N := some 22) #[true, true, true, true, true, true, true, true, true, false] rfl rfl (one_of HT_.out (by kernel_rfl)) (by decide) (fun K hK => ?_)
            refine Kd.N_append_rows_step k40 (w0 := w) w.heap.size (by rfl) (.tmp 17) (.tmp 21) 22 40 (.agg #[(.int .u32 0), (.int .u32 0), (.slice none 0 0), (.int .u32 0)]) 40 rfl Try.underlying22 info40 rfl (by decide) (by omega) v175 y174 y177 _ _ _ (fun k_ => ((P0_0_ k_ ∨ P2_2_ k_) ∨ w.heap.size ≤ k_) ∧ k_ ≠ gb160 ∧ k_ ≠ gb161 ∧ k_ ≠ gb162) (fun k_ => ((fun k_ => ((P0_0_ k_ ∨ P2_2_ k_) ∨ w.heap.size ≤ k_) ∧ k_ ≠ gb160 ∧ k_ ≠ gb161 ∧ k_ ≠ gb162)) k_ ∧ some k_ ≠ (v175 : Value).ownBlock) rfl rfl ?aO ?aR (fun _ hk => hk) ?aF ?aB ?aS ?aL ?_
            (case aR => exact (by skip; exact Kd.V_F (Kd.V_mono (ok' := (fun k_ => ((fun k_ => ((P0_0_ k_ ∨ P2_2_ k_) ∨ w.heap.size ≤ k_) ∧ k_ ≠ gb160 ∧ k_ ≠ gb161 ∧ k_ ≠ gb162)) k_ ∧ some k_ ≠ (v175 : Value).ownBlock)) (HO181.out) (fun k_ hk => ⟨⟨hk.1.1, ⟨hk.1.2.1, ⟨hk.1.2.2.1, hk.1.2.2.2⟩⟩⟩, hk.2⟩))))
            (case aB => exact (by repeat (first | (with_reducible first | exact HB.out | apply below_alloc | apply pw_below_drewN | apply below_drew1 | refine below_set ?_ GE160.out | refine below_set ?_ GE161.out | refine below_set ?_ GE162.out) | exact HB.out)))
            (case aF => exact (fun k_ hk => ⟨(.inr (Nat.le_trans (below_size (by repeat (first | (with_reducible first | exact HB.out | apply below_alloc | apply pw_below_drewN | apply below_drew1 | refine below_set ?_ GE160.out | refine below_set ?_ GE161.out | refine below_set ?_ GE162.out) | exact HB.out))) hk)), Kd.freshB (g := gb160) (o := .cells #[.slice A0_0 l0_0.length c0_0, .int .u32 a0_1] 25 (0, 0)) (by (with_reducible repeat (first | refine blk_drewN ?_ _ | refine blk_drew ?_ | refine blk_alloc ?_ _)); exact BK160.out) k_ hk, Kd.freshB (g := gb161) (o := .cells #[.int .u32 a2_0, .int .u32 a2_1, .slice A2_2 l2_2.length c2_2, .int .u32 a2_3] 40 (0, 0)) (by (with_reducible repeat (first | refine blk_drewN ?_ _ | refine blk_drew ?_ | refine blk_alloc ?_ _)); exact BK161.out) k_ hk, Kd.freshB (g := gb162) (o := .cells #[.slice none 0 0, .int .u32 0] 25 (0, 0)) (by (with_reducible repeat (first | refine blk_drewN ?_ _ | refine blk_drew ?_ | refine blk_alloc ?_ _)); exact BK162.out) k_ hk⟩))
            (case aO => exact (by (with_reducible repeat (first | apply Kd.N_alloc | apply Kd.N_drewN | apply Kd.N_drew)); exact HO176.out))
            (case aS => exact (below_size (by repeat (first | (with_reducible first | exact HB.out | apply below_alloc | apply pw_below_drewN | apply below_drew1 | refine below_set ?_ GE160.out | refine below_set ?_ GE161.out | refine below_set ?_ GE162.out) | exact HB.out))))
            (case aL => have := LMc10.out; omega)
            intro v183 w24 ho hb hg hat
            rw [← Ny182.out] at ho
            have n0_ := Aside0.mk (Kd.V_afterv (ok := (fun k_ => ((P0_0_ k_ ∨ P2_2_ k_) ∨ w.heap.size ≤ k_) ∧ k_ ≠ gb160 ∧ k_ ≠ gb161 ∧ k_ ≠ gb162)) (by (with_reducible repeat (first | apply Kd.V_alloc | apply Kd.V_drewN | apply Kd.V_drew)); exact HO0_0.out) hg hat)
            have n1_ := Aside0.mk (Kd.V_afterv (ok := (fun k_ => ((P0_0_ k_ ∨ P2_2_ k_) ∨ w.heap.size ≤ k_) ∧ k_ ≠ gb160 ∧ k_ ≠ gb161 ∧ k_ ≠ gb162)) (by (with_reducible repeat (first | apply Kd.V_alloc | apply Kd.V_drewN | apply Kd.V_drew)); exact HO2_2.out) hg hat)
            have n2_ := Aside0.mk (blk_grown (g := gb160) (o := .cells #[.slice A0_0 l0_0.length c0_0, .int .u32 a0_1] 25 (0, 0)) (by (with_reducible repeat (first | refine blk_drewN ?_ _ | refine blk_drew ?_ | refine blk_alloc ?_ _)); exact BK160.out) hg (Kd.N_ne HO176.out BK160.out (by decide)))
            have n3_ := Aside0.mk (blk_grown (g := gb161) (o := .cells #[.int .u32 a2_0, .int .u32 a2_1, .slice A2_2 l2_2.length c2_2, .int .u32 a2_3] 40 (0, 0)) (by (with_reducible repeat (first | refine blk_drewN ?_ _ | refine blk_drew ?_ | refine blk_alloc ?_ _)); exact BK161.out) hg (Kd.N_away HO176.out (fun _ hk => hk.2.2.1)))
            have n4_ := Aside0.mk (blk_grown (g := gb162) (o := .cells #[.slice none 0 0, .int .u32 0] 25 (0, 0)) (by (with_reducible repeat (first | refine blk_drewN ?_ _ | refine blk_drew ?_ | refine blk_alloc ?_ _)); exact BK162.out) hg (Kd.N_ne HO176.out BK162.out (by decide)))
            have n5_ := Aside0.mk (Kd.V_afterv (ok := (fun k_ => ((P0_0_ k_ ∨ P2_2_ k_) ∨ w.heap.size ≤ k_) ∧ k_ ≠ gb160 ∧ k_ ≠ gb161 ∧ k_ ≠ gb162)) (by (with_reducible repeat (first | apply Kd.V_alloc | apply Kd.V_drewN | apply Kd.V_drew)); exact HO170.out) hg hat)
            have n6_ := Aside0.mk (Kd.V_afterv (ok := (fun k_ => ((P0_0_ k_ ∨ P2_2_ k_) ∨ w.heap.size ≤ k_) ∧ k_ ≠ gb160 ∧ k_ ≠ gb161 ∧ k_ ≠ gb162)) (by (with_reducible repeat (first | apply Kd.V_alloc | apply Kd.V_drewN | apply Kd.V_drew)); exact HO181.out) hg hat)
            have n7_ := Aside0.mk (hb)
            have n8_ := Aside0.mk (ho)
            clear HO0_0
            clear HO2_2
            clear BK160
            clear BK161
            clear BK162
            clear HO170
            clear HO181
            clear HB
            clear HO176
            have HO0_0 := n0_
            have HO2_2 := n1_
            have BK160 := n2_
            have BK161 := n3_
            have BK162 := n4_
            have HO170 := n5_
            have HO181 := n6_
            have HB := n7_
            have HO184 := n8_
            clear n0_ n1_ n2_ n3_ n4_ n5_ n6_ n7_ n8_
            clear ho hb hg hat
            refine hK.out _ _ ⟨(blk_cell BK161.out 0).trans rfl, (blk_cell BK161.out 1).trans rfl, (blk_cell BK161.out 2).trans rfl, (blk_cell BK161.out 3).trans rfl, (blk_cell BK160.out 0).trans rfl, (blk_cell BK160.out 1).trans rfl⟩ (fun hHeld => ?_)
            clear hK K
            refine norm_ (a' := ?_) ?_ ?_
            rotate_left
            · show Act.put _ (some 22) _ = _
              simp only [Act.put, List.setIfInBounds_toArray, List.set_cons_zero, List.set_cons_succ, i64_w, i32_w]
              rfl
            refine pure_ (i := 9) (N := some 7) (v := ?_) (a' := ?_) #[true, true, true, true, true, true, true, true, true, true] rfl rfl (any_of HT_.out (by kernel_rfl)) (fun _ _ _ h => h) (Or.inl ⟨by rfl, ?_⟩) ?_ ?_
            rotate_left
            · intro w'
              go_simp
              with_reducible rfl
            rotate_left
            · simp only [Act.put, List.setIfInBounds_toArray, List.set_cons_zero, List.set_cons_succ, i64_w, i32_w]
              rfl
            refine done_ (done_of HT_.out (by kernel_rfl)) ?_
            have hcz25_0 : w24.cell? ⟨gb160, 0, none⟩ = some (.slice A0_0 l0_0.length c0_0) := (blk_cell BK160.out 0).trans rfl
            have hcz25_1 : w24.cell? ⟨gb160, 1, none⟩ = some (.int .u32 a0_1) := (blk_cell BK160.out 1).trans rfl
            have hfz25_0 := blk_frozen BK160.out 0
            have hfz25_1 := blk_frozen BK160.out 1
            obtain ⟨Ao26, co26, eo26⟩ := Kd.N_slice HO184.out
            subst eo26
            have hnb27 := NB162_161.out
            have hnc27 := NB161_162.out
            have hcz28_0 : w24.cell? ⟨gb162, 0, none⟩ = some (.slice none 0 0) := (blk_cell BK162.out 0).trans rfl
            have hcz28_1 : w24.cell? ⟨gb162, 1, none⟩ = some (.int .u32 0) := (blk_cell BK162.out 1).trans rfl
            have hfz28_0 := blk_frozen BK162.out 0
            have hfz28_1 := blk_frozen BK162.out 1
            try go_wp2
            refine bodyPost_ret (results_cell_row rfl _ _ gb162 25 #[.slice Ao26 y182.length co26, .int .u32 a0_1] (0, 0) _ rfl (by (with_reducible repeat (first | refine blk_drewN ?_ _ | refine blk_drew ?_ | refine blk_alloc ?_ _)); refine blk_put (cs := #[.slice Ao26 y182.length co26, .int .u32 0]) ?_ 1 _ rfl; (with_reducible repeat (first | refine blk_drewN ?_ _ | refine blk_drew ?_ | refine blk_alloc ?_ _)); refine blk_put (cs := #[.slice none 0 0, .int .u32 0]) ?_ 0 _ rfl; (with_reducible repeat (first | refine blk_drewN ?_ _ | refine blk_drew ?_ | refine blk_alloc ?_ _)); exact BK162.out) Try.underlying25 rfl (by kernel_rfl)) rfl ?_
            exact ⟨_, by first | rfl | (simp [errW_none, errW_some] <;> rfl) | (simp [*, errW_none, errW_some] <;> rfl), by (with_reducible repeat (first | apply Kd.N_alloc | apply Kd.N_drewN | apply Kd.N_drew)); exact Kd.N_mono (Kd.N_far (p := ⟨gb162, 1, none⟩) (Kd.N_far (p := ⟨gb162, 0, none⟩) (Kd.N_mono HO184.out (fun k_ hk => (⟨hk, hk.2.2.2⟩ : _ ∧ k_ ≠ gb162))) (fun _ hk => hk.2) (.slice Ao26 y182.length co26)) (fun _ hk => hk.2) (.int .u32 a0_1)) (fun _ hk => hk.1.1), by repeat (first | (with_reducible first | exact HB.out | apply below_alloc | apply pw_below_drewN | apply below_drew1 | refine below_set ?_ GE160.out | refine below_set ?_ GE161.out | refine below_set ?_ GE162.out) | exact HB.out)⟩
          · rw [if_neg c10] at H
            exact absurd H (by simp)
        · rw [if_neg c7] at H
          exact absurd H (by simp)
      · rw [if_neg c6] at H
        exact absurd H (by simp)
    · rw [if_neg c5] at H
      exact absurd H (by simp)
  · rw [if_neg c4] at H
    exact absurd H (by simp)
end Go.Proofs.Ytekpbgmmogpbdaa.D
namespace Go.Proofs.Ytekpbgmmogpbdaa.D
open Go.RowKit Go.Proofs.Ytekpbgmmogpbdaa.H Go.Proofs.YtekpbgmmogpbdaaW.PrintWords Go.Proofs.YtekpbgmmogpbdaaW.PrintLast Go.Proofs.YtekpbgmmogpbdaaW.PrintMore
open Go.Proofs.Ytekpbgmmogpbdaa.P (errW errW_none errW_some info40 info61 S61 z61 k61 k61_open k61_mk k61_mkM rd_T61 at_T61 S40 z40 k40 k40_open k40_openM k40_mk k40_mkM k40_mkF rd_T40 at_T40)
attribute [local go_sem] max2_int min2_int max_two min_two max_three min_three max_four min_four
set_option linter.unusedVariables false
set_option linter.unusedSimpArgs false
noncomputable def hurdlelaw11_DenoteLast.j0 : Nat → Bool → List (S40) → Int → Int → Int → Int → Int → Int → Int → Int → Int → Int → List (S40) → Int → Option (Bool)
  | 0, _, _, _, _, _, _, _, _, _, _, _, _, _, _ => none
  | k + 1, x31, x223000, x223001, x225000, x225001, x225002, x225003, x225004, x225005, x225006, x225007, x225008, x232000, x232001 => if x31 = true then ((hurdlelaw11_knows.f).bind fun t234 => (some t234)) else ((denote_Judge.f x223000 x223001 x225000 x225001 x225002 x225003 x225004 x225005 x225006 x225007 x225008).bind fun bt235 => ((denote_Judge.f x232000 x232001 x225000 x225001 x225002 x225003 x225004 x225005 x225006 x225007 x225008).bind fun bt237 => (if bt235.1 = bt237.1 then (if bt235.2 = 0 then (if bt237.2 = 0 then ((hurdlelaw11_knows.f).bind fun t239 => (some t239)) else (some false)) else (some false)) else (some false))))
noncomputable def hurdlelaw11_DenoteLast.f (k : Nat) (l0_0 : List (S40)) (a0_1 : Int) (a1_0 : Int) (a1_1 : Int) (l1_2 : List (S61)) (a1_3 : Int) (a2_0 : Int) (a2_1 : Int) (a2_2 : Int) (a2_3 : Int) (a2_4 : Int) (a2_5 : Int) (a2_6 : Int) (a2_7 : Int) (a2_8 : Int) : Option (Bool) := (hurdlelaw10_Great.f l0_0 a0_1).bind fun t225 => (if t225 = true then ((hurdlelaw11_knows.f).bind fun t226 => (some t226)) else ((hurdlelaw11_put.f l0_0 a0_1 (l0_0.length : Int) a1_0 a1_1 l1_2 a0_1).bind fun bt227 => ((hurdleref10_Right.f l0_0 a0_1).bind fun t232 => (if t232 = true then ((hurdleref10_Right.f bt227.1 bt227.2).bind fun t233 => (hurdlelaw11_DenoteLast.j0 k (!t233) l0_0 a0_1 a2_0 a2_1 a2_2 a2_3 a2_4 a2_5 a2_6 a2_7 a2_8 bt227.1 bt227.2)) else (hurdlelaw11_DenoteLast.j0 k true l0_0 a0_1 a2_0 a2_1 a2_2 a2_3 a2_4 a2_5 a2_6 a2_7 a2_8 bt227.1 bt227.2)))))
set_option maxHeartbeats 8000000 in
set_option maxRecDepth 100000 in
theorem hurdlelaw11_DenoteLast.calls (k : Nat) (A0_0 : Option Addr) (c0_0 : Nat) (l0_0 : List (S40)) (a0_1 : Int) (a1_0 : Int) (a1_1 : Int) (A1_2 : Option Addr) (c1_2 : Nat) (l1_2 : List (S61)) (a1_3 : Int) (a2_0 : Int) (a2_1 : Int) (a2_2 : Int) (a2_3 : Int) (a2_4 : Int) (a2_5 : Int) (a2_6 : Int) (a2_7 : Int) (a2_8 : Int) (r : Bool) (w : World) (hr0_0 : Kd.C k40 w A0_0 l0_0.length l0_0) (hc0_0 : l0_0.length ≤ c0_0) (hr1_2 : Kd.C k61 w A1_2 l1_2.length l1_2) (hc1_2 : l1_2.length ≤ c1_2) (h : hurdlelaw11_DenoteLast.f k l0_0 a0_1 a1_0 a1_1 l1_2 a1_3 a2_0 a2_1 a2_2 a2_3 a2_4 a2_5 a2_6 a2_7 a2_8 = some r) :
    Calls Try.prog 13 #[.agg #[.slice A0_0 l0_0.length c0_0, .int .u32 a0_1], .agg #[.int .u32 a1_0, .int .u32 a1_1, .slice A1_2 l1_2.length c1_2, .int .u32 a1_3], .agg #[.int .u32 a2_0, .int .u32 a2_1, .int .u64 a2_2, .int .u64 a2_3, .int .u64 a2_4, .int .u64 a2_5, .int .u64 a2_6, .int .u64 a2_7, .int .u64 a2_8]] w fun e w' => e = .returned (.bool r) ∧ Below w.heap.size w w' := by
  have hu25 := Try.underlying25
  have hu40 := Try.underlying40
  have hu44 := Try.underlying44
  have HR0_0 := Aside0.mk hr0_0
  have HC0_0 := Aside0.mk hc0_0
  clear hr0_0 hc0_0
  have HR1_2 := Aside0.mk hr1_2
  have HC1_2 := Aside0.mk hc1_2
  clear hr1_2 hc1_2
  have HB := Aside0.mk (Below.refl w.heap.size w)
  have H : ((hurdlelaw10_Great.f l0_0 a0_1).bind fun t225 => (if t225 = true then ((hurdlelaw11_knows.f).bind fun t226 => (some t226)) else ((hurdlelaw11_put.f l0_0 a0_1 (l0_0.length : Int) a1_0 a1_1 l1_2 a0_1).bind fun bt227 => ((hurdleref10_Right.f l0_0 a0_1).bind fun t232 => (if t232 = true then ((hurdleref10_Right.f bt227.1 bt227.2).bind fun t233 => (hurdlelaw11_DenoteLast.j0 k (!t233) l0_0 a0_1 a2_0 a2_1 a2_2 a2_3 a2_4 a2_5 a2_6 a2_7 a2_8 bt227.1 bt227.2)) else (hurdlelaw11_DenoteLast.j0 k true l0_0 a0_1 a2_0 a2_1 a2_2 a2_3 a2_4 a2_5 a2_6 a2_7 a2_8 bt227.1 bt227.2)))))) = some r := h
  clear h
  replace H := Option.bind_eq_some_iff.mp H
  obtain ⟨t225, A40, H⟩ := H
  replace H : (if t225 = true then ((hurdlelaw11_knows.f).bind fun t226 => (some t226)) else ((hurdlelaw11_put.f l0_0 a0_1 (l0_0.length : Int) a1_0 a1_1 l1_2 a0_1).bind fun bt227 => ((hurdleref10_Right.f l0_0 a0_1).bind fun t232 => (if t232 = true then ((hurdleref10_Right.f bt227.1 bt227.2).bind fun t233 => (hurdlelaw11_DenoteLast.j0 k (!t233) l0_0 a0_1 a2_0 a2_1 a2_2 a2_3 a2_4 a2_5 a2_6 a2_7 a2_8 bt227.1 bt227.2)) else (hurdlelaw11_DenoteLast.j0 k true l0_0 a0_1 a2_0 a2_1 a2_2 a2_3 a2_4 a2_5 a2_6 a2_7 a2_8 bt227.1 bt227.2))))) = some r := H
  have A4 := Aside0.mk A40
  clear A40
  by_cases c5 : t225 = true
  · subst c5
    have H1 : ((hurdlelaw11_knows.f).bind fun t226 => (some t226)) = some r := by rw [if_pos rfl] at H; exact H
    clear H
    have H := H1
    clear H1
    replace H := Option.bind_eq_some_iff.mp H
    obtain ⟨t226, A60, H⟩ := H
    replace H : (some t226) = some r := H
    have A6 := Aside0.mk A60
    clear A60
    obtain rfl := Option.some.inj H
    go_enter Try.func13, Try.ntmps13
    go_wp2_with (first | ((with_reducible refine gate_dst (N := 3) rfl ?_); refine box_event ?hg (N := 3) ?hd (cs := #[.slice A0_0 l0_0.length c0_0, .int .u32 a0_1]) (t := 25) ?hr ?_; (case hd => rfl); (case hg => rfl); (case hr => first | (go_simp; done) | (go_simp; rfl)); intro gb222 hg w7 hbox hb; have n0_ := Aside0.mk (below_step (by repeat (first | (with_reducible first | exact HB.out | apply below_alloc | apply pw_below_drewN | apply below_drew1) | exact HB.out)) hb); have n1_ := Aside0.mk (hbox); have n2_ := Aside0.mk ((by rw [hg]; exact (below_size (by repeat (first | (with_reducible first | exact HB.out | apply below_alloc | apply pw_below_drewN | apply below_drew1) | exact HB.out))) : w.heap.size ≤ gb222)); have n3_ := Aside0.mk ((by rw [hg]; exact (below_size (by repeat (first | (with_reducible first | exact HB.out | apply below_alloc | apply pw_below_drewN | apply below_drew1) | exact HB.out))) : w.heap.size ≤ gb222)); clear HB; have HB := n0_; have BK222 := n1_; have GW222 := n2_; have GE222 := n3_; clear n0_ n1_ n2_ n3_; clear hb hbox hg) | ((with_reducible refine gate_dst (N := 4) rfl ?_); refine box_event ?hg (N := 4) ?hd (cs := #[.int .u32 a1_0, .int .u32 a1_1, .slice A1_2 l1_2.length c1_2, .int .u32 a1_3]) (t := 40) ?hr ?_; (case hd => rfl); (case hg => rfl); (case hr => first | (go_simp; done) | (go_simp; rfl)); intro gb223 hg w8 hbox hb; have n0_ := Aside0.mk (blk_below (g := gb222) (o := .cells #[.slice A0_0 l0_0.length c0_0, .int .u32 a0_1] 25 (0, 0)) (by (with_reducible repeat (first | refine blk_drewN ?_ _ | refine blk_drew ?_ | refine blk_alloc ?_ _)); exact BK222.out) hb); have n1_ := Aside0.mk (below_step (by repeat (first | (with_reducible first | exact HB.out | apply below_alloc | apply pw_below_drewN | apply below_drew1 | refine below_set ?_ GE222.out) | exact HB.out)) hb); have n2_ := Aside0.mk (hbox); have n3_ := Aside0.mk ((by rw [hg]; exact (below_size (by repeat (first | (with_reducible first | exact HB.out | apply below_alloc | apply pw_below_drewN | apply below_drew1 | refine below_set ?_ GE222.out) | exact HB.out))) : w.heap.size ≤ gb223)); have n4_ := Aside0.mk ((by rw [hg]; exact (below_size (by repeat (first | (with_reducible first | exact HB.out | apply below_alloc | apply pw_below_drewN | apply below_drew1 | refine below_set ?_ GE222.out) | exact HB.out))) : w.heap.size ≤ gb223)); have n5_ := Aside0.mk ((by rw [hg]; exact Nat.ne_of_lt (blk_lt (g := gb222) (o := .cells #[.slice A0_0 l0_0.length c0_0, .int .u32 a0_1] 25 (0, 0)) (by (with_reducible repeat (first | refine blk_drewN ?_ _ | refine blk_drew ?_ | refine blk_alloc ?_ _)); exact BK222.out)) : gb222 ≠ gb223)); have n6_ := Aside0.mk ((by rw [hg]; exact Nat.ne_of_gt (blk_lt (g := gb222) (o := .cells #[.slice A0_0 l0_0.length c0_0, .int .u32 a0_1] 25 (0, 0)) (by (with_reducible repeat (first | refine blk_drewN ?_ _ | refine blk_drew ?_ | refine blk_alloc ?_ _)); exact BK222.out)) : gb223 ≠ gb222)); clear BK222; clear HB; have BK222 := n0_; have HB := n1_; have BK223 := n2_; have GW223 := n3_; have GE223 := n4_; have NB222_223 := n5_; have NB223_222 := n6_; clear n0_ n1_ n2_ n3_ n4_ n5_ n6_; clear hb hbox hg) | ((with_reducible refine gate_dst (N := 5) rfl ?_); refine box_event ?hg (N := 5) ?hd (cs := #[.int .u32 a2_0, .int .u32 a2_1, .int .u64 a2_2, .int .u64 a2_3, .int .u64 a2_4, .int .u64 a2_5, .int .u64 a2_6, .int .u64 a2_7, .int .u64 a2_8]) (t := 44) ?hr ?_; (case hd => rfl); (case hg => rfl); (case hr => first | (go_simp; done) | (go_simp; rfl)); intro gb224 hg w9 hbox hb; have n0_ := Aside0.mk (blk_below (g := gb222) (o := .cells #[.slice A0_0 l0_0.length c0_0, .int .u32 a0_1] 25 (0, 0)) (by (with_reducible repeat (first | refine blk_drewN ?_ _ | refine blk_drew ?_ | refine blk_alloc ?_ _)); exact BK222.out) hb); have n1_ := Aside0.mk (blk_below (g := gb223) (o := .cells #[.int .u32 a1_0, .int .u32 a1_1, .slice A1_2 l1_2.length c1_2, .int .u32 a1_3] 40 (0, 0)) (by (with_reducible repeat (first | refine blk_drewN ?_ _ | refine blk_drew ?_ | refine blk_alloc ?_ _)); exact BK223.out) hb); have n2_ := Aside0.mk (below_step (by repeat (first | (with_reducible first | exact HB.out | apply below_alloc | apply pw_below_drewN | apply below_drew1 | refine below_set ?_ GE222.out | refine below_set ?_ GE223.out) | exact HB.out)) hb); have n3_ := Aside0.mk (hbox); have n4_ := Aside0.mk ((by rw [hg]; exact (below_size (by repeat (first | (with_reducible first | exact HB.out | apply below_alloc | apply pw_below_drewN | apply below_drew1 | refine below_set ?_ GE222.out | refine below_set ?_ GE223.out) | exact HB.out))) : w.heap.size ≤ gb224)); have n5_ := Aside0.mk ((by rw [hg]; exact (below_size (by repeat (first | (with_reducible first | exact HB.out | apply below_alloc | apply pw_below_drewN | apply below_drew1 | refine below_set ?_ GE222.out | refine below_set ?_ GE223.out) | exact HB.out))) : w.heap.size ≤ gb224)); have n6_ := Aside0.mk ((by rw [hg]; exact Nat.ne_of_lt (blk_lt (g := gb222) (o := .cells #[.slice A0_0 l0_0.length c0_0, .int .u32 a0_1] 25 (0, 0)) (by (with_reducible repeat (first | refine blk_drewN ?_ _ | refine blk_drew ?_ | refine blk_alloc ?_ _)); exact BK222.out)) : gb222 ≠ gb224)); have n7_ := Aside0.mk ((by rw [hg]; exact Nat.ne_of_gt (blk_lt (g := gb222) (o := .cells #[.slice A0_0 l0_0.length c0_0, .int .u32 a0_1] 25 (0, 0)) (by (with_reducible repeat (first | refine blk_drewN ?_ _ | refine blk_drew ?_ | refine blk_alloc ?_ _)); exact BK222.out)) : gb224 ≠ gb222)); have n8_ := Aside0.mk ((by rw [hg]; exact Nat.ne_of_lt (blk_lt (g := gb223) (o := .cells #[.int .u32 a1_0, .int .u32 a1_1, .slice A1_2 l1_2.length c1_2, .int .u32 a1_3] 40 (0, 0)) (by (with_reducible repeat (first | refine blk_drewN ?_ _ | refine blk_drew ?_ | refine blk_alloc ?_ _)); exact BK223.out)) : gb223 ≠ gb224)); have n9_ := Aside0.mk ((by rw [hg]; exact Nat.ne_of_gt (blk_lt (g := gb223) (o := .cells #[.int .u32 a1_0, .int .u32 a1_1, .slice A1_2 l1_2.length c1_2, .int .u32 a1_3] 40 (0, 0)) (by (with_reducible repeat (first | refine blk_drewN ?_ _ | refine blk_drew ?_ | refine blk_alloc ?_ _)); exact BK223.out)) : gb224 ≠ gb223)); clear BK222; clear BK223; clear HB; have BK222 := n0_; have BK223 := n1_; have HB := n2_; have BK224 := n3_; have GW224 := n4_; have GE224 := n5_; have NB222_224 := n6_; have NB224_222 := n7_; have NB223_224 := n8_; have NB224_223 := n9_; clear n0_ n1_ n2_ n3_ n4_ n5_ n6_ n7_ n8_ n9_; clear hb hbox hg; have hnb10 := NB222_223.out; have hnc10 := NB223_222.out; have hnb11 := NB222_224.out; have hnc11 := NB224_222.out; have hcz12_0 : w9.cell? ⟨gb222, 0, none⟩ = some (.slice A0_0 l0_0.length c0_0) := (blk_cell BK222.out 0).trans rfl; have hcz12_1 : w9.cell? ⟨gb222, 1, none⟩ = some (.int .u32 a0_1) := (blk_cell BK222.out 1).trans rfl; have hfz12_0 := blk_frozen BK222.out 0; have hfz12_1 := blk_frozen BK222.out 1) | ((with_reducible refine gate_callee (f := 14) rfl ?_); refine goesL_ (some 13) rfl rfl Try.func14 (by kernel_rfl) rfl #[.agg #[.slice A0_0 l0_0.length c0_0, .int .u32 a0_1]] rfl (by (try simp only [List.map_toArray, List.map_cons, List.map_nil]); first | done | rfl | (simp only [List.length_drop, List.length_take]; rfl)) ?_; (with_reducible refine (hurdlelaw10_Great.calls _ _ l0_0 a0_1 true _ ?side1 ?side2 A4.out).mono ?_); (case side1 => repeat (first | exact (Kd.C_below HR0_0.out HB.out) | (with_reducible refine Kd.C_alloc ?_ _) | (with_reducible refine Kd.C_drewN ?_ _) | (with_reducible refine Kd.C_drew ?_))); (case side2 => exact HC0_0.out); rintro e w13 ⟨rfl, hb⟩; refine ⟨_, rfl, ?_⟩; have n0_ := Aside0.mk (blk_below (g := gb222) (o := .cells #[.slice A0_0 l0_0.length c0_0, .int .u32 a0_1] 25 (0, 0)) (by (with_reducible repeat (first | refine blk_drewN ?_ _ | refine blk_drew ?_ | refine blk_alloc ?_ _)); exact BK222.out) hb); have n1_ := Aside0.mk (blk_below (g := gb223) (o := .cells #[.int .u32 a1_0, .int .u32 a1_1, .slice A1_2 l1_2.length c1_2, .int .u32 a1_3] 40 (0, 0)) (by (with_reducible repeat (first | refine blk_drewN ?_ _ | refine blk_drew ?_ | refine blk_alloc ?_ _)); exact BK223.out) hb); have n2_ := Aside0.mk (blk_below (g := gb224) (o := .cells #[.int .u32 a2_0, .int .u32 a2_1, .int .u64 a2_2, .int .u64 a2_3, .int .u64 a2_4, .int .u64 a2_5, .int .u64 a2_6, .int .u64 a2_7, .int .u64 a2_8] 44 (0, 0)) (by (with_reducible repeat (first | refine blk_drewN ?_ _ | refine blk_drew ?_ | refine blk_alloc ?_ _)); exact BK224.out) hb); have n3_ := Aside0.mk (below_step (by repeat (first | (with_reducible first | exact HB.out | apply below_alloc | apply pw_below_drewN | apply below_drew1 | refine below_set ?_ GE222.out | refine below_set ?_ GE223.out | refine below_set ?_ GE224.out) | exact HB.out)) hb); clear BK222; clear BK223; clear BK224; clear HB; have BK222 := n0_; have BK223 := n1_; have BK224 := n2_; have HB := n3_; clear n0_ n1_ n2_ n3_; (try clear hb); (try clear hb2); (try clear hk); (try clear hi)) | ((with_reducible refine gate_callee (f := 23) rfl ?_); refine goesL_ (some 14) rfl rfl Try.func23 (by kernel_rfl) rfl #[] rfl (by (try simp only [List.map_toArray, List.map_cons, List.map_nil]); first | done | rfl | (simp only [List.length_drop, List.length_take]; rfl)) ?_; (with_reducible refine (hurdlelaw11_knows.calls  t226 _ A6.out).mono ?_); rintro e w14 ⟨rfl, hb⟩; refine ⟨_, rfl, ?_⟩; have n0_ := Aside0.mk (blk_below (g := gb222) (o := .cells #[.slice A0_0 l0_0.length c0_0, .int .u32 a0_1] 25 (0, 0)) (by (with_reducible repeat (first | refine blk_drewN ?_ _ | refine blk_drew ?_ | refine blk_alloc ?_ _)); exact BK222.out) hb); have n1_ := Aside0.mk (blk_below (g := gb223) (o := .cells #[.int .u32 a1_0, .int .u32 a1_1, .slice A1_2 l1_2.length c1_2, .int .u32 a1_3] 40 (0, 0)) (by (with_reducible repeat (first | refine blk_drewN ?_ _ | refine blk_drew ?_ | refine blk_alloc ?_ _)); exact BK223.out) hb); have n2_ := Aside0.mk (blk_below (g := gb224) (o := .cells #[.int .u32 a2_0, .int .u32 a2_1, .int .u64 a2_2, .int .u64 a2_3, .int .u64 a2_4, .int .u64 a2_5, .int .u64 a2_6, .int .u64 a2_7, .int .u64 a2_8] 44 (0, 0)) (by (with_reducible repeat (first | refine blk_drewN ?_ _ | refine blk_drew ?_ | refine blk_alloc ?_ _)); exact BK224.out) hb); have n3_ := Aside0.mk (below_step (by repeat (first | (with_reducible first | exact HB.out | apply below_alloc | apply pw_below_drewN | apply below_drew1 | refine below_set ?_ GE222.out | refine below_set ?_ GE223.out | refine below_set ?_ GE224.out) | exact HB.out)) hb); clear BK222; clear BK223; clear BK224; clear HB; have BK222 := n0_; have BK223 := n1_; have BK224 := n2_; have HB := n3_; clear n0_ n1_ n2_ n3_; (try clear hb); (try clear hb2); (try clear hk); (try clear hi)))
    go_ret
    exact ⟨by first | rfl | (simp [errW_none, errW_some] <;> rfl) | (simp [*, errW_none, errW_some] <;> rfl), by repeat (first | (with_reducible first | exact HB.out | apply below_alloc | apply pw_below_drewN | apply below_drew1 | refine below_set ?_ GE222.out | refine below_set ?_ GE223.out | refine below_set ?_ GE224.out) | exact HB.out)⟩
  · replace c5 := Bool.eq_false_iff.mpr c5
    subst c5
    have H1 : ((hurdlelaw11_put.f l0_0 a0_1 (l0_0.length : Int) a1_0 a1_1 l1_2 a0_1).bind fun bt227 => ((hurdleref10_Right.f l0_0 a0_1).bind fun t232 => (if t232 = true then ((hurdleref10_Right.f bt227.1 bt227.2).bind fun t233 => (hurdlelaw11_DenoteLast.j0 k (!t233) l0_0 a0_1 a2_0 a2_1 a2_2 a2_3 a2_4 a2_5 a2_6 a2_7 a2_8 bt227.1 bt227.2)) else (hurdlelaw11_DenoteLast.j0 k true l0_0 a0_1 a2_0 a2_1 a2_2 a2_3 a2_4 a2_5 a2_6 a2_7 a2_8 bt227.1 bt227.2)))) = some r := by rw [if_neg (show ¬ (false = true) by decide)] at H; exact H
    clear H
    have H := H1
    clear H1
    replace H := Option.bind_eq_some_iff.mp H
    obtain ⟨⟨t227, t230⟩, A150, H⟩ := H
    replace H : ((hurdleref10_Right.f l0_0 a0_1).bind fun t232 => (if t232 = true then ((hurdleref10_Right.f t227 t230).bind fun t233 => (hurdlelaw11_DenoteLast.j0 k (!t233) l0_0 a0_1 a2_0 a2_1 a2_2 a2_3 a2_4 a2_5 a2_6 a2_7 a2_8 t227 t230)) else (hurdlelaw11_DenoteLast.j0 k true l0_0 a0_1 a2_0 a2_1 a2_2 a2_3 a2_4 a2_5 a2_6 a2_7 a2_8 t227 t230))) = some r := H
    have A15 := Aside0.mk A150
    clear A150
    have HC16 := Aside0.mk H
    clear H
    go_enter Try.func13, Try.ntmps13
    go_upto_region 5 with (first | ((with_reducible refine gate_dst (N := 3) rfl ?_); refine box_event ?hg (N := 3) ?hd (cs := #[.slice A0_0 l0_0.length c0_0, .int .u32 a0_1]) (t := 25) ?hr ?_; (case hd => rfl); (case hg => rfl); (case hr => first | (go_simp; done) | (go_simp; rfl)); intro gb222 hg w17 hbox hb; have n0_ := Aside0.mk (below_step (by repeat (first | (with_reducible first | exact HB.out | apply below_alloc | apply pw_below_drewN | apply below_drew1) | exact HB.out)) hb); have n1_ := Aside0.mk (hbox); have n2_ := Aside0.mk ((by rw [hg]; exact (below_size (by repeat (first | (with_reducible first | exact HB.out | apply below_alloc | apply pw_below_drewN | apply below_drew1) | exact HB.out))) : w.heap.size ≤ gb222)); have n3_ := Aside0.mk ((by rw [hg]; exact (below_size (by repeat (first | (with_reducible first | exact HB.out | apply below_alloc | apply pw_below_drewN | apply below_drew1) | exact HB.out))) : w.heap.size ≤ gb222)); clear HB; have HB := n0_; have BK222 := n1_; have GW222 := n2_; have GE222 := n3_; clear n0_ n1_ n2_ n3_; clear hb hbox hg) | ((with_reducible refine gate_dst (N := 4) rfl ?_); refine box_event ?hg (N := 4) ?hd (cs := #[.int .u32 a1_0, .int .u32 a1_1, .slice A1_2 l1_2.length c1_2, .int .u32 a1_3]) (t := 40) ?hr ?_; (case hd => rfl); (case hg => rfl); (case hr => first | (go_simp; done) | (go_simp; rfl)); intro gb223 hg w18 hbox hb; have n0_ := Aside0.mk (blk_below (g := gb222) (o := .cells #[.slice A0_0 l0_0.length c0_0, .int .u32 a0_1] 25 (0, 0)) (by (with_reducible repeat (first | refine blk_drewN ?_ _ | refine blk_drew ?_ | refine blk_alloc ?_ _)); exact BK222.out) hb); have n1_ := Aside0.mk (below_step (by repeat (first | (with_reducible first | exact HB.out | apply below_alloc | apply pw_below_drewN | apply below_drew1 | refine below_set ?_ GE222.out) | exact HB.out)) hb); have n2_ := Aside0.mk (hbox); have n3_ := Aside0.mk ((by rw [hg]; exact (below_size (by repeat (first | (with_reducible first | exact HB.out | apply below_alloc | apply pw_below_drewN | apply below_drew1 | refine below_set ?_ GE222.out) | exact HB.out))) : w.heap.size ≤ gb223)); have n4_ := Aside0.mk ((by rw [hg]; exact (below_size (by repeat (first | (with_reducible first | exact HB.out | apply below_alloc | apply pw_below_drewN | apply below_drew1 | refine below_set ?_ GE222.out) | exact HB.out))) : w.heap.size ≤ gb223)); have n5_ := Aside0.mk ((by rw [hg]; exact Nat.ne_of_lt (blk_lt (g := gb222) (o := .cells #[.slice A0_0 l0_0.length c0_0, .int .u32 a0_1] 25 (0, 0)) (by (with_reducible repeat (first | refine blk_drewN ?_ _ | refine blk_drew ?_ | refine blk_alloc ?_ _)); exact BK222.out)) : gb222 ≠ gb223)); have n6_ := Aside0.mk ((by rw [hg]; exact Nat.ne_of_gt (blk_lt (g := gb222) (o := .cells #[.slice A0_0 l0_0.length c0_0, .int .u32 a0_1] 25 (0, 0)) (by (with_reducible repeat (first | refine blk_drewN ?_ _ | refine blk_drew ?_ | refine blk_alloc ?_ _)); exact BK222.out)) : gb223 ≠ gb222)); clear BK222; clear HB; have BK222 := n0_; have HB := n1_; have BK223 := n2_; have GW223 := n3_; have GE223 := n4_; have NB222_223 := n5_; have NB223_222 := n6_; clear n0_ n1_ n2_ n3_ n4_ n5_ n6_; clear hb hbox hg) | ((with_reducible refine gate_dst (N := 5) rfl ?_); refine box_event ?hg (N := 5) ?hd (cs := #[.int .u32 a2_0, .int .u32 a2_1, .int .u64 a2_2, .int .u64 a2_3, .int .u64 a2_4, .int .u64 a2_5, .int .u64 a2_6, .int .u64 a2_7, .int .u64 a2_8]) (t := 44) ?hr ?_; (case hd => rfl); (case hg => rfl); (case hr => first | (go_simp; done) | (go_simp; rfl)); intro gb224 hg w19 hbox hb; have n0_ := Aside0.mk (blk_below (g := gb222) (o := .cells #[.slice A0_0 l0_0.length c0_0, .int .u32 a0_1] 25 (0, 0)) (by (with_reducible repeat (first | refine blk_drewN ?_ _ | refine blk_drew ?_ | refine blk_alloc ?_ _)); exact BK222.out) hb); have n1_ := Aside0.mk (blk_below (g := gb223) (o := .cells #[.int .u32 a1_0, .int .u32 a1_1, .slice A1_2 l1_2.length c1_2, .int .u32 a1_3] 40 (0, 0)) (by (with_reducible repeat (first | refine blk_drewN ?_ _ | refine blk_drew ?_ | refine blk_alloc ?_ _)); exact BK223.out) hb); have n2_ := Aside0.mk (below_step (by repeat (first | (with_reducible first | exact HB.out | apply below_alloc | apply pw_below_drewN | apply below_drew1 | refine below_set ?_ GE222.out | refine below_set ?_ GE223.out) | exact HB.out)) hb); have n3_ := Aside0.mk (hbox); have n4_ := Aside0.mk ((by rw [hg]; exact (below_size (by repeat (first | (with_reducible first | exact HB.out | apply below_alloc | apply pw_below_drewN | apply below_drew1 | refine below_set ?_ GE222.out | refine below_set ?_ GE223.out) | exact HB.out))) : w.heap.size ≤ gb224)); have n5_ := Aside0.mk ((by rw [hg]; exact (below_size (by repeat (first | (with_reducible first | exact HB.out | apply below_alloc | apply pw_below_drewN | apply below_drew1 | refine below_set ?_ GE222.out | refine below_set ?_ GE223.out) | exact HB.out))) : w.heap.size ≤ gb224)); have n6_ := Aside0.mk ((by rw [hg]; exact Nat.ne_of_lt (blk_lt (g := gb222) (o := .cells #[.slice A0_0 l0_0.length c0_0, .int .u32 a0_1] 25 (0, 0)) (by (with_reducible repeat (first | refine blk_drewN ?_ _ | refine blk_drew ?_ | refine blk_alloc ?_ _)); exact BK222.out)) : gb222 ≠ gb224)); have n7_ := Aside0.mk ((by rw [hg]; exact Nat.ne_of_gt (blk_lt (g := gb222) (o := .cells #[.slice A0_0 l0_0.length c0_0, .int .u32 a0_1] 25 (0, 0)) (by (with_reducible repeat (first | refine blk_drewN ?_ _ | refine blk_drew ?_ | refine blk_alloc ?_ _)); exact BK222.out)) : gb224 ≠ gb222)); have n8_ := Aside0.mk ((by rw [hg]; exact Nat.ne_of_lt (blk_lt (g := gb223) (o := .cells #[.int .u32 a1_0, .int .u32 a1_1, .slice A1_2 l1_2.length c1_2, .int .u32 a1_3] 40 (0, 0)) (by (with_reducible repeat (first | refine blk_drewN ?_ _ | refine blk_drew ?_ | refine blk_alloc ?_ _)); exact BK223.out)) : gb223 ≠ gb224)); have n9_ := Aside0.mk ((by rw [hg]; exact Nat.ne_of_gt (blk_lt (g := gb223) (o := .cells #[.int .u32 a1_0, .int .u32 a1_1, .slice A1_2 l1_2.length c1_2, .int .u32 a1_3] 40 (0, 0)) (by (with_reducible repeat (first | refine blk_drewN ?_ _ | refine blk_drew ?_ | refine blk_alloc ?_ _)); exact BK223.out)) : gb224 ≠ gb223)); clear BK222; clear BK223; clear HB; have BK222 := n0_; have BK223 := n1_; have HB := n2_; have BK224 := n3_; have GW224 := n4_; have GE224 := n5_; have NB222_224 := n6_; have NB224_222 := n7_; have NB223_224 := n8_; have NB224_223 := n9_; clear n0_ n1_ n2_ n3_ n4_ n5_ n6_ n7_ n8_ n9_; clear hb hbox hg; have hnb20 := NB222_223.out; have hnc20 := NB223_222.out; have hnb21 := NB222_224.out; have hnc21 := NB224_222.out; have hcz22_0 : w19.cell? ⟨gb222, 0, none⟩ = some (.slice A0_0 l0_0.length c0_0) := (blk_cell BK222.out 0).trans rfl; have hcz22_1 : w19.cell? ⟨gb222, 1, none⟩ = some (.int .u32 a0_1) := (blk_cell BK222.out 1).trans rfl; have hfz22_0 := blk_frozen BK222.out 0; have hfz22_1 := blk_frozen BK222.out 1) | ((with_reducible refine gate_callee (f := 14) rfl ?_); refine goesL_ (some 13) rfl rfl Try.func14 (by kernel_rfl) rfl #[.agg #[.slice A0_0 l0_0.length c0_0, .int .u32 a0_1]] rfl (by (try simp only [List.map_toArray, List.map_cons, List.map_nil]); first | done | rfl | (simp only [List.length_drop, List.length_take]; rfl)) ?_; (with_reducible refine (hurdlelaw10_Great.calls _ _ l0_0 a0_1 false _ ?side1 ?side2 A4.out).mono ?_); (case side1 => repeat (first | exact (Kd.C_below HR0_0.out HB.out) | (with_reducible refine Kd.C_alloc ?_ _) | (with_reducible refine Kd.C_drewN ?_ _) | (with_reducible refine Kd.C_drew ?_))); (case side2 => exact HC0_0.out); rintro e w23 ⟨rfl, hb⟩; refine ⟨_, rfl, ?_⟩; have n0_ := Aside0.mk (blk_below (g := gb222) (o := .cells #[.slice A0_0 l0_0.length c0_0, .int .u32 a0_1] 25 (0, 0)) (by (with_reducible repeat (first | refine blk_drewN ?_ _ | refine blk_drew ?_ | refine blk_alloc ?_ _)); exact BK222.out) hb); have n1_ := Aside0.mk (blk_below (g := gb223) (o := .cells #[.int .u32 a1_0, .int .u32 a1_1, .slice A1_2 l1_2.length c1_2, .int .u32 a1_3] 40 (0, 0)) (by (with_reducible repeat (first | refine blk_drewN ?_ _ | refine blk_drew ?_ | refine blk_alloc ?_ _)); exact BK223.out) hb); have n2_ := Aside0.mk (blk_below (g := gb224) (o := .cells #[.int .u32 a2_0, .int .u32 a2_1, .int .u64 a2_2, .int .u64 a2_3, .int .u64 a2_4, .int .u64 a2_5, .int .u64 a2_6, .int .u64 a2_7, .int .u64 a2_8] 44 (0, 0)) (by (with_reducible repeat (first | refine blk_drewN ?_ _ | refine blk_drew ?_ | refine blk_alloc ?_ _)); exact BK224.out) hb); have n3_ := Aside0.mk (below_step (by repeat (first | (with_reducible first | exact HB.out | apply below_alloc | apply pw_below_drewN | apply below_drew1 | refine below_set ?_ GE222.out | refine below_set ?_ GE223.out | refine below_set ?_ GE224.out) | exact HB.out)) hb); clear BK222; clear BK223; clear BK224; clear HB; have BK222 := n0_; have BK223 := n1_; have BK224 := n2_; have HB := n3_; clear n0_ n1_ n2_ n3_; (try clear hb); (try clear hb2); (try clear hk); (try clear hi); have hcz24_0 : w23.cell? ⟨gb222, 0, none⟩ = some (.slice A0_0 l0_0.length c0_0) := (blk_cell BK222.out 0).trans rfl; have hcz24_1 : w23.cell? ⟨gb222, 1, none⟩ = some (.int .u32 a0_1) := (blk_cell BK222.out 1).trans rfl; have hfz24_0 := blk_frozen BK222.out 0; have hfz24_1 := blk_frozen BK222.out 1; have hnb25 := NB223_224.out; have hnc25 := NB224_223.out; have hcz26_0 : w23.cell? ⟨gb223, 0, none⟩ = some (.int .u32 a1_0) := (blk_cell BK223.out 0).trans rfl; have hcz26_1 : w23.cell? ⟨gb223, 1, none⟩ = some (.int .u32 a1_1) := (blk_cell BK223.out 1).trans rfl; have hcz26_2 : w23.cell? ⟨gb223, 2, none⟩ = some (.slice A1_2 l1_2.length c1_2) := (blk_cell BK223.out 2).trans rfl; have hcz26_3 : w23.cell? ⟨gb223, 3, none⟩ = some (.int .u32 a1_3) := (blk_cell BK223.out 3).trans rfl; have hfz26_0 := blk_frozen BK223.out 0; have hfz26_1 := blk_frozen BK223.out 1; have hfz26_2 := blk_frozen BK223.out 2; have hfz26_3 := blk_frozen BK223.out 3) | ((with_reducible refine gate_store (t := 23) (p := 17) rfl ?_); refine store_event (t := 23) (p := 17) (v := ?vo_w27) (w1 := (w23.setCell ⟨gb223, 3, none⟩ (.int .u32 a0_1))) ?hg ?ho ?hn ?hr ?_; (case ho => rfl); (case hg => rfl); (case hn => rfl); (case hr => first | (go_simp; done) | (go_simp; rfl)); intro w27 hw; have n0_ : Aside0 (w27.heap[gb222]? = some (.cells #[.slice A0_0 l0_0.length c0_0, .int .u32 a0_1] 25 (0, 0))) := ⟨(by rw [hw]; exact (by (with_reducible repeat (first | refine blk_drewN ?_ _ | refine blk_drew ?_ | refine blk_alloc ?_ _)); refine blk_far ?_ NB222_223.out _; (with_reducible repeat (first | refine blk_drewN ?_ _ | refine blk_drew ?_ | refine blk_alloc ?_ _)); exact BK222.out))⟩; have n1_ : Aside0 (w27.heap[gb223]? = some (.cells #[.int .u32 a1_0, .int .u32 a1_1, .slice A1_2 l1_2.length c1_2, .int .u32 a0_1] 40 (0, 0))) := ⟨(by rw [hw]; exact (by (with_reducible repeat (first | refine blk_drewN ?_ _ | refine blk_drew ?_ | refine blk_alloc ?_ _)); refine blk_put (cs := #[.int .u32 a1_0, .int .u32 a1_1, .slice A1_2 l1_2.length c1_2, .int .u32 a1_3]) ?_ 3 _ rfl; (with_reducible repeat (first | refine blk_drewN ?_ _ | refine blk_drew ?_ | refine blk_alloc ?_ _)); exact BK223.out))⟩; have n2_ : Aside0 (w27.heap[gb224]? = some (.cells #[.int .u32 a2_0, .int .u32 a2_1, .int .u64 a2_2, .int .u64 a2_3, .int .u64 a2_4, .int .u64 a2_5, .int .u64 a2_6, .int .u64 a2_7, .int .u64 a2_8] 44 (0, 0))) := ⟨(by rw [hw]; exact (by (with_reducible repeat (first | refine blk_drewN ?_ _ | refine blk_drew ?_ | refine blk_alloc ?_ _)); refine blk_far ?_ NB224_223.out _; (with_reducible repeat (first | refine blk_drewN ?_ _ | refine blk_drew ?_ | refine blk_alloc ?_ _)); exact BK224.out))⟩; have n3_ : Aside0 (Below w.heap.size w w27) := ⟨(by rw [hw]; exact (by repeat (first | (with_reducible first | exact HB.out | apply below_alloc | apply pw_below_drewN | apply below_drew1 | refine below_set ?_ GE222.out | refine below_set ?_ GE223.out | refine below_set ?_ GE224.out) | exact HB.out)))⟩; clear hw; clear BK222; clear BK223; clear BK224; clear HB; have BK222 := n0_; have BK223 := n1_; have BK224 := n2_; have HB := n3_; clear n0_ n1_ n2_ n3_; have hcz28_0 : w27.cell? ⟨gb222, 0, none⟩ = some (.slice A0_0 l0_0.length c0_0) := (blk_cell BK222.out 0).trans rfl; have hcz28_1 : w27.cell? ⟨gb222, 1, none⟩ = some (.int .u32 a0_1) := (blk_cell BK222.out 1).trans rfl; have hfz28_0 := blk_frozen BK222.out 0; have hfz28_1 := blk_frozen BK222.out 1; have hcz29_0 : w27.cell? ⟨gb223, 0, none⟩ = some (.int .u32 a1_0) := (blk_cell BK223.out 0).trans rfl; have hcz29_1 : w27.cell? ⟨gb223, 1, none⟩ = some (.int .u32 a1_1) := (blk_cell BK223.out 1).trans rfl; have hcz29_2 : w27.cell? ⟨gb223, 2, none⟩ = some (.slice A1_2 l1_2.length c1_2) := (blk_cell BK223.out 2).trans rfl; have hcz29_3 : w27.cell? ⟨gb223, 3, none⟩ = some (.int .u32 a0_1) := (blk_cell BK223.out 3).trans rfl; have hfz29_0 := blk_frozen BK223.out 0; have hfz29_1 := blk_frozen BK223.out 1; have hfz29_2 := blk_frozen BK223.out 2; have hfz29_3 := blk_frozen BK223.out 3) | ((with_reducible refine gate_callee (f := 30) rfl ?_); refine goesL_ (some 23) rfl rfl Try.func30 (by kernel_rfl) rfl #[.agg #[.slice A0_0 l0_0.length c0_0, .int .u32 a0_1], .int .i64 (l0_0.length : Int), .agg #[.int .u32 a1_0, .int .u32 a1_1, .slice A1_2 l1_2.length c1_2, .int .u32 a0_1]] rfl (by (try simp only [List.map_toArray, List.map_cons, List.map_nil]); first | done | rfl | (simp only [List.length_drop, List.length_take]; rfl)) ?_; (with_reducible refine (hurdlelaw11_put.calls (fun k_ => k_ < w.heap.size) _ _ l0_0 a0_1 (l0_0.length : Int) a1_0 a1_1 (fun k_ => k_ < w.heap.size) _ _ l1_2 a0_1 t227 t230 _ ?side1 ?side2 A15.out).mono ?_); (case side1 => exact Kd.V_mk HC0_0.out (Kd.F_below (Kd.C_F k40_heap HR0_0.out) (by repeat (first | (with_reducible first | exact HB.out | apply below_alloc | apply pw_below_drewN | apply below_drew1 | refine below_set ?_ GE222.out | refine below_set ?_ GE223.out | refine below_set ?_ GE224.out) | exact HB.out)))); (case side2 => exact Kd.V_mk HC1_2.out (Kd.F_below (Kd.C_F k61_heap HR1_2.out) (by repeat (first | (with_reducible first | exact HB.out | apply below_alloc | apply pw_below_drewN | apply below_drew1 | refine below_set ?_ GE222.out | refine below_set ?_ GE223.out | refine below_set ?_ GE224.out) | exact HB.out)))); rintro e w30 ⟨v228, rfl, ho0, hb⟩; refine ⟨_, rfl, ?_⟩; have n0_ := Aside0.mk (Kd.N_lower (Kd.N_mono (ok' := fun k_ => k_ ≠ gb222 ∧ k_ ≠ gb223 ∧ k_ ≠ gb224) ho0 (fun k_ hk_ => ⟨Or.elim hk_ (fun hs_ => Or.elim hs_ (fun hs_ => fun e_ => Nat.not_le.2 hs_ (by rw [e_]; exact GW222.out)) (fun hs_ => fun e_ => Nat.not_le.2 hs_ (by rw [e_]; exact GW222.out))) (fun hn_ => (Kd.freshB (g := gb222) (o := .cells #[.slice A0_0 l0_0.length c0_0, .int .u32 a0_1] 25 (0, 0)) (by (with_reducible repeat (first | refine blk_drewN ?_ _ | refine blk_drew ?_ | refine blk_alloc ?_ _)); exact BK222.out) k_ hn_)), Or.elim hk_ (fun hs_ => Or.elim hs_ (fun hs_ => fun e_ => Nat.not_le.2 hs_ (by rw [e_]; exact GW223.out)) (fun hs_ => fun e_ => Nat.not_le.2 hs_ (by rw [e_]; exact GW223.out))) (fun hn_ => (Kd.freshB (g := gb223) (o := .cells #[.int .u32 a1_0, .int .u32 a1_1, .slice A1_2 l1_2.length c1_2, .int .u32 a0_1] 40 (0, 0)) (by (with_reducible repeat (first | refine blk_drewN ?_ _ | refine blk_drew ?_ | refine blk_alloc ?_ _)); exact BK223.out) k_ hn_)), Or.elim hk_ (fun hs_ => Or.elim hs_ (fun hs_ => fun e_ => Nat.not_le.2 hs_ (by rw [e_]; exact GW224.out)) (fun hs_ => fun e_ => Nat.not_le.2 hs_ (by rw [e_]; exact GW224.out))) (fun hn_ => (Kd.freshB (g := gb224) (o := .cells #[.int .u32 a2_0, .int .u32 a2_1, .int .u64 a2_2, .int .u64 a2_3, .int .u64 a2_4, .int .u64 a2_5, .int .u64 a2_6, .int .u64 a2_7, .int .u64 a2_8] 44 (0, 0)) (by (with_reducible repeat (first | refine blk_drewN ?_ _ | refine blk_drew ?_ | refine blk_alloc ?_ _)); exact BK224.out) k_ hn_))⟩)) (below_size (by repeat (first | (with_reducible first | exact HB.out | apply below_alloc | apply pw_below_drewN | apply below_drew1 | refine below_set ?_ GE222.out | refine below_set ?_ GE223.out | refine below_set ?_ GE224.out) | exact HB.out)))); have n1_ := Aside0.mk (blk_below (g := gb222) (o := .cells #[.slice A0_0 l0_0.length c0_0, .int .u32 a0_1] 25 (0, 0)) (by (with_reducible repeat (first | refine blk_drewN ?_ _ | refine blk_drew ?_ | refine blk_alloc ?_ _)); exact BK222.out) hb); have n2_ := Aside0.mk (blk_below (g := gb223) (o := .cells #[.int .u32 a1_0, .int .u32 a1_1, .slice A1_2 l1_2.length c1_2, .int .u32 a0_1] 40 (0, 0)) (by (with_reducible repeat (first | refine blk_drewN ?_ _ | refine blk_drew ?_ | refine blk_alloc ?_ _)); exact BK223.out) hb); have n3_ := Aside0.mk (blk_below (g := gb224) (o := .cells #[.int .u32 a2_0, .int .u32 a2_1, .int .u64 a2_2, .int .u64 a2_3, .int .u64 a2_4, .int .u64 a2_5, .int .u64 a2_6, .int .u64 a2_7, .int .u64 a2_8] 44 (0, 0)) (by (with_reducible repeat (first | refine blk_drewN ?_ _ | refine blk_drew ?_ | refine blk_alloc ?_ _)); exact BK224.out) hb); have n4_ := Aside0.mk (below_step (by repeat (first | (with_reducible first | exact HB.out | apply below_alloc | apply pw_below_drewN | apply below_drew1 | refine below_set ?_ GE222.out | refine below_set ?_ GE223.out | refine below_set ?_ GE224.out) | exact HB.out)) hb); clear BK222; clear BK223; clear BK224; clear HB; have HO229 := n0_; have BK222 := n1_; have BK223 := n2_; have BK224 := n3_; have HB := n4_; clear n0_ n1_ n2_ n3_ n4_; (try clear hb); (try clear hb2); (try clear hk); (try clear hi); (try clear ho0)) | ((with_reducible refine gate_dst (N := 7) rfl ?_); refine box_event ?hg (N := 7) ?hd (cs := #[.slice none 0 0, .int .u32 0]) (t := 25) ?hr ?_; (case hd => rfl); (case hg => rfl); (case hr => first | (go_simp; done) | (go_simp; rfl)); intro gb231 hg w31 hbox hb; have n0_ := Aside0.mk (Kd.N_below (Kd.N_elderB (by (with_reducible repeat (first | apply Kd.N_alloc | apply Kd.N_drewN | apply Kd.N_drew)); exact HO229.out) gb231 (Nat.le_of_eq hg.symm)) hb); have n1_ := Aside0.mk (blk_below (g := gb222) (o := .cells #[.slice A0_0 l0_0.length c0_0, .int .u32 a0_1] 25 (0, 0)) (by (with_reducible repeat (first | refine blk_drewN ?_ _ | refine blk_drew ?_ | refine blk_alloc ?_ _)); exact BK222.out) hb); have n2_ := Aside0.mk (blk_below (g := gb223) (o := .cells #[.int .u32 a1_0, .int .u32 a1_1, .slice A1_2 l1_2.length c1_2, .int .u32 a0_1] 40 (0, 0)) (by (with_reducible repeat (first | refine blk_drewN ?_ _ | refine blk_drew ?_ | refine blk_alloc ?_ _)); exact BK223.out) hb); have n3_ := Aside0.mk (blk_below (g := gb224) (o := .cells #[.int .u32 a2_0, .int .u32 a2_1, .int .u64 a2_2, .int .u64 a2_3, .int .u64 a2_4, .int .u64 a2_5, .int .u64 a2_6, .int .u64 a2_7, .int .u64 a2_8] 44 (0, 0)) (by (with_reducible repeat (first | refine blk_drewN ?_ _ | refine blk_drew ?_ | refine blk_alloc ?_ _)); exact BK224.out) hb); have n4_ := Aside0.mk (below_step (by repeat (first | (with_reducible first | exact HB.out | apply below_alloc | apply pw_below_drewN | apply below_drew1 | refine below_set ?_ GE222.out | refine below_set ?_ GE223.out | refine below_set ?_ GE224.out) | exact HB.out)) hb); have n5_ := Aside0.mk (hbox); have n6_ := Aside0.mk ((by rw [hg]; exact (below_size (by repeat (first | (with_reducible first | exact HB.out | apply below_alloc | apply pw_below_drewN | apply below_drew1 | refine below_set ?_ GE222.out | refine below_set ?_ GE223.out | refine below_set ?_ GE224.out) | exact HB.out))) : w.heap.size ≤ gb231)); have n7_ := Aside0.mk ((by rw [hg]; exact (below_size (by repeat (first | (with_reducible first | exact HB.out | apply below_alloc | apply pw_below_drewN | apply below_drew1 | refine below_set ?_ GE222.out | refine below_set ?_ GE223.out | refine below_set ?_ GE224.out) | exact HB.out))) : w.heap.size ≤ gb231)); have n8_ := Aside0.mk ((by rw [hg]; exact Nat.ne_of_lt (blk_lt (g := gb222) (o := .cells #[.slice A0_0 l0_0.length c0_0, .int .u32 a0_1] 25 (0, 0)) (by (with_reducible repeat (first | refine blk_drewN ?_ _ | refine blk_drew ?_ | refine blk_alloc ?_ _)); exact BK222.out)) : gb222 ≠ gb231)); have n9_ := Aside0.mk ((by rw [hg]; exact Nat.ne_of_gt (blk_lt (g := gb222) (o := .cells #[.slice A0_0 l0_0.length c0_0, .int .u32 a0_1] 25 (0, 0)) (by (with_reducible repeat (first | refine blk_drewN ?_ _ | refine blk_drew ?_ | refine blk_alloc ?_ _)); exact BK222.out)) : gb231 ≠ gb222)); have n10_ := Aside0.mk ((by rw [hg]; exact Nat.ne_of_lt (blk_lt (g := gb223) (o := .cells #[.int .u32 a1_0, .int .u32 a1_1, .slice A1_2 l1_2.length c1_2, .int .u32 a0_1] 40 (0, 0)) (by (with_reducible repeat (first | refine blk_drewN ?_ _ | refine blk_drew ?_ | refine blk_alloc ?_ _)); exact BK223.out)) : gb223 ≠ gb231)); have n11_ := Aside0.mk ((by rw [hg]; exact Nat.ne_of_gt (blk_lt (g := gb223) (o := .cells #[.int .u32 a1_0, .int .u32 a1_1, .slice A1_2 l1_2.length c1_2, .int .u32 a0_1] 40 (0, 0)) (by (with_reducible repeat (first | refine blk_drewN ?_ _ | refine blk_drew ?_ | refine blk_alloc ?_ _)); exact BK223.out)) : gb231 ≠ gb223)); have n12_ := Aside0.mk ((by rw [hg]; exact Nat.ne_of_lt (blk_lt (g := gb224) (o := .cells #[.int .u32 a2_0, .int .u32 a2_1, .int .u64 a2_2, .int .u64 a2_3, .int .u64 a2_4, .int .u64 a2_5, .int .u64 a2_6, .int .u64 a2_7, .int .u64 a2_8] 44 (0, 0)) (by (with_reducible repeat (first | refine blk_drewN ?_ _ | refine blk_drew ?_ | refine blk_alloc ?_ _)); exact BK224.out)) : gb224 ≠ gb231)); have n13_ := Aside0.mk ((by rw [hg]; exact Nat.ne_of_gt (blk_lt (g := gb224) (o := .cells #[.int .u32 a2_0, .int .u32 a2_1, .int .u64 a2_2, .int .u64 a2_3, .int .u64 a2_4, .int .u64 a2_5, .int .u64 a2_6, .int .u64 a2_7, .int .u64 a2_8] 44 (0, 0)) (by (with_reducible repeat (first | refine blk_drewN ?_ _ | refine blk_drew ?_ | refine blk_alloc ?_ _)); exact BK224.out)) : gb231 ≠ gb224)); clear HO229; clear BK222; clear BK223; clear BK224; clear HB; have HO229 := n0_; have BK222 := n1_; have BK223 := n2_; have BK224 := n3_; have HB := n4_; have BK231 := n5_; have GW231 := n6_; have GE231 := n7_; have NB222_231 := n8_; have NB231_222 := n9_; have NB223_231 := n10_; have NB231_223 := n11_; have NB224_231 := n12_; have NB231_224 := n13_; clear n0_ n1_ n2_ n3_ n4_ n5_ n6_ n7_ n8_ n9_ n10_ n11_ n12_ n13_; clear hb hbox hg; obtain ⟨Ao32, co32, eo32⟩ := Kd.N_slice HO229.out; subst eo32; have hnb33 := NB231_222.out; have hnc33 := NB222_231.out; have hnb34 := NB231_223.out; have hnc34 := NB223_231.out; have hnb35 := NB231_224.out; have hnc35 := NB224_231.out; have hcz36_0 : w31.cell? ⟨gb231, 0, none⟩ = some (.slice none 0 0) := (blk_cell BK231.out 0).trans rfl; have hcz36_1 : w31.cell? ⟨gb231, 1, none⟩ = some (.int .u32 0) := (blk_cell BK231.out 1).trans rfl; have hfz36_0 := blk_frozen BK231.out 0; have hfz36_1 := blk_frozen BK231.out 1))
    (try simp only [Act.put, List.setIfInBounds_toArray, List.set_cons_zero, List.set_cons_succ])
    go_cut [31] (fun v31 wc => ∃ (kq : Nat) (x31_15 : Bool), v31 = .bool x31_15 ∧ Aside0 (hurdlelaw11_DenoteLast.j0 kq x31_15 l0_0 a0_1 a2_0 a2_1 a2_2 a2_3 a2_4 a2_5 a2_6 a2_7 a2_8 t227 t230 = some r) ∧ Aside0 (kq ≤ k) ∧ Aside0 (Kd.N k40 40 wc w.heap.size (fun k_ => k_ ≠ gb222 ∧ k_ ≠ gb223 ∧ k_ ≠ gb224 ∧ k_ ≠ gb231) (.slice Ao32 t227.length co32) t227) ∧ Aside0 (wc.heap[gb222]? = some (.cells #[(.slice A0_0 l0_0.length c0_0), .int .u32 a0_1] 25 (0, 0))) ∧ Aside0 (wc.heap[gb223]? = some (.cells #[.int .u32 a1_0, .int .u32 a1_1, (.slice A1_2 l1_2.length c1_2), .int .u32 a0_1] 40 (0, 0))) ∧ Aside0 (wc.heap[gb224]? = some (.cells #[.int .u32 a2_0, .int .u32 a2_1, .int .u64 a2_2, .int .u64 a2_3, .int .u64 a2_4, .int .u64 a2_5, .int .u64 a2_6, .int .u64 a2_7, .int .u64 a2_8] 44 (0, 0))) ∧ Aside0 (wc.heap[gb231]? = some (.cells #[(.slice Ao32 t227.length co32), .int .u32 t230] 25 (0, 0))) ∧ Aside0 (Below w.heap.size w wc))
    case first =>
      have H := HC16.out
      clear HC16
      replace H := Option.bind_eq_some_iff.mp H
      obtain ⟨t232, A370, H⟩ := H
      replace H : (if t232 = true then ((hurdleref10_Right.f t227 t230).bind fun t233 => (hurdlelaw11_DenoteLast.j0 k (!t233) l0_0 a0_1 a2_0 a2_1 a2_2 a2_3 a2_4 a2_5 a2_6 a2_7 a2_8 t227 t230)) else (hurdlelaw11_DenoteLast.j0 k true l0_0 a0_1 a2_0 a2_1 a2_2 a2_3 a2_4 a2_5 a2_6 a2_7 a2_8 t227 t230)) = some r := H
      have A37 := Aside0.mk A370
      clear A370
      by_cases c38 : t232 = true
      · subst c38
        have H1 : ((hurdleref10_Right.f t227 t230).bind fun t233 => (hurdlelaw11_DenoteLast.j0 k (!t233) l0_0 a0_1 a2_0 a2_1 a2_2 a2_3 a2_4 a2_5 a2_6 a2_7 a2_8 t227 t230)) = some r := by rw [if_pos rfl] at H; exact H
        clear H
        have H := H1
        clear H1
        replace H := Option.bind_eq_some_iff.mp H
        obtain ⟨t233, A390, H⟩ := H
        replace H : (hurdlelaw11_DenoteLast.j0 k (!t233) l0_0 a0_1 a2_0 a2_1 a2_2 a2_3 a2_4 a2_5 a2_6 a2_7 a2_8 t227 t230) = some r := H
        have A39 := Aside0.mk A390
        clear A390
        have H' := Aside0.mk H
        clear H
        have hnb40 := NB222_223.out
        have hnc40 := NB223_222.out
        have hnb41 := NB222_224.out
        have hnc41 := NB224_222.out
        have hnb42 := NB222_231.out
        have hnc42 := NB231_222.out
        have hcz43_0 : w31.cell? ⟨gb222, 0, none⟩ = some (.slice A0_0 l0_0.length c0_0) := (blk_cell BK222.out 0).trans rfl
        have hcz43_1 : w31.cell? ⟨gb222, 1, none⟩ = some (.int .u32 a0_1) := (blk_cell BK222.out 1).trans rfl
        have hfz43_0 := blk_frozen BK222.out 0
        have hfz43_1 := blk_frozen BK222.out 1
        go_wp2_with (first | ((with_reducible refine gate_callee (f := 17) rfl ?_); refine goesL_ (some 25) rfl rfl Try.func17 (by kernel_rfl) rfl #[.agg #[.slice A0_0 l0_0.length c0_0, .int .u32 a0_1]] rfl (by (try simp only [List.map_toArray, List.map_cons, List.map_nil]); first | done | rfl | (simp only [List.length_drop, List.length_take]; rfl)) ?_; (with_reducible refine (hurdleref10_Right.calls _ _ l0_0 a0_1 true _ ?side1 ?side2 A37.out).mono ?_); (case side1 => exact Kd.C_below HR0_0.out (by repeat (first | (with_reducible first | exact HB.out | apply below_alloc | apply pw_below_drewN | apply below_drew1 | refine below_set ?_ GE222.out | refine below_set ?_ GE223.out | refine below_set ?_ GE224.out | refine below_set ?_ GE231.out) | exact HB.out))); (case side2 => exact HC0_0.out); rintro e w44 ⟨rfl, hb⟩; refine ⟨_, rfl, ?_⟩; have n0_ := Aside0.mk (Kd.N_below (by (with_reducible repeat (first | apply Kd.N_alloc | apply Kd.N_drewN | apply Kd.N_drew)); exact (Kd.N_mono (Kd.N_far (p := ⟨gb231, 1, none⟩) (Kd.N_far (p := ⟨gb231, 0, none⟩) (Kd.N_mono HO229.out (fun k_ hk => (⟨hk, hk.2⟩ : _ ∧ k_ ≠ gb231))) (fun _ hk => hk.2) (.slice Ao32 t227.length co32)) (fun _ hk => hk.2) (.int .u32 t230)) (fun _ h_ => h_.1))) hb); have n1_ := Aside0.mk (blk_below (g := gb222) (o := .cells #[.slice A0_0 l0_0.length c0_0, .int .u32 a0_1] 25 (0, 0)) (by (with_reducible repeat (first | refine blk_drewN ?_ _ | refine blk_drew ?_ | refine blk_alloc ?_ _)); refine blk_far ?_ NB222_231.out _; (with_reducible repeat (first | refine blk_drewN ?_ _ | refine blk_drew ?_ | refine blk_alloc ?_ _)); refine blk_far ?_ NB222_231.out _; (with_reducible repeat (first | refine blk_drewN ?_ _ | refine blk_drew ?_ | refine blk_alloc ?_ _)); exact BK222.out) hb); have n2_ := Aside0.mk (blk_below (g := gb223) (o := .cells #[.int .u32 a1_0, .int .u32 a1_1, .slice A1_2 l1_2.length c1_2, .int .u32 a0_1] 40 (0, 0)) (by (with_reducible repeat (first | refine blk_drewN ?_ _ | refine blk_drew ?_ | refine blk_alloc ?_ _)); refine blk_far ?_ NB223_231.out _; (with_reducible repeat (first | refine blk_drewN ?_ _ | refine blk_drew ?_ | refine blk_alloc ?_ _)); refine blk_far ?_ NB223_231.out _; (with_reducible repeat (first | refine blk_drewN ?_ _ | refine blk_drew ?_ | refine blk_alloc ?_ _)); exact BK223.out) hb); have n3_ := Aside0.mk (blk_below (g := gb224) (o := .cells #[.int .u32 a2_0, .int .u32 a2_1, .int .u64 a2_2, .int .u64 a2_3, .int .u64 a2_4, .int .u64 a2_5, .int .u64 a2_6, .int .u64 a2_7, .int .u64 a2_8] 44 (0, 0)) (by (with_reducible repeat (first | refine blk_drewN ?_ _ | refine blk_drew ?_ | refine blk_alloc ?_ _)); refine blk_far ?_ NB224_231.out _; (with_reducible repeat (first | refine blk_drewN ?_ _ | refine blk_drew ?_ | refine blk_alloc ?_ _)); refine blk_far ?_ NB224_231.out _; (with_reducible repeat (first | refine blk_drewN ?_ _ | refine blk_drew ?_ | refine blk_alloc ?_ _)); exact BK224.out) hb); have n4_ := Aside0.mk (blk_below (g := gb231) (o := .cells #[.slice Ao32 t227.length co32, .int .u32 t230] 25 (0, 0)) (by (with_reducible repeat (first | refine blk_drewN ?_ _ | refine blk_drew ?_ | refine blk_alloc ?_ _)); refine blk_put (cs := #[.slice Ao32 t227.length co32, .int .u32 0]) ?_ 1 _ rfl; (with_reducible repeat (first | refine blk_drewN ?_ _ | refine blk_drew ?_ | refine blk_alloc ?_ _)); refine blk_put (cs := #[.slice none 0 0, .int .u32 0]) ?_ 0 _ rfl; (with_reducible repeat (first | refine blk_drewN ?_ _ | refine blk_drew ?_ | refine blk_alloc ?_ _)); exact BK231.out) hb); have n5_ := Aside0.mk (below_step (by repeat (first | (with_reducible first | exact HB.out | apply below_alloc | apply pw_below_drewN | apply below_drew1 | refine below_set ?_ GE222.out | refine below_set ?_ GE223.out | refine below_set ?_ GE224.out | refine below_set ?_ GE231.out) | exact HB.out)) hb); clear HO229; clear BK222; clear BK223; clear BK224; clear BK231; clear HB; have HO229 := n0_; have BK222 := n1_; have BK223 := n2_; have BK224 := n3_; have BK231 := n4_; have HB := n5_; clear n0_ n1_ n2_ n3_ n4_ n5_; (try clear hb); (try clear hb2); (try clear hk); (try clear hi); have hnb45 := NB231_223.out; have hnc45 := NB223_231.out; have hnb46 := NB231_224.out; have hnc46 := NB224_231.out; have hcz47_0 : w44.cell? ⟨gb231, 0, none⟩ = some (.slice Ao32 t227.length co32) := (blk_cell BK231.out 0).trans rfl; have hcz47_1 : w44.cell? ⟨gb231, 1, none⟩ = some (.int .u32 t230) := (blk_cell BK231.out 1).trans rfl; have hfz47_0 := blk_frozen BK231.out 0; have hfz47_1 := blk_frozen BK231.out 1) | (go_at_call 17; (with_reducible refine (hurdleref10_Right.calls _ _ t227 t230 t233 _ ?side1 ?side2 A39.out).mono ?_); (case side1 => repeat (first | exact (Kd.N_reads' HO229.out).2.2 | (with_reducible refine Kd.C_alloc ?_ _) | (with_reducible refine Kd.C_drewN ?_ _) | (with_reducible refine Kd.C_drew ?_))); (case side2 => exact (Kd.N_reads' HO229.out).2.1); rintro e w48 ⟨rfl, hb⟩; have n0_ := Aside0.mk (Kd.N_below (by (with_reducible repeat (first | apply Kd.N_alloc | apply Kd.N_drewN | apply Kd.N_drew)); exact HO229.out) hb); have n1_ := Aside0.mk (blk_below (g := gb222) (o := .cells #[.slice A0_0 l0_0.length c0_0, .int .u32 a0_1] 25 (0, 0)) (by (with_reducible repeat (first | refine blk_drewN ?_ _ | refine blk_drew ?_ | refine blk_alloc ?_ _)); exact BK222.out) hb); have n2_ := Aside0.mk (blk_below (g := gb223) (o := .cells #[.int .u32 a1_0, .int .u32 a1_1, .slice A1_2 l1_2.length c1_2, .int .u32 a0_1] 40 (0, 0)) (by (with_reducible repeat (first | refine blk_drewN ?_ _ | refine blk_drew ?_ | refine blk_alloc ?_ _)); exact BK223.out) hb); have n3_ := Aside0.mk (blk_below (g := gb224) (o := .cells #[.int .u32 a2_0, .int .u32 a2_1, .int .u64 a2_2, .int .u64 a2_3, .int .u64 a2_4, .int .u64 a2_5, .int .u64 a2_6, .int .u64 a2_7, .int .u64 a2_8] 44 (0, 0)) (by (with_reducible repeat (first | refine blk_drewN ?_ _ | refine blk_drew ?_ | refine blk_alloc ?_ _)); exact BK224.out) hb); have n4_ := Aside0.mk (blk_below (g := gb231) (o := .cells #[.slice Ao32 t227.length co32, .int .u32 t230] 25 (0, 0)) (by (with_reducible repeat (first | refine blk_drewN ?_ _ | refine blk_drew ?_ | refine blk_alloc ?_ _)); exact BK231.out) hb); have n5_ := Aside0.mk (below_step (by repeat (first | (with_reducible first | exact HB.out | apply below_alloc | apply pw_below_drewN | apply below_drew1 | refine below_set ?_ GE222.out | refine below_set ?_ GE223.out | refine below_set ?_ GE224.out | refine below_set ?_ GE231.out) | exact HB.out)) hb); clear HO229; clear BK222; clear BK223; clear BK224; clear BK231; clear HB; have HO229 := n0_; have BK222 := n1_; have BK223 := n2_; have BK224 := n3_; have BK231 := n4_; have HB := n5_; clear n0_ n1_ n2_ n3_ n4_ n5_; (try clear hb); (try clear hb2); (try clear hk); (try clear hi)))
        go_meet
        case rel => exact ⟨_, (!t233), (by first | rfl | (simp; done) | (simp [*]; done)), H', ⟨by first | omega | exact Nat.le_refl _⟩, ⟨by (with_reducible repeat (first | apply Kd.N_alloc | apply Kd.N_drewN | apply Kd.N_drew)); exact Kd.N_mono HO229.out (fun _ hk => ⟨hk.1.1, ⟨hk.1.2.1, ⟨hk.1.2.2, hk.2⟩⟩⟩)⟩, ⟨by (with_reducible repeat (first | refine blk_drewN ?_ _ | refine blk_drew ?_ | refine blk_alloc ?_ _)); exact BK222.out⟩, ⟨by (with_reducible repeat (first | refine blk_drewN ?_ _ | refine blk_drew ?_ | refine blk_alloc ?_ _)); exact BK223.out⟩, ⟨by (with_reducible repeat (first | refine blk_drewN ?_ _ | refine blk_drew ?_ | refine blk_alloc ?_ _)); exact BK224.out⟩, ⟨by (with_reducible repeat (first | refine blk_drewN ?_ _ | refine blk_drew ?_ | refine blk_alloc ?_ _)); exact BK231.out⟩, ⟨by repeat (first | (with_reducible first | exact HB.out | apply below_alloc | apply pw_below_drewN | apply below_drew1 | refine below_set ?_ GE222.out | refine below_set ?_ GE223.out | refine below_set ?_ GE224.out | refine below_set ?_ GE231.out) | exact HB.out)⟩⟩
      · replace c38 := Bool.eq_false_iff.mpr c38
        subst c38
        have H1 : (hurdlelaw11_DenoteLast.j0 k true l0_0 a0_1 a2_0 a2_1 a2_2 a2_3 a2_4 a2_5 a2_6 a2_7 a2_8 t227 t230) = some r := by rw [if_neg (show ¬ (false = true) by decide)] at H; exact H
        clear H
        have H := H1
        clear H1
        have H' := Aside0.mk H
        clear H
        have hnb49 := NB222_223.out
        have hnc49 := NB223_222.out
        have hnb50 := NB222_224.out
        have hnc50 := NB224_222.out
        have hnb51 := NB222_231.out
        have hnc51 := NB231_222.out
        have hcz52_0 : w31.cell? ⟨gb222, 0, none⟩ = some (.slice A0_0 l0_0.length c0_0) := (blk_cell BK222.out 0).trans rfl
        have hcz52_1 : w31.cell? ⟨gb222, 1, none⟩ = some (.int .u32 a0_1) := (blk_cell BK222.out 1).trans rfl
        have hfz52_0 := blk_frozen BK222.out 0
        have hfz52_1 := blk_frozen BK222.out 1
        go_wp2_with (first | ((with_reducible refine gate_callee (f := 17) rfl ?_); refine goesL_ (some 25) rfl rfl Try.func17 (by kernel_rfl) rfl #[.agg #[.slice A0_0 l0_0.length c0_0, .int .u32 a0_1]] rfl (by (try simp only [List.map_toArray, List.map_cons, List.map_nil]); first | done | rfl | (simp only [List.length_drop, List.length_take]; rfl)) ?_; (with_reducible refine (hurdleref10_Right.calls _ _ l0_0 a0_1 false _ ?side1 ?side2 A37.out).mono ?_); (case side1 => exact Kd.C_below HR0_0.out (by repeat (first | (with_reducible first | exact HB.out | apply below_alloc | apply pw_below_drewN | apply below_drew1 | refine below_set ?_ GE222.out | refine below_set ?_ GE223.out | refine below_set ?_ GE224.out | refine below_set ?_ GE231.out) | exact HB.out))); (case side2 => exact HC0_0.out); rintro e w53 ⟨rfl, hb⟩; refine ⟨_, rfl, ?_⟩; have n0_ := Aside0.mk (Kd.N_below (by (with_reducible repeat (first | apply Kd.N_alloc | apply Kd.N_drewN | apply Kd.N_drew)); exact (Kd.N_mono (Kd.N_far (p := ⟨gb231, 1, none⟩) (Kd.N_far (p := ⟨gb231, 0, none⟩) (Kd.N_mono HO229.out (fun k_ hk => (⟨hk, hk.2⟩ : _ ∧ k_ ≠ gb231))) (fun _ hk => hk.2) (.slice Ao32 t227.length co32)) (fun _ hk => hk.2) (.int .u32 t230)) (fun _ h_ => h_.1))) hb); have n1_ := Aside0.mk (blk_below (g := gb222) (o := .cells #[.slice A0_0 l0_0.length c0_0, .int .u32 a0_1] 25 (0, 0)) (by (with_reducible repeat (first | refine blk_drewN ?_ _ | refine blk_drew ?_ | refine blk_alloc ?_ _)); refine blk_far ?_ NB222_231.out _; (with_reducible repeat (first | refine blk_drewN ?_ _ | refine blk_drew ?_ | refine blk_alloc ?_ _)); refine blk_far ?_ NB222_231.out _; (with_reducible repeat (first | refine blk_drewN ?_ _ | refine blk_drew ?_ | refine blk_alloc ?_ _)); exact BK222.out) hb); have n2_ := Aside0.mk (blk_below (g := gb223) (o := .cells #[.int .u32 a1_0, .int .u32 a1_1, .slice A1_2 l1_2.length c1_2, .int .u32 a0_1] 40 (0, 0)) (by (with_reducible repeat (first | refine blk_drewN ?_ _ | refine blk_drew ?_ | refine blk_alloc ?_ _)); refine blk_far ?_ NB223_231.out _; (with_reducible repeat (first | refine blk_drewN ?_ _ | refine blk_drew ?_ | refine blk_alloc ?_ _)); refine blk_far ?_ NB223_231.out _; (with_reducible repeat (first | refine blk_drewN ?_ _ | refine blk_drew ?_ | refine blk_alloc ?_ _)); exact BK223.out) hb); have n3_ := Aside0.mk (blk_below (g := gb224) (o := .cells #[.int .u32 a2_0, .int .u32 a2_1, .int .u64 a2_2, .int .u64 a2_3, .int .u64 a2_4, .int .u64 a2_5, .int .u64 a2_6, .int .u64 a2_7, .int .u64 a2_8] 44 (0, 0)) (by (with_reducible repeat (first | refine blk_drewN ?_ _ | refine blk_drew ?_ | refine blk_alloc ?_ _)); refine blk_far ?_ NB224_231.out _; (with_reducible repeat (first | refine blk_drewN ?_ _ | refine blk_drew ?_ | refine blk_alloc ?_ _)); refine blk_far ?_ NB224_231.out _; (with_reducible repeat (first | refine blk_drewN ?_ _ | refine blk_drew ?_ | refine blk_alloc ?_ _)); exact BK224.out) hb); have n4_ := Aside0.mk (blk_below (g := gb231) (o := .cells #[.slice Ao32 t227.length co32, .int .u32 t230] 25 (0, 0)) (by (with_reducible repeat (first | refine blk_drewN ?_ _ | refine blk_drew ?_ | refine blk_alloc ?_ _)); refine blk_put (cs := #[.slice Ao32 t227.length co32, .int .u32 0]) ?_ 1 _ rfl; (with_reducible repeat (first | refine blk_drewN ?_ _ | refine blk_drew ?_ | refine blk_alloc ?_ _)); refine blk_put (cs := #[.slice none 0 0, .int .u32 0]) ?_ 0 _ rfl; (with_reducible repeat (first | refine blk_drewN ?_ _ | refine blk_drew ?_ | refine blk_alloc ?_ _)); exact BK231.out) hb); have n5_ := Aside0.mk (below_step (by repeat (first | (with_reducible first | exact HB.out | apply below_alloc | apply pw_below_drewN | apply below_drew1 | refine below_set ?_ GE222.out | refine below_set ?_ GE223.out | refine below_set ?_ GE224.out | refine below_set ?_ GE231.out) | exact HB.out)) hb); clear HO229; clear BK222; clear BK223; clear BK224; clear BK231; clear HB; have HO229 := n0_; have BK222 := n1_; have BK223 := n2_; have BK224 := n3_; have BK231 := n4_; have HB := n5_; clear n0_ n1_ n2_ n3_ n4_ n5_; (try clear hb); (try clear hb2); (try clear hk); (try clear hi)))
        go_meet
        case rel => exact ⟨_, (true), (by first | rfl | (simp; done) | (simp [*]; done)), H', ⟨by first | omega | exact Nat.le_refl _⟩, ⟨by (with_reducible repeat (first | apply Kd.N_alloc | apply Kd.N_drewN | apply Kd.N_drew)); exact Kd.N_mono HO229.out (fun _ hk => ⟨hk.1.1, ⟨hk.1.2.1, ⟨hk.1.2.2, hk.2⟩⟩⟩)⟩, ⟨by (with_reducible repeat (first | refine blk_drewN ?_ _ | refine blk_drew ?_ | refine blk_alloc ?_ _)); exact BK222.out⟩, ⟨by (with_reducible repeat (first | refine blk_drewN ?_ _ | refine blk_drew ?_ | refine blk_alloc ?_ _)); exact BK223.out⟩, ⟨by (with_reducible repeat (first | refine blk_drewN ?_ _ | refine blk_drew ?_ | refine blk_alloc ?_ _)); exact BK224.out⟩, ⟨by (with_reducible repeat (first | refine blk_drewN ?_ _ | refine blk_drew ?_ | refine blk_alloc ?_ _)); exact BK231.out⟩, ⟨by repeat (first | (with_reducible first | exact HB.out | apply below_alloc | apply pw_below_drewN | apply below_drew1 | refine below_set ?_ GE222.out | refine below_set ?_ GE223.out | refine below_set ?_ GE224.out | refine below_set ?_ GE231.out) | exact HB.out)⟩⟩
    case rest =>
      clear HC16
      try clear c1
      try clear c2
      try clear p2
      try clear c3
      try clear c4
      try clear c5
      try clear c10
      try clear c11
      try clear c13
      try clear c14
      try clear c17
      try clear c20
      try clear c21
      try clear c23
      try clear c25
      try clear c30
      try clear c33
      try clear c34
      try clear c35
      try clear c38
      try clear c40
      try clear c41
      try clear c42
      try clear c45
      try clear c46
      try clear c49
      try clear c50
      try clear c51
      try clear hcz12_0
      try clear hcz12_1
      try clear hcz22_0
      try clear hcz22_1
      try clear hcz24_0
      try clear hcz24_1
      try clear hcz26_0
      try clear hcz26_1
      try clear hcz26_2
      try clear hcz26_3
      try clear hcz28_0
      try clear hcz28_1
      try clear hcz29_0
      try clear hcz29_1
      try clear hcz29_2
      try clear hcz29_3
      try clear hcz36_0
      try clear hcz36_1
      try clear hcz43_0
      try clear hcz43_1
      try clear hcz47_0
      try clear hcz47_1
      try clear hcz52_0
      try clear hcz52_1
      try clear hfz12_0
      try clear hfz12_1
      try clear hfz22_0
      try clear hfz22_1
      try clear hfz24_0
      try clear hfz24_1
      try clear hfz26_0
      try clear hfz26_1
      try clear hfz26_2
      try clear hfz26_3
      try clear hfz28_0
      try clear hfz28_1
      try clear hfz29_0
      try clear hfz29_1
      try clear hfz29_2
      try clear hfz29_3
      try clear hfz36_0
      try clear hfz36_1
      try clear hfz43_0
      try clear hfz43_1
      try clear hfz47_0
      try clear hfz47_1
      try clear hfz52_0
      try clear hfz52_1
      obtain ⟨kq, x31_15, rfl, HA, HJ15, HO_232000, BK222, BK223, BK224, BK231, HB⟩ := hcut
      cases kq with
      | zero => exact absurd HA.out (by simp [hurdlelaw11_DenoteLast.j0])
      | succ kj15 =>
        have H := HA.out
        clear HA
        simp only [hurdlelaw11_DenoteLast.j0] at H
        by_cases c54 : x31_15 = true
        · subst c54
          have H1 : ((hurdlelaw11_knows.f).bind fun t234 => (some t234)) = some r := by rw [if_pos rfl] at H; exact H
          clear H
          have H := H1
          clear H1
          replace H := Option.bind_eq_some_iff.mp H
          obtain ⟨t234, A550, H⟩ := H
          replace H : (some t234) = some r := H
          have A55 := Aside0.mk A550
          clear A550
          obtain rfl := Option.some.inj H
          go_wp2_with (first | ((with_reducible refine gate_callee (f := 23) rfl ?_); refine goesL_ (some 32) rfl rfl Try.func23 (by kernel_rfl) rfl #[] rfl (by (try simp only [List.map_toArray, List.map_cons, List.map_nil]); first | done | rfl | (simp only [List.length_drop, List.length_take]; rfl)) ?_; (with_reducible refine (hurdlelaw11_knows.calls  t234 _ A55.out).mono ?_); rintro e w56 ⟨rfl, hb⟩; refine ⟨_, rfl, ?_⟩; have n0_ := Aside0.mk (Kd.N_below (by (with_reducible repeat (first | apply Kd.N_alloc | apply Kd.N_drewN | apply Kd.N_drew)); exact HO_232000.out) hb); have n1_ := Aside0.mk (blk_below (g := gb222) (o := .cells #[.slice A0_0 l0_0.length c0_0, .int .u32 a0_1] 25 (0, 0)) (by (with_reducible repeat (first | refine blk_drewN ?_ _ | refine blk_drew ?_ | refine blk_alloc ?_ _)); exact BK222.out) hb); have n2_ := Aside0.mk (blk_below (g := gb223) (o := .cells #[.int .u32 a1_0, .int .u32 a1_1, .slice A1_2 l1_2.length c1_2, .int .u32 a0_1] 40 (0, 0)) (by (with_reducible repeat (first | refine blk_drewN ?_ _ | refine blk_drew ?_ | refine blk_alloc ?_ _)); exact BK223.out) hb); have n3_ := Aside0.mk (blk_below (g := gb224) (o := .cells #[.int .u32 a2_0, .int .u32 a2_1, .int .u64 a2_2, .int .u64 a2_3, .int .u64 a2_4, .int .u64 a2_5, .int .u64 a2_6, .int .u64 a2_7, .int .u64 a2_8] 44 (0, 0)) (by (with_reducible repeat (first | refine blk_drewN ?_ _ | refine blk_drew ?_ | refine blk_alloc ?_ _)); exact BK224.out) hb); have n4_ := Aside0.mk (blk_below (g := gb231) (o := .cells #[.slice Ao32 t227.length co32, .int .u32 t230] 25 (0, 0)) (by (with_reducible repeat (first | refine blk_drewN ?_ _ | refine blk_drew ?_ | refine blk_alloc ?_ _)); exact BK231.out) hb); have n5_ := Aside0.mk (below_step (by repeat (first | (with_reducible first | exact HB.out | apply below_alloc | apply pw_below_drewN | apply below_drew1 | refine below_set ?_ GE222.out | refine below_set ?_ GE223.out | refine below_set ?_ GE224.out | refine below_set ?_ GE231.out) | exact HB.out)) hb); clear HO_232000; clear BK222; clear BK223; clear BK224; clear BK231; clear HB; have HO_232000 := n0_; have BK222 := n1_; have BK223 := n2_; have BK224 := n3_; have BK231 := n4_; have HB := n5_; clear n0_ n1_ n2_ n3_ n4_ n5_; (try clear hb); (try clear hb2); (try clear hk); (try clear hi)))
          go_ret
          exact ⟨by first | rfl | (simp [errW_none, errW_some] <;> rfl) | (simp [*, errW_none, errW_some] <;> rfl), by repeat (first | (with_reducible first | exact HB.out | apply below_alloc | apply pw_below_drewN | apply below_drew1 | refine below_set ?_ GE222.out | refine below_set ?_ GE223.out | refine below_set ?_ GE224.out | refine below_set ?_ GE231.out) | exact HB.out)⟩
        · replace c54 := Bool.eq_false_iff.mpr c54
          subst c54
          have H1 : ((denote_Judge.f l0_0 a0_1 a2_0 a2_1 a2_2 a2_3 a2_4 a2_5 a2_6 a2_7 a2_8).bind fun bt235 => ((denote_Judge.f t227 t230 a2_0 a2_1 a2_2 a2_3 a2_4 a2_5 a2_6 a2_7 a2_8).bind fun bt237 => (if bt235.1 = bt237.1 then (if bt235.2 = 0 then (if bt237.2 = 0 then ((hurdlelaw11_knows.f).bind fun t239 => (some t239)) else (some false)) else (some false)) else (some false)))) = some r := by rw [if_neg (show ¬ (false = true) by decide)] at H; exact H
          clear H
          have H := H1
          clear H1
          replace H := Option.bind_eq_some_iff.mp H
          obtain ⟨⟨t235, t236⟩, A570, H⟩ := H
          replace H : ((denote_Judge.f t227 t230 a2_0 a2_1 a2_2 a2_3 a2_4 a2_5 a2_6 a2_7 a2_8).bind fun bt237 => (if t235 = bt237.1 then (if t236 = 0 then (if bt237.2 = 0 then ((hurdlelaw11_knows.f).bind fun t239 => (some t239)) else (some false)) else (some false)) else (some false))) = some r := H
          have A57 := Aside0.mk A570
          clear A570
          replace H := Option.bind_eq_some_iff.mp H
          obtain ⟨⟨t237, t238⟩, A580, H⟩ := H
          replace H : (if t235 = t237 then (if t236 = 0 then (if t238 = 0 then ((hurdlelaw11_knows.f).bind fun t239 => (some t239)) else (some false)) else (some false)) else (some false)) = some r := H
          have A58 := Aside0.mk A580
          clear A580
          by_cases c59 : t235 = t237
          · rw [if_pos c59] at H
            have c59b0 : (t235 == t237) = true := beq_iff_eq.mpr c59
            have c59b1 : (t235 != t237) = false := bne_eq_false_iff_eq.mpr c59
            clear c59
            by_cases c60 : t236 = 0
            · rw [if_pos c60] at H
              have c60b0 : (t236 == 0) = true := beq_iff_eq.mpr c60
              have c60b1 : (t236 != 0) = false := bne_eq_false_iff_eq.mpr c60
              clear c60
              by_cases c61 : t238 = 0
              · rw [if_pos c61] at H
                have c61b0 : (t238 == 0) = true := beq_iff_eq.mpr c61
                have c61b1 : (t238 != 0) = false := bne_eq_false_iff_eq.mpr c61
                clear c61
                replace H := Option.bind_eq_some_iff.mp H
                obtain ⟨t239, A620, H⟩ := H
                replace H : (some t239) = some r := H
                have A62 := Aside0.mk A620
                clear A620
                obtain rfl := Option.some.inj H
                have hnb63 := NB222_223.out
                have hnc63 := NB223_222.out
                have hnb64 := NB222_224.out
                have hnc64 := NB224_222.out
                have hnb65 := NB222_231.out
                have hnc65 := NB231_222.out
                have hcz66_0 : wc.cell? ⟨gb222, 0, none⟩ = some (.slice A0_0 l0_0.length c0_0) := (blk_cell BK222.out 0).trans rfl
                have hcz66_1 : wc.cell? ⟨gb222, 1, none⟩ = some (.int .u32 a0_1) := (blk_cell BK222.out 1).trans rfl
                have hfz66_0 := blk_frozen BK222.out 0
                have hfz66_1 := blk_frozen BK222.out 1
                have hnb67 := NB224_223.out
                have hnc67 := NB223_224.out
                have hnb68 := NB224_231.out
                have hnc68 := NB231_224.out
                have hcz69_0 : wc.cell? ⟨gb224, 0, none⟩ = some (.int .u32 a2_0) := (blk_cell BK224.out 0).trans rfl
                have hcz69_1 : wc.cell? ⟨gb224, 1, none⟩ = some (.int .u32 a2_1) := (blk_cell BK224.out 1).trans rfl
                have hcz69_2 : wc.cell? ⟨gb224, 2, none⟩ = some (.int .u64 a2_2) := (blk_cell BK224.out 2).trans rfl
                have hcz69_3 : wc.cell? ⟨gb224, 3, none⟩ = some (.int .u64 a2_3) := (blk_cell BK224.out 3).trans rfl
                have hcz69_4 : wc.cell? ⟨gb224, 4, none⟩ = some (.int .u64 a2_4) := (blk_cell BK224.out 4).trans rfl
                have hcz69_5 : wc.cell? ⟨gb224, 5, none⟩ = some (.int .u64 a2_5) := (blk_cell BK224.out 5).trans rfl
                have hcz69_6 : wc.cell? ⟨gb224, 6, none⟩ = some (.int .u64 a2_6) := (blk_cell BK224.out 6).trans rfl
                have hcz69_7 : wc.cell? ⟨gb224, 7, none⟩ = some (.int .u64 a2_7) := (blk_cell BK224.out 7).trans rfl
                have hcz69_8 : wc.cell? ⟨gb224, 8, none⟩ = some (.int .u64 a2_8) := (blk_cell BK224.out 8).trans rfl
                have hfz69_0 := blk_frozen BK224.out 0
                have hfz69_1 := blk_frozen BK224.out 1
                have hfz69_2 := blk_frozen BK224.out 2
                have hfz69_3 := blk_frozen BK224.out 3
                have hfz69_4 := blk_frozen BK224.out 4
                have hfz69_5 := blk_frozen BK224.out 5
                have hfz69_6 := blk_frozen BK224.out 6
                have hfz69_7 := blk_frozen BK224.out 7
                have hfz69_8 := blk_frozen BK224.out 8
                go_wp2_with (first | ((with_reducible refine gate_callee (f := 25) rfl ?_); refine goesL_ (some 36) rfl rfl Try.func25 (by kernel_rfl) rfl #[.agg #[.slice A0_0 l0_0.length c0_0, .int .u32 a0_1], .agg #[.int .u32 a2_0, .int .u32 a2_1, .int .u64 a2_2, .int .u64 a2_3, .int .u64 a2_4, .int .u64 a2_5, .int .u64 a2_6, .int .u64 a2_7, .int .u64 a2_8]] rfl (by (try simp only [List.map_toArray, List.map_cons, List.map_nil]); first | done | rfl | (simp only [List.length_drop, List.length_take]; rfl)) ?_; (with_reducible refine (denote_Judge.calls _ _ l0_0 a0_1 a2_0 a2_1 a2_2 a2_3 a2_4 a2_5 a2_6 a2_7 a2_8 t235 t236 _ ?side1 ?side2 A57.out).mono ?_); (case side1 => repeat (first | exact (Kd.C_below HR0_0.out HB.out) | (with_reducible refine Kd.C_alloc ?_ _) | (with_reducible refine Kd.C_drewN ?_ _) | (with_reducible refine Kd.C_drew ?_))); (case side2 => exact HC0_0.out); rintro e w70 ⟨rfl, hb⟩; refine ⟨_, rfl, ?_⟩; have n0_ := Aside0.mk (Kd.N_below (by (with_reducible repeat (first | apply Kd.N_alloc | apply Kd.N_drewN | apply Kd.N_drew)); exact HO_232000.out) hb); have n1_ := Aside0.mk (blk_below (g := gb222) (o := .cells #[.slice A0_0 l0_0.length c0_0, .int .u32 a0_1] 25 (0, 0)) (by (with_reducible repeat (first | refine blk_drewN ?_ _ | refine blk_drew ?_ | refine blk_alloc ?_ _)); exact BK222.out) hb); have n2_ := Aside0.mk (blk_below (g := gb223) (o := .cells #[.int .u32 a1_0, .int .u32 a1_1, .slice A1_2 l1_2.length c1_2, .int .u32 a0_1] 40 (0, 0)) (by (with_reducible repeat (first | refine blk_drewN ?_ _ | refine blk_drew ?_ | refine blk_alloc ?_ _)); exact BK223.out) hb); have n3_ := Aside0.mk (blk_below (g := gb224) (o := .cells #[.int .u32 a2_0, .int .u32 a2_1, .int .u64 a2_2, .int .u64 a2_3, .int .u64 a2_4, .int .u64 a2_5, .int .u64 a2_6, .int .u64 a2_7, .int .u64 a2_8] 44 (0, 0)) (by (with_reducible repeat (first | refine blk_drewN ?_ _ | refine blk_drew ?_ | refine blk_alloc ?_ _)); exact BK224.out) hb); have n4_ := Aside0.mk (blk_below (g := gb231) (o := .cells #[.slice Ao32 t227.length co32, .int .u32 t230] 25 (0, 0)) (by (with_reducible repeat (first | refine blk_drewN ?_ _ | refine blk_drew ?_ | refine blk_alloc ?_ _)); exact BK231.out) hb); have n5_ := Aside0.mk (below_step (by repeat (first | (with_reducible first | exact HB.out | apply below_alloc | apply pw_below_drewN | apply below_drew1 | refine below_set ?_ GE222.out | refine below_set ?_ GE223.out | refine below_set ?_ GE224.out | refine below_set ?_ GE231.out) | exact HB.out)) hb); clear HO_232000; clear BK222; clear BK223; clear BK224; clear BK231; clear HB; have HO_232000 := n0_; have BK222 := n1_; have BK223 := n2_; have BK224 := n3_; have BK231 := n4_; have HB := n5_; clear n0_ n1_ n2_ n3_ n4_ n5_; (try clear hb); (try clear hb2); (try clear hk); (try clear hi); have hnb71 := NB231_223.out; have hnc71 := NB223_231.out; have hcz72_0 : w70.cell? ⟨gb231, 0, none⟩ = some (.slice Ao32 t227.length co32) := (blk_cell BK231.out 0).trans rfl; have hcz72_1 : w70.cell? ⟨gb231, 1, none⟩ = some (.int .u32 t230) := (blk_cell BK231.out 1).trans rfl; have hfz72_0 := blk_frozen BK231.out 0; have hfz72_1 := blk_frozen BK231.out 1; have hcz73_0 : w70.cell? ⟨gb224, 0, none⟩ = some (.int .u32 a2_0) := (blk_cell BK224.out 0).trans rfl; have hcz73_1 : w70.cell? ⟨gb224, 1, none⟩ = some (.int .u32 a2_1) := (blk_cell BK224.out 1).trans rfl; have hcz73_2 : w70.cell? ⟨gb224, 2, none⟩ = some (.int .u64 a2_2) := (blk_cell BK224.out 2).trans rfl; have hcz73_3 : w70.cell? ⟨gb224, 3, none⟩ = some (.int .u64 a2_3) := (blk_cell BK224.out 3).trans rfl; have hcz73_4 : w70.cell? ⟨gb224, 4, none⟩ = some (.int .u64 a2_4) := (blk_cell BK224.out 4).trans rfl; have hcz73_5 : w70.cell? ⟨gb224, 5, none⟩ = some (.int .u64 a2_5) := (blk_cell BK224.out 5).trans rfl; have hcz73_6 : w70.cell? ⟨gb224, 6, none⟩ = some (.int .u64 a2_6) := (blk_cell BK224.out 6).trans rfl; have hcz73_7 : w70.cell? ⟨gb224, 7, none⟩ = some (.int .u64 a2_7) := (blk_cell BK224.out 7).trans rfl; have hcz73_8 : w70.cell? ⟨gb224, 8, none⟩ = some (.int .u64 a2_8) := (blk_cell BK224.out 8).trans rfl; have hfz73_0 := blk_frozen BK224.out 0; have hfz73_1 := blk_frozen BK224.out 1; have hfz73_2 := blk_frozen BK224.out 2; have hfz73_3 := blk_frozen BK224.out 3; have hfz73_4 := blk_frozen BK224.out 4; have hfz73_5 := blk_frozen BK224.out 5; have hfz73_6 := blk_frozen BK224.out 6; have hfz73_7 := blk_frozen BK224.out 7; have hfz73_8 := blk_frozen BK224.out 8) | ((with_reducible refine gate_callee (f := 25) rfl ?_); refine goesL_ (some 42) rfl rfl Try.func25 (by kernel_rfl) rfl #[.agg #[.slice Ao32 t227.length co32, .int .u32 t230], .agg #[.int .u32 a2_0, .int .u32 a2_1, .int .u64 a2_2, .int .u64 a2_3, .int .u64 a2_4, .int .u64 a2_5, .int .u64 a2_6, .int .u64 a2_7, .int .u64 a2_8]] rfl (by (try simp only [List.map_toArray, List.map_cons, List.map_nil]); first | done | rfl | (simp only [List.length_drop, List.length_take]; rfl)) ?_; (with_reducible refine (denote_Judge.calls _ _ t227 t230 a2_0 a2_1 a2_2 a2_3 a2_4 a2_5 a2_6 a2_7 a2_8 t237 t238 _ ?side1 ?side2 A58.out).mono ?_); (case side1 => repeat (first | exact (Kd.N_reads' HO_232000.out).2.2 | (with_reducible refine Kd.C_alloc ?_ _) | (with_reducible refine Kd.C_drewN ?_ _) | (with_reducible refine Kd.C_drew ?_))); (case side2 => exact (Kd.N_reads' HO_232000.out).2.1); rintro e w74 ⟨rfl, hb⟩; refine ⟨_, rfl, ?_⟩; have n0_ := Aside0.mk (Kd.N_below (by (with_reducible repeat (first | apply Kd.N_alloc | apply Kd.N_drewN | apply Kd.N_drew)); exact HO_232000.out) hb); have n1_ := Aside0.mk (blk_below (g := gb222) (o := .cells #[.slice A0_0 l0_0.length c0_0, .int .u32 a0_1] 25 (0, 0)) (by (with_reducible repeat (first | refine blk_drewN ?_ _ | refine blk_drew ?_ | refine blk_alloc ?_ _)); exact BK222.out) hb); have n2_ := Aside0.mk (blk_below (g := gb223) (o := .cells #[.int .u32 a1_0, .int .u32 a1_1, .slice A1_2 l1_2.length c1_2, .int .u32 a0_1] 40 (0, 0)) (by (with_reducible repeat (first | refine blk_drewN ?_ _ | refine blk_drew ?_ | refine blk_alloc ?_ _)); exact BK223.out) hb); have n3_ := Aside0.mk (blk_below (g := gb224) (o := .cells #[.int .u32 a2_0, .int .u32 a2_1, .int .u64 a2_2, .int .u64 a2_3, .int .u64 a2_4, .int .u64 a2_5, .int .u64 a2_6, .int .u64 a2_7, .int .u64 a2_8] 44 (0, 0)) (by (with_reducible repeat (first | refine blk_drewN ?_ _ | refine blk_drew ?_ | refine blk_alloc ?_ _)); exact BK224.out) hb); have n4_ := Aside0.mk (blk_below (g := gb231) (o := .cells #[.slice Ao32 t227.length co32, .int .u32 t230] 25 (0, 0)) (by (with_reducible repeat (first | refine blk_drewN ?_ _ | refine blk_drew ?_ | refine blk_alloc ?_ _)); exact BK231.out) hb); have n5_ := Aside0.mk (below_step (by repeat (first | (with_reducible first | exact HB.out | apply below_alloc | apply pw_below_drewN | apply below_drew1 | refine below_set ?_ GE222.out | refine below_set ?_ GE223.out | refine below_set ?_ GE224.out | refine below_set ?_ GE231.out) | exact HB.out)) hb); clear HO_232000; clear BK222; clear BK223; clear BK224; clear BK231; clear HB; have HO_232000 := n0_; have BK222 := n1_; have BK223 := n2_; have BK224 := n3_; have BK231 := n4_; have HB := n5_; clear n0_ n1_ n2_ n3_ n4_ n5_; (try clear hb); (try clear hb2); (try clear hk); (try clear hi)) | (go_at_call 23; (with_reducible refine (hurdlelaw11_knows.calls  t239 _ A62.out).mono ?_); rintro e w75 ⟨rfl, hb⟩; have n0_ := Aside0.mk (Kd.N_below (by (with_reducible repeat (first | apply Kd.N_alloc | apply Kd.N_drewN | apply Kd.N_drew)); exact HO_232000.out) hb); have n1_ := Aside0.mk (blk_below (g := gb222) (o := .cells #[.slice A0_0 l0_0.length c0_0, .int .u32 a0_1] 25 (0, 0)) (by (with_reducible repeat (first | refine blk_drewN ?_ _ | refine blk_drew ?_ | refine blk_alloc ?_ _)); exact BK222.out) hb); have n2_ := Aside0.mk (blk_below (g := gb223) (o := .cells #[.int .u32 a1_0, .int .u32 a1_1, .slice A1_2 l1_2.length c1_2, .int .u32 a0_1] 40 (0, 0)) (by (with_reducible repeat (first | refine blk_drewN ?_ _ | refine blk_drew ?_ | refine blk_alloc ?_ _)); exact BK223.out) hb); have n3_ := Aside0.mk (blk_below (g := gb224) (o := .cells #[.int .u32 a2_0, .int .u32 a2_1, .int .u64 a2_2, .int .u64 a2_3, .int .u64 a2_4, .int .u64 a2_5, .int .u64 a2_6, .int .u64 a2_7, .int .u64 a2_8] 44 (0, 0)) (by (with_reducible repeat (first | refine blk_drewN ?_ _ | refine blk_drew ?_ | refine blk_alloc ?_ _)); exact BK224.out) hb); have n4_ := Aside0.mk (blk_below (g := gb231) (o := .cells #[.slice Ao32 t227.length co32, .int .u32 t230] 25 (0, 0)) (by (with_reducible repeat (first | refine blk_drewN ?_ _ | refine blk_drew ?_ | refine blk_alloc ?_ _)); exact BK231.out) hb); have n5_ := Aside0.mk (below_step (by repeat (first | (with_reducible first | exact HB.out | apply below_alloc | apply pw_below_drewN | apply below_drew1 | refine below_set ?_ GE222.out | refine below_set ?_ GE223.out | refine below_set ?_ GE224.out | refine below_set ?_ GE231.out) | exact HB.out)) hb); clear HO_232000; clear BK222; clear BK223; clear BK224; clear BK231; clear HB; have HO_232000 := n0_; have BK222 := n1_; have BK223 := n2_; have BK224 := n3_; have BK231 := n4_; have HB := n5_; clear n0_ n1_ n2_ n3_ n4_ n5_; (try clear hb); (try clear hb2); (try clear hk); (try clear hi)))
                go_ret
                exact ⟨by first | rfl | (simp [errW_none, errW_some] <;> rfl) | (simp [*, errW_none, errW_some] <;> rfl), by repeat (first | (with_reducible first | exact HB.out | apply below_alloc | apply pw_below_drewN | apply below_drew1 | refine below_set ?_ GE222.out | refine below_set ?_ GE223.out | refine below_set ?_ GE224.out | refine below_set ?_ GE231.out) | exact HB.out)⟩
              · rw [if_neg c61] at H
                have c61b0 : (t238 == 0) = false := beq_eq_false_iff_ne.mpr c61
                have c61b1 : (t238 != 0) = true := bne_iff_ne.mpr c61
                obtain rfl := Option.some.inj H
                have hnb76 := NB222_223.out
                have hnc76 := NB223_222.out
                have hnb77 := NB222_224.out
                have hnc77 := NB224_222.out
                have hnb78 := NB222_231.out
                have hnc78 := NB231_222.out
                have hcz79_0 : wc.cell? ⟨gb222, 0, none⟩ = some (.slice A0_0 l0_0.length c0_0) := (blk_cell BK222.out 0).trans rfl
                have hcz79_1 : wc.cell? ⟨gb222, 1, none⟩ = some (.int .u32 a0_1) := (blk_cell BK222.out 1).trans rfl
                have hfz79_0 := blk_frozen BK222.out 0
                have hfz79_1 := blk_frozen BK222.out 1
                have hnb80 := NB224_223.out
                have hnc80 := NB223_224.out
                have hnb81 := NB224_231.out
                have hnc81 := NB231_224.out
                have hcz82_0 : wc.cell? ⟨gb224, 0, none⟩ = some (.int .u32 a2_0) := (blk_cell BK224.out 0).trans rfl
                have hcz82_1 : wc.cell? ⟨gb224, 1, none⟩ = some (.int .u32 a2_1) := (blk_cell BK224.out 1).trans rfl
                have hcz82_2 : wc.cell? ⟨gb224, 2, none⟩ = some (.int .u64 a2_2) := (blk_cell BK224.out 2).trans rfl
                have hcz82_3 : wc.cell? ⟨gb224, 3, none⟩ = some (.int .u64 a2_3) := (blk_cell BK224.out 3).trans rfl
                have hcz82_4 : wc.cell? ⟨gb224, 4, none⟩ = some (.int .u64 a2_4) := (blk_cell BK224.out 4).trans rfl
                have hcz82_5 : wc.cell? ⟨gb224, 5, none⟩ = some (.int .u64 a2_5) := (blk_cell BK224.out 5).trans rfl
                have hcz82_6 : wc.cell? ⟨gb224, 6, none⟩ = some (.int .u64 a2_6) := (blk_cell BK224.out 6).trans rfl
                have hcz82_7 : wc.cell? ⟨gb224, 7, none⟩ = some (.int .u64 a2_7) := (blk_cell BK224.out 7).trans rfl
                have hcz82_8 : wc.cell? ⟨gb224, 8, none⟩ = some (.int .u64 a2_8) := (blk_cell BK224.out 8).trans rfl
                have hfz82_0 := blk_frozen BK224.out 0
                have hfz82_1 := blk_frozen BK224.out 1
                have hfz82_2 := blk_frozen BK224.out 2
                have hfz82_3 := blk_frozen BK224.out 3
                have hfz82_4 := blk_frozen BK224.out 4
                have hfz82_5 := blk_frozen BK224.out 5
                have hfz82_6 := blk_frozen BK224.out 6
                have hfz82_7 := blk_frozen BK224.out 7
                have hfz82_8 := blk_frozen BK224.out 8
                go_wp2_with (first | ((with_reducible refine gate_callee (f := 25) rfl ?_); refine goesL_ (some 36) rfl rfl Try.func25 (by kernel_rfl) rfl #[.agg #[.slice A0_0 l0_0.length c0_0, .int .u32 a0_1], .agg #[.int .u32 a2_0, .int .u32 a2_1, .int .u64 a2_2, .int .u64 a2_3, .int .u64 a2_4, .int .u64 a2_5, .int .u64 a2_6, .int .u64 a2_7, .int .u64 a2_8]] rfl (by (try simp only [List.map_toArray, List.map_cons, List.map_nil]); first | done | rfl | (simp only [List.length_drop, List.length_take]; rfl)) ?_; (with_reducible refine (denote_Judge.calls _ _ l0_0 a0_1 a2_0 a2_1 a2_2 a2_3 a2_4 a2_5 a2_6 a2_7 a2_8 t235 t236 _ ?side1 ?side2 A57.out).mono ?_); (case side1 => repeat (first | exact (Kd.C_below HR0_0.out HB.out) | (with_reducible refine Kd.C_alloc ?_ _) | (with_reducible refine Kd.C_drewN ?_ _) | (with_reducible refine Kd.C_drew ?_))); (case side2 => exact HC0_0.out); rintro e w83 ⟨rfl, hb⟩; refine ⟨_, rfl, ?_⟩; have n0_ := Aside0.mk (Kd.N_below (by (with_reducible repeat (first | apply Kd.N_alloc | apply Kd.N_drewN | apply Kd.N_drew)); exact HO_232000.out) hb); have n1_ := Aside0.mk (blk_below (g := gb222) (o := .cells #[.slice A0_0 l0_0.length c0_0, .int .u32 a0_1] 25 (0, 0)) (by (with_reducible repeat (first | refine blk_drewN ?_ _ | refine blk_drew ?_ | refine blk_alloc ?_ _)); exact BK222.out) hb); have n2_ := Aside0.mk (blk_below (g := gb223) (o := .cells #[.int .u32 a1_0, .int .u32 a1_1, .slice A1_2 l1_2.length c1_2, .int .u32 a0_1] 40 (0, 0)) (by (with_reducible repeat (first | refine blk_drewN ?_ _ | refine blk_drew ?_ | refine blk_alloc ?_ _)); exact BK223.out) hb); have n3_ := Aside0.mk (blk_below (g := gb224) (o := .cells #[.int .u32 a2_0, .int .u32 a2_1, .int .u64 a2_2, .int .u64 a2_3, .int .u64 a2_4, .int .u64 a2_5, .int .u64 a2_6, .int .u64 a2_7, .int .u64 a2_8] 44 (0, 0)) (by (with_reducible repeat (first | refine blk_drewN ?_ _ | refine blk_drew ?_ | refine blk_alloc ?_ _)); exact BK224.out) hb); have n4_ := Aside0.mk (blk_below (g := gb231) (o := .cells #[.slice Ao32 t227.length co32, .int .u32 t230] 25 (0, 0)) (by (with_reducible repeat (first | refine blk_drewN ?_ _ | refine blk_drew ?_ | refine blk_alloc ?_ _)); exact BK231.out) hb); have n5_ := Aside0.mk (below_step (by repeat (first | (with_reducible first | exact HB.out | apply below_alloc | apply pw_below_drewN | apply below_drew1 | refine below_set ?_ GE222.out | refine below_set ?_ GE223.out | refine below_set ?_ GE224.out | refine below_set ?_ GE231.out) | exact HB.out)) hb); clear HO_232000; clear BK222; clear BK223; clear BK224; clear BK231; clear HB; have HO_232000 := n0_; have BK222 := n1_; have BK223 := n2_; have BK224 := n3_; have BK231 := n4_; have HB := n5_; clear n0_ n1_ n2_ n3_ n4_ n5_; (try clear hb); (try clear hb2); (try clear hk); (try clear hi); have hnb84 := NB231_223.out; have hnc84 := NB223_231.out; have hcz85_0 : w83.cell? ⟨gb231, 0, none⟩ = some (.slice Ao32 t227.length co32) := (blk_cell BK231.out 0).trans rfl; have hcz85_1 : w83.cell? ⟨gb231, 1, none⟩ = some (.int .u32 t230) := (blk_cell BK231.out 1).trans rfl; have hfz85_0 := blk_frozen BK231.out 0; have hfz85_1 := blk_frozen BK231.out 1; have hcz86_0 : w83.cell? ⟨gb224, 0, none⟩ = some (.int .u32 a2_0) := (blk_cell BK224.out 0).trans rfl; have hcz86_1 : w83.cell? ⟨gb224, 1, none⟩ = some (.int .u32 a2_1) := (blk_cell BK224.out 1).trans rfl; have hcz86_2 : w83.cell? ⟨gb224, 2, none⟩ = some (.int .u64 a2_2) := (blk_cell BK224.out 2).trans rfl; have hcz86_3 : w83.cell? ⟨gb224, 3, none⟩ = some (.int .u64 a2_3) := (blk_cell BK224.out 3).trans rfl; have hcz86_4 : w83.cell? ⟨gb224, 4, none⟩ = some (.int .u64 a2_4) := (blk_cell BK224.out 4).trans rfl; have hcz86_5 : w83.cell? ⟨gb224, 5, none⟩ = some (.int .u64 a2_5) := (blk_cell BK224.out 5).trans rfl; have hcz86_6 : w83.cell? ⟨gb224, 6, none⟩ = some (.int .u64 a2_6) := (blk_cell BK224.out 6).trans rfl; have hcz86_7 : w83.cell? ⟨gb224, 7, none⟩ = some (.int .u64 a2_7) := (blk_cell BK224.out 7).trans rfl; have hcz86_8 : w83.cell? ⟨gb224, 8, none⟩ = some (.int .u64 a2_8) := (blk_cell BK224.out 8).trans rfl; have hfz86_0 := blk_frozen BK224.out 0; have hfz86_1 := blk_frozen BK224.out 1; have hfz86_2 := blk_frozen BK224.out 2; have hfz86_3 := blk_frozen BK224.out 3; have hfz86_4 := blk_frozen BK224.out 4; have hfz86_5 := blk_frozen BK224.out 5; have hfz86_6 := blk_frozen BK224.out 6; have hfz86_7 := blk_frozen BK224.out 7; have hfz86_8 := blk_frozen BK224.out 8) | ((with_reducible refine gate_callee (f := 25) rfl ?_); refine goesL_ (some 42) rfl rfl Try.func25 (by kernel_rfl) rfl #[.agg #[.slice Ao32 t227.length co32, .int .u32 t230], .agg #[.int .u32 a2_0, .int .u32 a2_1, .int .u64 a2_2, .int .u64 a2_3, .int .u64 a2_4, .int .u64 a2_5, .int .u64 a2_6, .int .u64 a2_7, .int .u64 a2_8]] rfl (by (try simp only [List.map_toArray, List.map_cons, List.map_nil]); first | done | rfl | (simp only [List.length_drop, List.length_take]; rfl)) ?_; (with_reducible refine (denote_Judge.calls _ _ t227 t230 a2_0 a2_1 a2_2 a2_3 a2_4 a2_5 a2_6 a2_7 a2_8 t237 t238 _ ?side1 ?side2 A58.out).mono ?_); (case side1 => repeat (first | exact (Kd.N_reads' HO_232000.out).2.2 | (with_reducible refine Kd.C_alloc ?_ _) | (with_reducible refine Kd.C_drewN ?_ _) | (with_reducible refine Kd.C_drew ?_))); (case side2 => exact (Kd.N_reads' HO_232000.out).2.1); rintro e w87 ⟨rfl, hb⟩; refine ⟨_, rfl, ?_⟩; have n0_ := Aside0.mk (Kd.N_below (by (with_reducible repeat (first | apply Kd.N_alloc | apply Kd.N_drewN | apply Kd.N_drew)); exact HO_232000.out) hb); have n1_ := Aside0.mk (blk_below (g := gb222) (o := .cells #[.slice A0_0 l0_0.length c0_0, .int .u32 a0_1] 25 (0, 0)) (by (with_reducible repeat (first | refine blk_drewN ?_ _ | refine blk_drew ?_ | refine blk_alloc ?_ _)); exact BK222.out) hb); have n2_ := Aside0.mk (blk_below (g := gb223) (o := .cells #[.int .u32 a1_0, .int .u32 a1_1, .slice A1_2 l1_2.length c1_2, .int .u32 a0_1] 40 (0, 0)) (by (with_reducible repeat (first | refine blk_drewN ?_ _ | refine blk_drew ?_ | refine blk_alloc ?_ _)); exact BK223.out) hb); have n3_ := Aside0.mk (blk_below (g := gb224) (o := .cells #[.int .u32 a2_0, .int .u32 a2_1, .int .u64 a2_2, .int .u64 a2_3, .int .u64 a2_4, .int .u64 a2_5, .int .u64 a2_6, .int .u64 a2_7, .int .u64 a2_8] 44 (0, 0)) (by (with_reducible repeat (first | refine blk_drewN ?_ _ | refine blk_drew ?_ | refine blk_alloc ?_ _)); exact BK224.out) hb); have n4_ := Aside0.mk (blk_below (g := gb231) (o := .cells #[.slice Ao32 t227.length co32, .int .u32 t230] 25 (0, 0)) (by (with_reducible repeat (first | refine blk_drewN ?_ _ | refine blk_drew ?_ | refine blk_alloc ?_ _)); exact BK231.out) hb); have n5_ := Aside0.mk (below_step (by repeat (first | (with_reducible first | exact HB.out | apply below_alloc | apply pw_below_drewN | apply below_drew1 | refine below_set ?_ GE222.out | refine below_set ?_ GE223.out | refine below_set ?_ GE224.out | refine below_set ?_ GE231.out) | exact HB.out)) hb); clear HO_232000; clear BK222; clear BK223; clear BK224; clear BK231; clear HB; have HO_232000 := n0_; have BK222 := n1_; have BK223 := n2_; have BK224 := n3_; have BK231 := n4_; have HB := n5_; clear n0_ n1_ n2_ n3_ n4_ n5_; (try clear hb); (try clear hb2); (try clear hk); (try clear hi)))
                go_ret
                exact ⟨by first | rfl | (simp [errW_none, errW_some] <;> rfl) | (simp [*, errW_none, errW_some] <;> rfl), by repeat (first | (with_reducible first | exact HB.out | apply below_alloc | apply pw_below_drewN | apply below_drew1 | refine below_set ?_ GE222.out | refine below_set ?_ GE223.out | refine below_set ?_ GE224.out | refine below_set ?_ GE231.out) | exact HB.out)⟩
            · rw [if_neg c60] at H
              have c60b0 : (t236 == 0) = false := beq_eq_false_iff_ne.mpr c60
              have c60b1 : (t236 != 0) = true := bne_iff_ne.mpr c60
              obtain rfl := Option.some.inj H
              have hnb88 := NB222_223.out
              have hnc88 := NB223_222.out
              have hnb89 := NB222_224.out
              have hnc89 := NB224_222.out
              have hnb90 := NB222_231.out
              have hnc90 := NB231_222.out
              have hcz91_0 : wc.cell? ⟨gb222, 0, none⟩ = some (.slice A0_0 l0_0.length c0_0) := (blk_cell BK222.out 0).trans rfl
              have hcz91_1 : wc.cell? ⟨gb222, 1, none⟩ = some (.int .u32 a0_1) := (blk_cell BK222.out 1).trans rfl
              have hfz91_0 := blk_frozen BK222.out 0
              have hfz91_1 := blk_frozen BK222.out 1
              have hnb92 := NB224_223.out
              have hnc92 := NB223_224.out
              have hnb93 := NB224_231.out
              have hnc93 := NB231_224.out
              have hcz94_0 : wc.cell? ⟨gb224, 0, none⟩ = some (.int .u32 a2_0) := (blk_cell BK224.out 0).trans rfl
              have hcz94_1 : wc.cell? ⟨gb224, 1, none⟩ = some (.int .u32 a2_1) := (blk_cell BK224.out 1).trans rfl
              have hcz94_2 : wc.cell? ⟨gb224, 2, none⟩ = some (.int .u64 a2_2) := (blk_cell BK224.out 2).trans rfl
              have hcz94_3 : wc.cell? ⟨gb224, 3, none⟩ = some (.int .u64 a2_3) := (blk_cell BK224.out 3).trans rfl
              have hcz94_4 : wc.cell? ⟨gb224, 4, none⟩ = some (.int .u64 a2_4) := (blk_cell BK224.out 4).trans rfl
              have hcz94_5 : wc.cell? ⟨gb224, 5, none⟩ = some (.int .u64 a2_5) := (blk_cell BK224.out 5).trans rfl
              have hcz94_6 : wc.cell? ⟨gb224, 6, none⟩ = some (.int .u64 a2_6) := (blk_cell BK224.out 6).trans rfl
              have hcz94_7 : wc.cell? ⟨gb224, 7, none⟩ = some (.int .u64 a2_7) := (blk_cell BK224.out 7).trans rfl
              have hcz94_8 : wc.cell? ⟨gb224, 8, none⟩ = some (.int .u64 a2_8) := (blk_cell BK224.out 8).trans rfl
              have hfz94_0 := blk_frozen BK224.out 0
              have hfz94_1 := blk_frozen BK224.out 1
              have hfz94_2 := blk_frozen BK224.out 2
              have hfz94_3 := blk_frozen BK224.out 3
              have hfz94_4 := blk_frozen BK224.out 4
              have hfz94_5 := blk_frozen BK224.out 5
              have hfz94_6 := blk_frozen BK224.out 6
              have hfz94_7 := blk_frozen BK224.out 7
              have hfz94_8 := blk_frozen BK224.out 8
              go_wp2_with (first | ((with_reducible refine gate_callee (f := 25) rfl ?_); refine goesL_ (some 36) rfl rfl Try.func25 (by kernel_rfl) rfl #[.agg #[.slice A0_0 l0_0.length c0_0, .int .u32 a0_1], .agg #[.int .u32 a2_0, .int .u32 a2_1, .int .u64 a2_2, .int .u64 a2_3, .int .u64 a2_4, .int .u64 a2_5, .int .u64 a2_6, .int .u64 a2_7, .int .u64 a2_8]] rfl (by (try simp only [List.map_toArray, List.map_cons, List.map_nil]); first | done | rfl | (simp only [List.length_drop, List.length_take]; rfl)) ?_; (with_reducible refine (denote_Judge.calls _ _ l0_0 a0_1 a2_0 a2_1 a2_2 a2_3 a2_4 a2_5 a2_6 a2_7 a2_8 t235 t236 _ ?side1 ?side2 A57.out).mono ?_); (case side1 => repeat (first | exact (Kd.C_below HR0_0.out HB.out) | (with_reducible refine Kd.C_alloc ?_ _) | (with_reducible refine Kd.C_drewN ?_ _) | (with_reducible refine Kd.C_drew ?_))); (case side2 => exact HC0_0.out); rintro e w95 ⟨rfl, hb⟩; refine ⟨_, rfl, ?_⟩; have n0_ := Aside0.mk (Kd.N_below (by (with_reducible repeat (first | apply Kd.N_alloc | apply Kd.N_drewN | apply Kd.N_drew)); exact HO_232000.out) hb); have n1_ := Aside0.mk (blk_below (g := gb222) (o := .cells #[.slice A0_0 l0_0.length c0_0, .int .u32 a0_1] 25 (0, 0)) (by (with_reducible repeat (first | refine blk_drewN ?_ _ | refine blk_drew ?_ | refine blk_alloc ?_ _)); exact BK222.out) hb); have n2_ := Aside0.mk (blk_below (g := gb223) (o := .cells #[.int .u32 a1_0, .int .u32 a1_1, .slice A1_2 l1_2.length c1_2, .int .u32 a0_1] 40 (0, 0)) (by (with_reducible repeat (first | refine blk_drewN ?_ _ | refine blk_drew ?_ | refine blk_alloc ?_ _)); exact BK223.out) hb); have n3_ := Aside0.mk (blk_below (g := gb224) (o := .cells #[.int .u32 a2_0, .int .u32 a2_1, .int .u64 a2_2, .int .u64 a2_3, .int .u64 a2_4, .int .u64 a2_5, .int .u64 a2_6, .int .u64 a2_7, .int .u64 a2_8] 44 (0, 0)) (by (with_reducible repeat (first | refine blk_drewN ?_ _ | refine blk_drew ?_ | refine blk_alloc ?_ _)); exact BK224.out) hb); have n4_ := Aside0.mk (blk_below (g := gb231) (o := .cells #[.slice Ao32 t227.length co32, .int .u32 t230] 25 (0, 0)) (by (with_reducible repeat (first | refine blk_drewN ?_ _ | refine blk_drew ?_ | refine blk_alloc ?_ _)); exact BK231.out) hb); have n5_ := Aside0.mk (below_step (by repeat (first | (with_reducible first | exact HB.out | apply below_alloc | apply pw_below_drewN | apply below_drew1 | refine below_set ?_ GE222.out | refine below_set ?_ GE223.out | refine below_set ?_ GE224.out | refine below_set ?_ GE231.out) | exact HB.out)) hb); clear HO_232000; clear BK222; clear BK223; clear BK224; clear BK231; clear HB; have HO_232000 := n0_; have BK222 := n1_; have BK223 := n2_; have BK224 := n3_; have BK231 := n4_; have HB := n5_; clear n0_ n1_ n2_ n3_ n4_ n5_; (try clear hb); (try clear hb2); (try clear hk); (try clear hi); have hnb96 := NB231_223.out; have hnc96 := NB223_231.out; have hcz97_0 : w95.cell? ⟨gb231, 0, none⟩ = some (.slice Ao32 t227.length co32) := (blk_cell BK231.out 0).trans rfl; have hcz97_1 : w95.cell? ⟨gb231, 1, none⟩ = some (.int .u32 t230) := (blk_cell BK231.out 1).trans rfl; have hfz97_0 := blk_frozen BK231.out 0; have hfz97_1 := blk_frozen BK231.out 1; have hcz98_0 : w95.cell? ⟨gb224, 0, none⟩ = some (.int .u32 a2_0) := (blk_cell BK224.out 0).trans rfl; have hcz98_1 : w95.cell? ⟨gb224, 1, none⟩ = some (.int .u32 a2_1) := (blk_cell BK224.out 1).trans rfl; have hcz98_2 : w95.cell? ⟨gb224, 2, none⟩ = some (.int .u64 a2_2) := (blk_cell BK224.out 2).trans rfl; have hcz98_3 : w95.cell? ⟨gb224, 3, none⟩ = some (.int .u64 a2_3) := (blk_cell BK224.out 3).trans rfl; have hcz98_4 : w95.cell? ⟨gb224, 4, none⟩ = some (.int .u64 a2_4) := (blk_cell BK224.out 4).trans rfl; have hcz98_5 : w95.cell? ⟨gb224, 5, none⟩ = some (.int .u64 a2_5) := (blk_cell BK224.out 5).trans rfl; have hcz98_6 : w95.cell? ⟨gb224, 6, none⟩ = some (.int .u64 a2_6) := (blk_cell BK224.out 6).trans rfl; have hcz98_7 : w95.cell? ⟨gb224, 7, none⟩ = some (.int .u64 a2_7) := (blk_cell BK224.out 7).trans rfl; have hcz98_8 : w95.cell? ⟨gb224, 8, none⟩ = some (.int .u64 a2_8) := (blk_cell BK224.out 8).trans rfl; have hfz98_0 := blk_frozen BK224.out 0; have hfz98_1 := blk_frozen BK224.out 1; have hfz98_2 := blk_frozen BK224.out 2; have hfz98_3 := blk_frozen BK224.out 3; have hfz98_4 := blk_frozen BK224.out 4; have hfz98_5 := blk_frozen BK224.out 5; have hfz98_6 := blk_frozen BK224.out 6; have hfz98_7 := blk_frozen BK224.out 7; have hfz98_8 := blk_frozen BK224.out 8) | ((with_reducible refine gate_callee (f := 25) rfl ?_); refine goesL_ (some 42) rfl rfl Try.func25 (by kernel_rfl) rfl #[.agg #[.slice Ao32 t227.length co32, .int .u32 t230], .agg #[.int .u32 a2_0, .int .u32 a2_1, .int .u64 a2_2, .int .u64 a2_3, .int .u64 a2_4, .int .u64 a2_5, .int .u64 a2_6, .int .u64 a2_7, .int .u64 a2_8]] rfl (by (try simp only [List.map_toArray, List.map_cons, List.map_nil]); first | done | rfl | (simp only [List.length_drop, List.length_take]; rfl)) ?_; (with_reducible refine (denote_Judge.calls _ _ t227 t230 a2_0 a2_1 a2_2 a2_3 a2_4 a2_5 a2_6 a2_7 a2_8 t237 t238 _ ?side1 ?side2 A58.out).mono ?_); (case side1 => repeat (first | exact (Kd.N_reads' HO_232000.out).2.2 | (with_reducible refine Kd.C_alloc ?_ _) | (with_reducible refine Kd.C_drewN ?_ _) | (with_reducible refine Kd.C_drew ?_))); (case side2 => exact (Kd.N_reads' HO_232000.out).2.1); rintro e w99 ⟨rfl, hb⟩; refine ⟨_, rfl, ?_⟩; have n0_ := Aside0.mk (Kd.N_below (by (with_reducible repeat (first | apply Kd.N_alloc | apply Kd.N_drewN | apply Kd.N_drew)); exact HO_232000.out) hb); have n1_ := Aside0.mk (blk_below (g := gb222) (o := .cells #[.slice A0_0 l0_0.length c0_0, .int .u32 a0_1] 25 (0, 0)) (by (with_reducible repeat (first | refine blk_drewN ?_ _ | refine blk_drew ?_ | refine blk_alloc ?_ _)); exact BK222.out) hb); have n2_ := Aside0.mk (blk_below (g := gb223) (o := .cells #[.int .u32 a1_0, .int .u32 a1_1, .slice A1_2 l1_2.length c1_2, .int .u32 a0_1] 40 (0, 0)) (by (with_reducible repeat (first | refine blk_drewN ?_ _ | refine blk_drew ?_ | refine blk_alloc ?_ _)); exact BK223.out) hb); have n3_ := Aside0.mk (blk_below (g := gb224) (o := .cells #[.int .u32 a2_0, .int .u32 a2_1, .int .u64 a2_2, .int .u64 a2_3, .int .u64 a2_4, .int .u64 a2_5, .int .u64 a2_6, .int .u64 a2_7, .int .u64 a2_8] 44 (0, 0)) (by (with_reducible repeat (first | refine blk_drewN ?_ _ | refine blk_drew ?_ | refine blk_alloc ?_ _)); exact BK224.out) hb); have n4_ := Aside0.mk (blk_below (g := gb231) (o := .cells #[.slice Ao32 t227.length co32, .int .u32 t230] 25 (0, 0)) (by (with_reducible repeat (first | refine blk_drewN ?_ _ | refine blk_drew ?_ | refine blk_alloc ?_ _)); exact BK231.out) hb); have n5_ := Aside0.mk (below_step (by repeat (first | (with_reducible first | exact HB.out | apply below_alloc | apply pw_below_drewN | apply below_drew1 | refine below_set ?_ GE222.out | refine below_set ?_ GE223.out | refine below_set ?_ GE224.out | refine below_set ?_ GE231.out) | exact HB.out)) hb); clear HO_232000; clear BK222; clear BK223; clear BK224; clear BK231; clear HB; have HO_232000 := n0_; have BK222 := n1_; have BK223 := n2_; have BK224 := n3_; have BK231 := n4_; have HB := n5_; clear n0_ n1_ n2_ n3_ n4_ n5_; (try clear hb); (try clear hb2); (try clear hk); (try clear hi)))
              go_ret
              exact ⟨by first | rfl | (simp [errW_none, errW_some] <;> rfl) | (simp [*, errW_none, errW_some] <;> rfl), by repeat (first | (with_reducible first | exact HB.out | apply below_alloc | apply pw_below_drewN | apply below_drew1 | refine below_set ?_ GE222.out | refine below_set ?_ GE223.out | refine below_set ?_ GE224.out | refine below_set ?_ GE231.out) | exact HB.out)⟩
          · rw [if_neg c59] at H
            have c59b0 : (t235 == t237) = false := beq_eq_false_iff_ne.mpr c59
            have c59b1 : (t235 != t237) = true := bne_iff_ne.mpr c59
            obtain rfl := Option.some.inj H
            have hnb100 := NB222_223.out
            have hnc100 := NB223_222.out
            have hnb101 := NB222_224.out
            have hnc101 := NB224_222.out
            have hnb102 := NB222_231.out
            have hnc102 := NB231_222.out
            have hcz103_0 : wc.cell? ⟨gb222, 0, none⟩ = some (.slice A0_0 l0_0.length c0_0) := (blk_cell BK222.out 0).trans rfl
            have hcz103_1 : wc.cell? ⟨gb222, 1, none⟩ = some (.int .u32 a0_1) := (blk_cell BK222.out 1).trans rfl
            have hfz103_0 := blk_frozen BK222.out 0
            have hfz103_1 := blk_frozen BK222.out 1
            have hnb104 := NB224_223.out
            have hnc104 := NB223_224.out
            have hnb105 := NB224_231.out
            have hnc105 := NB231_224.out
            have hcz106_0 : wc.cell? ⟨gb224, 0, none⟩ = some (.int .u32 a2_0) := (blk_cell BK224.out 0).trans rfl
            have hcz106_1 : wc.cell? ⟨gb224, 1, none⟩ = some (.int .u32 a2_1) := (blk_cell BK224.out 1).trans rfl
            have hcz106_2 : wc.cell? ⟨gb224, 2, none⟩ = some (.int .u64 a2_2) := (blk_cell BK224.out 2).trans rfl
            have hcz106_3 : wc.cell? ⟨gb224, 3, none⟩ = some (.int .u64 a2_3) := (blk_cell BK224.out 3).trans rfl
            have hcz106_4 : wc.cell? ⟨gb224, 4, none⟩ = some (.int .u64 a2_4) := (blk_cell BK224.out 4).trans rfl
            have hcz106_5 : wc.cell? ⟨gb224, 5, none⟩ = some (.int .u64 a2_5) := (blk_cell BK224.out 5).trans rfl
            have hcz106_6 : wc.cell? ⟨gb224, 6, none⟩ = some (.int .u64 a2_6) := (blk_cell BK224.out 6).trans rfl
            have hcz106_7 : wc.cell? ⟨gb224, 7, none⟩ = some (.int .u64 a2_7) := (blk_cell BK224.out 7).trans rfl
            have hcz106_8 : wc.cell? ⟨gb224, 8, none⟩ = some (.int .u64 a2_8) := (blk_cell BK224.out 8).trans rfl
            have hfz106_0 := blk_frozen BK224.out 0
            have hfz106_1 := blk_frozen BK224.out 1
            have hfz106_2 := blk_frozen BK224.out 2
            have hfz106_3 := blk_frozen BK224.out 3
            have hfz106_4 := blk_frozen BK224.out 4
            have hfz106_5 := blk_frozen BK224.out 5
            have hfz106_6 := blk_frozen BK224.out 6
            have hfz106_7 := blk_frozen BK224.out 7
            have hfz106_8 := blk_frozen BK224.out 8
            go_wp2_with (first | ((with_reducible refine gate_callee (f := 25) rfl ?_); refine goesL_ (some 36) rfl rfl Try.func25 (by kernel_rfl) rfl #[.agg #[.slice A0_0 l0_0.length c0_0, .int .u32 a0_1], .agg #[.int .u32 a2_0, .int .u32 a2_1, .int .u64 a2_2, .int .u64 a2_3, .int .u64 a2_4, .int .u64 a2_5, .int .u64 a2_6, .int .u64 a2_7, .int .u64 a2_8]] rfl (by (try simp only [List.map_toArray, List.map_cons, List.map_nil]); first | done | rfl | (simp only [List.length_drop, List.length_take]; rfl)) ?_; (with_reducible refine (denote_Judge.calls _ _ l0_0 a0_1 a2_0 a2_1 a2_2 a2_3 a2_4 a2_5 a2_6 a2_7 a2_8 t235 t236 _ ?side1 ?side2 A57.out).mono ?_); (case side1 => repeat (first | exact (Kd.C_below HR0_0.out HB.out) | (with_reducible refine Kd.C_alloc ?_ _) | (with_reducible refine Kd.C_drewN ?_ _) | (with_reducible refine Kd.C_drew ?_))); (case side2 => exact HC0_0.out); rintro e w107 ⟨rfl, hb⟩; refine ⟨_, rfl, ?_⟩; have n0_ := Aside0.mk (Kd.N_below (by (with_reducible repeat (first | apply Kd.N_alloc | apply Kd.N_drewN | apply Kd.N_drew)); exact HO_232000.out) hb); have n1_ := Aside0.mk (blk_below (g := gb222) (o := .cells #[.slice A0_0 l0_0.length c0_0, .int .u32 a0_1] 25 (0, 0)) (by (with_reducible repeat (first | refine blk_drewN ?_ _ | refine blk_drew ?_ | refine blk_alloc ?_ _)); exact BK222.out) hb); have n2_ := Aside0.mk (blk_below (g := gb223) (o := .cells #[.int .u32 a1_0, .int .u32 a1_1, .slice A1_2 l1_2.length c1_2, .int .u32 a0_1] 40 (0, 0)) (by (with_reducible repeat (first | refine blk_drewN ?_ _ | refine blk_drew ?_ | refine blk_alloc ?_ _)); exact BK223.out) hb); have n3_ := Aside0.mk (blk_below (g := gb224) (o := .cells #[.int .u32 a2_0, .int .u32 a2_1, .int .u64 a2_2, .int .u64 a2_3, .int .u64 a2_4, .int .u64 a2_5, .int .u64 a2_6, .int .u64 a2_7, .int .u64 a2_8] 44 (0, 0)) (by (with_reducible repeat (first | refine blk_drewN ?_ _ | refine blk_drew ?_ | refine blk_alloc ?_ _)); exact BK224.out) hb); have n4_ := Aside0.mk (blk_below (g := gb231) (o := .cells #[.slice Ao32 t227.length co32, .int .u32 t230] 25 (0, 0)) (by (with_reducible repeat (first | refine blk_drewN ?_ _ | refine blk_drew ?_ | refine blk_alloc ?_ _)); exact BK231.out) hb); have n5_ := Aside0.mk (below_step (by repeat (first | (with_reducible first | exact HB.out | apply below_alloc | apply pw_below_drewN | apply below_drew1 | refine below_set ?_ GE222.out | refine below_set ?_ GE223.out | refine below_set ?_ GE224.out | refine below_set ?_ GE231.out) | exact HB.out)) hb); clear HO_232000; clear BK222; clear BK223; clear BK224; clear BK231; clear HB; have HO_232000 := n0_; have BK222 := n1_; have BK223 := n2_; have BK224 := n3_; have BK231 := n4_; have HB := n5_; clear n0_ n1_ n2_ n3_ n4_ n5_; (try clear hb); (try clear hb2); (try clear hk); (try clear hi); have hnb108 := NB231_223.out; have hnc108 := NB223_231.out; have hcz109_0 : w107.cell? ⟨gb231, 0, none⟩ = some (.slice Ao32 t227.length co32) := (blk_cell BK231.out 0).trans rfl; have hcz109_1 : w107.cell? ⟨gb231, 1, none⟩ = some (.int .u32 t230) := (blk_cell BK231.out 1).trans rfl; have hfz109_0 := blk_frozen BK231.out 0; have hfz109_1 := blk_frozen BK231.out 1; have hcz110_0 : w107.cell? ⟨gb224, 0, none⟩ = some (.int .u32 a2_0) := (blk_cell BK224.out 0).trans rfl; have hcz110_1 : w107.cell? ⟨gb224, 1, none⟩ = some (.int .u32 a2_1) := (blk_cell BK224.out 1).trans rfl; have hcz110_2 : w107.cell? ⟨gb224, 2, none⟩ = some (.int .u64 a2_2) := (blk_cell BK224.out 2).trans rfl; have hcz110_3 : w107.cell? ⟨gb224, 3, none⟩ = some (.int .u64 a2_3) := (blk_cell BK224.out 3).trans rfl; have hcz110_4 : w107.cell? ⟨gb224, 4, none⟩ = some (.int .u64 a2_4) := (blk_cell BK224.out 4).trans rfl; have hcz110_5 : w107.cell? ⟨gb224, 5, none⟩ = some (.int .u64 a2_5) := (blk_cell BK224.out 5).trans rfl; have hcz110_6 : w107.cell? ⟨gb224, 6, none⟩ = some (.int .u64 a2_6) := (blk_cell BK224.out 6).trans rfl; have hcz110_7 : w107.cell? ⟨gb224, 7, none⟩ = some (.int .u64 a2_7) := (blk_cell BK224.out 7).trans rfl; have hcz110_8 : w107.cell? ⟨gb224, 8, none⟩ = some (.int .u64 a2_8) := (blk_cell BK224.out 8).trans rfl; have hfz110_0 := blk_frozen BK224.out 0; have hfz110_1 := blk_frozen BK224.out 1; have hfz110_2 := blk_frozen BK224.out 2; have hfz110_3 := blk_frozen BK224.out 3; have hfz110_4 := blk_frozen BK224.out 4; have hfz110_5 := blk_frozen BK224.out 5; have hfz110_6 := blk_frozen BK224.out 6; have hfz110_7 := blk_frozen BK224.out 7; have hfz110_8 := blk_frozen BK224.out 8) | ((with_reducible refine gate_callee (f := 25) rfl ?_); refine goesL_ (some 42) rfl rfl Try.func25 (by kernel_rfl) rfl #[.agg #[.slice Ao32 t227.length co32, .int .u32 t230], .agg #[.int .u32 a2_0, .int .u32 a2_1, .int .u64 a2_2, .int .u64 a2_3, .int .u64 a2_4, .int .u64 a2_5, .int .u64 a2_6, .int .u64 a2_7, .int .u64 a2_8]] rfl (by (try simp only [List.map_toArray, List.map_cons, List.map_nil]); first | done | rfl | (simp only [List.length_drop, List.length_take]; rfl)) ?_; (with_reducible refine (denote_Judge.calls _ _ t227 t230 a2_0 a2_1 a2_2 a2_3 a2_4 a2_5 a2_6 a2_7 a2_8 t237 t238 _ ?side1 ?side2 A58.out).mono ?_); (case side1 => repeat (first | exact (Kd.N_reads' HO_232000.out).2.2 | (with_reducible refine Kd.C_alloc ?_ _) | (with_reducible refine Kd.C_drewN ?_ _) | (with_reducible refine Kd.C_drew ?_))); (case side2 => exact (Kd.N_reads' HO_232000.out).2.1); rintro e w111 ⟨rfl, hb⟩; refine ⟨_, rfl, ?_⟩; have n0_ := Aside0.mk (Kd.N_below (by (with_reducible repeat (first | apply Kd.N_alloc | apply Kd.N_drewN | apply Kd.N_drew)); exact HO_232000.out) hb); have n1_ := Aside0.mk (blk_below (g := gb222) (o := .cells #[.slice A0_0 l0_0.length c0_0, .int .u32 a0_1] 25 (0, 0)) (by (with_reducible repeat (first | refine blk_drewN ?_ _ | refine blk_drew ?_ | refine blk_alloc ?_ _)); exact BK222.out) hb); have n2_ := Aside0.mk (blk_below (g := gb223) (o := .cells #[.int .u32 a1_0, .int .u32 a1_1, .slice A1_2 l1_2.length c1_2, .int .u32 a0_1] 40 (0, 0)) (by (with_reducible repeat (first | refine blk_drewN ?_ _ | refine blk_drew ?_ | refine blk_alloc ?_ _)); exact BK223.out) hb); have n3_ := Aside0.mk (blk_below (g := gb224) (o := .cells #[.int .u32 a2_0, .int .u32 a2_1, .int .u64 a2_2, .int .u64 a2_3, .int .u64 a2_4, .int .u64 a2_5, .int .u64 a2_6, .int .u64 a2_7, .int .u64 a2_8] 44 (0, 0)) (by (with_reducible repeat (first | refine blk_drewN ?_ _ | refine blk_drew ?_ | refine blk_alloc ?_ _)); exact BK224.out) hb); have n4_ := Aside0.mk (blk_below (g := gb231) (o := .cells #[.slice Ao32 t227.length co32, .int .u32 t230] 25 (0, 0)) (by (with_reducible repeat (first | refine blk_drewN ?_ _ | refine blk_drew ?_ | refine blk_alloc ?_ _)); exact BK231.out) hb); have n5_ := Aside0.mk (below_step (by repeat (first | (with_reducible first | exact HB.out | apply below_alloc | apply pw_below_drewN | apply below_drew1 | refine below_set ?_ GE222.out | refine below_set ?_ GE223.out | refine below_set ?_ GE224.out | refine below_set ?_ GE231.out) | exact HB.out)) hb); clear HO_232000; clear BK222; clear BK223; clear BK224; clear BK231; clear HB; have HO_232000 := n0_; have BK222 := n1_; have BK223 := n2_; have BK224 := n3_; have BK231 := n4_; have HB := n5_; clear n0_ n1_ n2_ n3_ n4_ n5_; (try clear hb); (try clear hb2); (try clear hk); (try clear hi)))
            go_ret
            exact ⟨by first | rfl | (simp [errW_none, errW_some] <;> rfl) | (simp [*, errW_none, errW_some] <;> rfl), by repeat (first | (with_reducible first | exact HB.out | apply below_alloc | apply pw_below_drewN | apply below_drew1 | refine below_set ?_ GE222.out | refine below_set ?_ GE223.out | refine below_set ?_ GE224.out | refine below_set ?_ GE231.out) | exact HB.out)⟩
end Go.Proofs.Ytekpbgmmogpbdaa.D
set_option linter.unusedVariables false
set_option linter.unusedSimpArgs false
set_option maxRecDepth 100000
namespace Go.Proofs.Ytekpbgmmogpbdaa.H
open Go.RowKit Go.Proofs.YtekpbgmmogpbdaaW.PrintWords Go.ChangeShapes Go.WideShapes
section
variable {H : Type} {enc : TypeId × Value → H} {P : Program} {w : World} {base : Nat} {spare : Nat → Bool} {held : Bool} {fuel : Nat} {t : TypeId} {cs : List Value} {x : DataW H × List MemPlace}
theorem trod_arr_ints {n : Nat} {e : TypeId} {k : IntKind} (ht : P.underlying t = some (.array n e)) (he : P.underlying e = some (.int k)) (hc : P.cellsOf e = 1) (hct : P.cellsOf t = n)
    (h : DataW.trod enc P w base spare held fuel t cs = some x) :
    ∃ xs : List Int, xs.length = n ∧ cs = nums k xs ∧ x.2 = [] ∧ ∀ i, i < n → (Lit.int k (xs.getD i 0)).wf = true := by
  obtain ⟨ys, m, _, rfl, hl, hly, hf⟩ := DataW.trod_array ht h
  rw [hct] at hl
  have key : ∀ i, i < n → ∃ z y, cs[i]? = some (.int k z) ∧ ys[i]? = some y ∧ y.2 = [] ∧ (Lit.int k z).wf = true := by
    intro i hi
    have h1 := hf i hi
    rw [hc, Nat.mul_one, List.getElem?_eq_getElem (show i < ys.length by omega)] at h1
    obtain ⟨z, h2, h3, h4⟩ := DataW.trod_int he h1
    refine ⟨z, ys[i]'(by omega), ?_, List.getElem?_eq_getElem (by omega), by rw [h3], h4⟩
    have h5 : (cs.drop i).take 1 = [cs[i]'(by omega)] := by
      rw [List.take_one, List.head?_drop, List.getElem?_eq_getElem (show i < cs.length by omega)]
      rfl
    rw [h5] at h2
    rw [List.getElem?_eq_getElem (show i < cs.length by omega)]
    simpa using h2
  refine ⟨cs.map intOf, by simpa using hl, ?_, ?_, ?_⟩
  · apply List.ext_getElem?
    intro i
    by_cases hi : i < n
    · obtain ⟨z, y, h1, _⟩ := key i hi
      simp [nums, h1, intOf]
    · rw [List.getElem?_eq_none (by omega), List.getElem?_eq_none (by simp [nums]; omega)]
  · show ys.flatMap (·.2) = []
    rw [List.flatMap_eq_nil_iff]
    intro y hy
    obtain ⟨i, hi, rfl⟩ := List.mem_iff_getElem.1 hy
    obtain ⟨z, y, _, h2, h3, _⟩ := key i (by omega)
    rw [List.getElem?_eq_getElem hi] at h2
    cases h2
    exact h3
  · intro i hi
    obtain ⟨z, y, h1, _, _, h4⟩ := key i hi
    rw [show (cs.map intOf).getD i 0 = z by simp [List.getD_eq_getElem?_getD, h1, intOf]]
    exact h4
end
end Go.Proofs.Ytekpbgmmogpbdaa.H
set_option linter.unusedVariables false
set_option linter.unusedSimpArgs false
set_option maxRecDepth 100000
namespace Go.Proofs.Ytekpbgmmogpbdaa.H
open Go.RowKit Go.Proofs.Ytekpbgmmogpbdaa.P Go.Proofs.YtekpbgmmogpbdaaW.PrintWords Go.ChangeShapes Go.WideShapes
section
variable {H : Type} {enc : TypeId × Value → H} {w : World} {base : Nat} {spare : Nat → Bool} {held : Bool} {fuel : Nat} {x : DataW H × List MemPlace}
theorem open_kd {α : Type} (d : Kd α) (Q : α → Prop) {t e : TypeId} (ht : Try.prog.underlying t = some (.slice e)) (hs : Try.prog.cellsOf e = d.sz) {cs : List Value}
    (el : ∀ (n : Nat) (cs : List Value) (x : DataW H × List MemPlace), cs.length = d.sz → DataW.trod enc Try.prog w base spare held n e cs = some x → ∃ a : α, d.K w a cs ∧ Q a)
    (h : DataW.trod enc Try.prog w base spare held fuel t cs = some x) :
    ∃ A c L, cs = [.slice A L.length c] ∧ L.length ≤ c ∧ d.C w A L.length L ∧ ∀ a ∈ L, Q a := by
  rcases DataW.trod_slice ht h with ⟨rfl, _⟩ | ⟨a, len, cap, elems, rest, n, _, rfl, _, hb, hl, hm, hlen, hel, _⟩
  · exact ⟨none, 0, [], rfl, Nat.le_refl _, ⟨rfl, by simp, fun h => absurd h (by simp)⟩, by simp⟩
  · have key : ∀ i, i < len → ∃ cs', w.cells? base (a.add (i * d.sz)) d.sz = some cs' ∧ ∃ z : α, d.K w z cs' ∧ Q z := by
      intro i hi
      have h1 := hel i hi
      rw [hs, List.getElem?_eq_getElem (show i < elems.length by omega)] at h1
      obtain ⟨cs', h2, h3⟩ := Option.bind_eq_some_iff.1 h1
      exact ⟨cs', h2, el n cs' _ (World.cells?_some h2).2.1 h3⟩
    have : ∃ L : List α, L.length = len ∧ ∀ i (hi : i < L.length), ∃ cs', w.cells? base (a.add (i * d.sz)) d.sz = some cs' ∧ d.K w L[i] cs' ∧ Q L[i] := by
      have : ∀ m, m ≤ len → ∃ L : List α, L.length = m ∧ ∀ i (hi : i < L.length), ∃ cs', w.cells? base (a.add (i * d.sz)) d.sz = some cs' ∧ d.K w L[i] cs' ∧ Q L[i] := by
        intro m
        induction m with
        | zero => intro _; exact ⟨[], rfl, fun i hi => absurd hi (by simp)⟩
        | succ m ih =>
          intro hm
          obtain ⟨L, hL, hp⟩ := ih (by omega)
          obtain ⟨cs', h1, z, h2, h3⟩ := key m (by omega)
          refine ⟨L ++ [z], by simp [hL], fun i hi => ?_⟩
          by_cases hlt : i < L.length
          · obtain ⟨c2, g1, g2, g3⟩ := hp i hlt
            exact ⟨c2, g1, by rw [List.getElem_append_left hlt]; exact g2, by rw [List.getElem_append_left hlt]; exact g3⟩
          · have e : i = m := by simp at hi; omega
            subst e
            have hz : (L ++ [z])[i] = z := by rw [List.getElem_append_right (by omega)]; simp [hL]
            exact ⟨cs', h1, by rw [hz]; exact h2, by rw [hz]; exact h3⟩
      exact this len (Nat.le_refl _)
    obtain ⟨L, hL, hp⟩ := this
    subst hL
    refine ⟨some a, cap, L, rfl, hl, ⟨rfl, ?_, fun _ => ⟨a, rfl, fun j p hj => ?_⟩⟩, fun z hz => ?_⟩
    · unfold maxLen at hm; omega
    · obtain ⟨hlt, rfl⟩ := List.getElem?_eq_some_iff.1 hj
      obtain ⟨cs', h1, h2, h3⟩ := hp j hlt
      obtain ⟨_, h5, h6⟩ := World.cells?_some h1
      refine ⟨cs', h5, h2, fun i u hu => ?_⟩
      have hi : i < d.sz := by rw [← h5]; exact (List.getElem?_eq_some_iff.1 hu).1
      have := h6 i hi
      rw [hu] at this
      rw [← Go.Proofs.YtekpbgmmogpbdaaW.PrintWords.add_add]
      exact this
    · obtain ⟨i, hi, rfl⟩ := List.mem_iff_getElem.1 hz
      obtain ⟨_, _, _, h⟩ := hp i hi
      exact h
theorem wf32 {n : Int} (h : (Lit.int .u32 n).wf = true) : u32P n := by have := bounds_u32 h; unfold u32P; omega
theorem wf64 {n : Int} (h : (Lit.int .u64 n).wf = true) : u64P n := by have := bounds_u64 h; unfold u64P; omega
theorem el_cond (n : Nat) (cs : List Value) (x : DataW H × List MemPlace) (hl : cs.length = 4) (h : DataW.trod enc Try.prog w base spare held n 61 cs = some x) : ∃ a : S61, k61.K w a cs ∧ condK a := by
  obtain ⟨xs, m, _, hx, hl2, hlx, hfi⟩ := DataW.trod_struct Try.underlying61 h
  have h1 : Try.prog.cellsOf 3 = 1 := by kernel_rfl
  have h2 : Try.prog.cellsOf 41 = 1 := by kernel_rfl
  match cs, hl with
  | [c0, c1, c2, c3], _ =>
    match xs, hlx with
    | [y0, y1, y2, y3], _ =>
      have f0 : DataW.trod enc Try.prog w base spare held m 3 ((List.drop 0 [c0, c1, c2, c3]).take (Try.prog.cellsOf 3)) = some y0 := hfi 0 _ rfl
      have f1 : DataW.trod enc Try.prog w base spare held m 3 ((List.drop 1 [c0, c1, c2, c3]).take (Try.prog.cellsOf 3)) = some y1 := hfi 1 _ rfl
      have f2 : DataW.trod enc Try.prog w base spare held m 41 ((List.drop 2 [c0, c1, c2, c3]).take (Try.prog.cellsOf 41)) = some y2 := hfi 2 _ rfl
      have f3 : DataW.trod enc Try.prog w base spare held m 41 ((List.drop 3 [c0, c1, c2, c3]).take (Try.prog.cellsOf 41)) = some y3 := hfi 3 _ rfl
      simp only [h1, h2, Value.cells, List.drop_zero, List.drop_succ_cons, List.take_succ_cons, List.take_zero] at f0 f1 f2 f3
      obtain ⟨x0, e0, g0, w0⟩ := DataW.trod_int Try.underlying3 f0
      obtain ⟨x1, e1, g1, w1⟩ := DataW.trod_int Try.underlying3 f1
      obtain ⟨x2, e2, g2, w2⟩ := DataW.trod_int Try.underlying41 f2
      obtain ⟨x3, e3, g3, w3⟩ := DataW.trod_int Try.underlying41 f3
      simp only [List.cons.injEq, and_true] at e0 e1 e2 e3
      subst e0 e1 e2 e3
      exact ⟨⟨x0, x1, x2, x3⟩, k61_mk w ⟨x0, x1, x2, x3⟩, wf64 w2, wf64 w3⟩
theorem el_rule (n : Nat) (cs : List Value) (x : DataW H × List MemPlace) (hl : cs.length = 4) (h : DataW.trod enc Try.prog w base spare held n 40 cs = some x) : ∃ a : S40, k40.K w a cs ∧ ruleK a := by
  obtain ⟨xs, m, _, hx, hl2, hlx, hfi⟩ := DataW.trod_struct Try.underlying40 h
  have h1 : Try.prog.cellsOf 23 = 1 := by kernel_rfl
  have h2 : Try.prog.cellsOf 38 = 1 := by kernel_rfl
  match cs, hl with
  | [c0, c1, c2, c3], _ =>
    match xs, hlx with
    | [y0, y1, y2, y3], _ =>
      have f0 : DataW.trod enc Try.prog w base spare held m 23 ((List.drop 0 [c0, c1, c2, c3]).take (Try.prog.cellsOf 23)) = some y0 := hfi 0 _ rfl
      have f1 : DataW.trod enc Try.prog w base spare held m 23 ((List.drop 1 [c0, c1, c2, c3]).take (Try.prog.cellsOf 23)) = some y1 := hfi 1 _ rfl
      have f2 : DataW.trod enc Try.prog w base spare held m 38 ((List.drop 2 [c0, c1, c2, c3]).take (Try.prog.cellsOf 38)) = some y2 := hfi 2 _ rfl
      have f3 : DataW.trod enc Try.prog w base spare held m 23 ((List.drop 3 [c0, c1, c2, c3]).take (Try.prog.cellsOf 23)) = some y3 := hfi 3 _ rfl
      simp only [h1, h2, Value.cells, List.drop_zero, List.drop_succ_cons, List.take_succ_cons, List.take_zero] at f0 f1 f2 f3
      obtain ⟨x0, e0, g0, w0⟩ := DataW.trod_int Try.underlying23 f0
      obtain ⟨x1, e1, g1, w1⟩ := DataW.trod_int Try.underlying23 f1
      obtain ⟨A, c, L, e2, hc, hr, hk⟩ := open_kd k61 condK Try.underlying38 (by kernel_rfl) el_cond f2
      obtain ⟨x3, e3, g3, w3⟩ := DataW.trod_int Try.underlying23 f3
      simp only [List.cons.injEq, and_true] at e0 e1 e2 e3
      subst e0 e1 e2 e3
      exact ⟨⟨x0, x1, L, x3⟩, k40_mk w ⟨x0, x1, L, x3⟩ hc hr, wf32 w0, wf32 w1, wf32 w3, hk⟩
theorem open_policy {r : Reach} {b0 : Nat} {v : Value} {d : DataW H} {ps : List MemPlace} (hval : Value.okWide Try.prog w r b0 25 v) (hd : DataW.Trod enc Try.prog w base spare held 25 v d ps) :
    ∃ (A : Option Addr) (c : Nat) (L : List S40) (df : Int), v = .agg #[.slice A L.length c, .int .u32 df] ∧ L.length ≤ c ∧ k40.C w A L.length L ∧ polK L df := by
  obtain ⟨cs, rfl, hsz⟩ := okWide_struct Try.underlying25 hval
  obtain ⟨fuel, hf⟩ := hd
  obtain ⟨xs, n, _, hx, hl, hlx, hfi⟩ := DataW.trod_struct Try.underlying25 hf
  have h9 : Try.prog.cellsOf 25 = 2 := by kernel_rfl
  have h1 : Try.prog.cellsOf 23 = 1 := by kernel_rfl
  have h2 : Try.prog.cellsOf 22 = 1 := by kernel_rfl
  have hc9 : cs.toList.length = 2 := by simpa [h9] using hsz
  obtain ⟨L, hL⟩ : ∃ L, cs.toList = L := ⟨_, rfl⟩
  have hcs : cs = L.toArray := by rw [← hL]
  rw [hL] at hc9
  subst hcs
  match L, hc9 with
  | [c0, c1], _ =>
    match xs, hlx with
    | [y0, y1], _ =>
      have f0 : DataW.trod enc Try.prog w base spare held n 22 ((List.drop 0 [c0, c1]).take (Try.prog.cellsOf 22)) = some y0 := hfi 0 _ rfl
      have f1 : DataW.trod enc Try.prog w base spare held n 23 ((List.drop 1 [c0, c1]).take (Try.prog.cellsOf 23)) = some y1 := hfi 1 _ rfl
      simp only [h1, h2, Value.cells, List.drop_zero, List.drop_succ_cons, List.take_succ_cons, List.take_zero] at f0 f1
      obtain ⟨A, c, L, e0, hc, hr, hk⟩ := open_kd k40 ruleK Try.underlying22 (by kernel_rfl) el_rule f0
      obtain ⟨df, e1, g1, w1⟩ := DataW.trod_int Try.underlying23 f1
      simp only [List.cons.injEq, and_true] at e0 e1
      subst e0 e1
      exact ⟨A, c, L, df, rfl, hc, hr, hk, wf32 w1⟩
theorem open_rule {r : Reach} {b0 : Nat} {v : Value} {d : DataW H} {ps : List MemPlace} (hval : Value.okWide Try.prog w r b0 40 v) (hd : DataW.Trod enc Try.prog w base spare held 40 v d ps) :
    ∃ (x0 x1 : Int) (A : Option Addr) (c : Nat) (L : List S61) (x3 : Int), v = .agg #[.int .u32 x0, .int .u32 x1, .slice A L.length c, .int .u32 x3] ∧ L.length ≤ c ∧ k61.C w A L.length L ∧ ruleK ⟨x0, x1, L, x3⟩ := by
  obtain ⟨cs, rfl, hsz⟩ := okWide_struct Try.underlying40 hval
  obtain ⟨fuel, hf⟩ := hd
  have h9 : Try.prog.cellsOf 40 = 4 := by kernel_rfl
  obtain ⟨a, ha, hk⟩ := el_rule fuel cs.toList _ (by simpa [h9] using hsz) hf
  obtain ⟨A2, c2, he, hl, hC⟩ := k40_open ha
  refine ⟨a.f0, a.f1, A2, c2, a.f2, a.f3, ?_, hl, hC, hk⟩
  have : cs = #[.int .u32 a.f0, .int .u32 a.f1, .slice A2 a.f2.length c2, .int .u32 a.f3] := by
    apply Array.toList_inj.1; rw [he]
  rw [this]
end
end Go.Proofs.Ytekpbgmmogpbdaa.H
set_option linter.unusedVariables false
set_option linter.unusedSimpArgs false
set_option maxRecDepth 100000
namespace Go.Proofs.Ytekpbgmmogpbdaa.H
open Go.RowKit Go.Proofs.YtekpbgmmogpbdaaW.PrintWords Go.ChangeShapes Go.WideShapes
section
variable {H : Type} {enc : TypeId × Value → H} {w : World} {base : Nat} {spare : Nat → Bool} {held : Bool}
theorem wf_bounds32 {n : Int} (h : (Lit.int .u32 n).wf = true) : 0 ≤ n ∧ n < 4294967296 := by have := bounds_u32 h; omega
theorem wf_bounds64 {n : Int} (h : (Lit.int .u64 n).wf = true) : 0 ≤ n ∧ n < 18446744073709551616 := by have := bounds_u64 h; omega
theorem open_data {r : Reach} {b0 : Nat} {v : Value} {d : DataW H} {ps : List MemPlace} (hval : Value.okWide Try.prog w r b0 44 v) (hd : DataW.Trod enc Try.prog w base spare held 44 v d ps) :
    ∃ x0 x1 x2 x3 x4 x5 x6 x7 x8 : Int, v = .agg #[.int .u32 x0, .int .u32 x1, .int .u64 x2, .int .u64 x3, .int .u64 x4, .int .u64 x5, .int .u64 x6, .int .u64 x7, .int .u64 x8] ∧ ps = [] ∧
      IsDat x0 x1 x2 [x3, x4, x5, x6, x7, x8] := by
  obtain ⟨cs, rfl, hsz⟩ := okWide_struct Try.underlying44 hval
  obtain ⟨fuel, hf⟩ := hd
  obtain ⟨xs, n, _, hx, hl, hlx, hfi⟩ := DataW.trod_struct Try.underlying44 hf
  simp only [Prod.mk.injEq] at hx
  have h9 : Try.prog.cellsOf 44 = 9 := by kernel_rfl
  have h1 : Try.prog.cellsOf 23 = 1 := by kernel_rfl
  have h2 : Try.prog.cellsOf 41 = 1 := by kernel_rfl
  have h6 : Try.prog.cellsOf 42 = 6 := by kernel_rfl
  have hc9 : cs.toList.length = 9 := by simpa [h9] using hsz
  obtain ⟨L, hL⟩ : ∃ L, cs.toList = L := ⟨_, rfl⟩
  have hcs : cs = L.toArray := by rw [← hL]
  rw [hL] at hc9
  subst hcs
  match L, hc9 with
  | [c0, c1, c2, c3, c4, c5, c6, c7, c8], _ =>
    match xs, hlx with
    | [y0, y1, y2, y3], _ =>
      have f0 : DataW.trod enc Try.prog w base spare held n 23 ((List.drop 0 [c0, c1, c2, c3, c4, c5, c6, c7, c8]).take (Try.prog.cellsOf 23)) = some y0 := hfi 0 _ rfl
      have f1 : DataW.trod enc Try.prog w base spare held n 23 ((List.drop 1 [c0, c1, c2, c3, c4, c5, c6, c7, c8]).take (Try.prog.cellsOf 23)) = some y1 := hfi 1 _ rfl
      have f2 : DataW.trod enc Try.prog w base spare held n 41 ((List.drop 2 [c0, c1, c2, c3, c4, c5, c6, c7, c8]).take (Try.prog.cellsOf 41)) = some y2 := hfi 2 _ rfl
      have f3 : DataW.trod enc Try.prog w base spare held n 42 ((List.drop 3 [c0, c1, c2, c3, c4, c5, c6, c7, c8]).take (Try.prog.cellsOf 42)) = some y3 := hfi 3 _ rfl
      simp only [h1, h2, h6, Value.cells, List.drop_zero, List.drop_succ_cons, List.take_succ_cons, List.take_zero, List.getElem?_cons_zero, List.getElem?_cons_succ] at f0 f1 f2 f3
      obtain ⟨x0, e0, g0, w0⟩ := DataW.trod_int Try.underlying23 f0
      obtain ⟨x1, e1, g1, w1⟩ := DataW.trod_int Try.underlying23 f1
      obtain ⟨x2, e2, g2, w2⟩ := DataW.trod_int Try.underlying41 f2
      obtain ⟨zs, hz, e3, g3, w3⟩ := trod_arr_ints Try.underlying42 Try.underlying41 h2 h6 f3
      match zs, hz with
      | [x3, x4, x5, x6, x7, x8], _ =>
        simp only [nums, List.map_cons, List.map_nil, List.cons.injEq, and_true] at e0 e1 e2 e3
        obtain ⟨rfl, rfl, rfl, rfl, rfl, rfl⟩ := e3
        subst e0 e1 e2
        refine ⟨x0, x1, x2, x3, x4, x5, x6, x7, x8, rfl, ?_, ⟨rfl, wf_bounds32 w0, wf_bounds32 w1, wf_bounds64 w2, fun k => by
          by_cases hk : k < 6
          · exact wf_bounds64 (w3 k hk)
          · rw [List.getD_eq_getElem?_getD, List.getElem?_eq_none (by simpa using hk)]; exact ⟨by decide, by decide⟩⟩⟩
        rw [hx.2]
        simp [g0, g1, g2, g3]
end
end Go.Proofs.Ytekpbgmmogpbdaa.H
set_option linter.unusedVariables false
set_option linter.unusedSimpArgs false
set_option maxRecDepth 100000
namespace Go.Proofs.Ytekpbgmmogpbdaa.H
open Go.RowKit Go.Proofs.YtekpbgmmogpbdaaW.PrintWords
open Go.Proofs.Ytekpbgmmogpbdaa.P (S61 S40 k61 k40)
theorem put_f (L : List S40) (df : Int) (i : Nat) (x : S40) (hl : L.length ≤ 1000) (hi : i ≤ L.length) :
    D.hurdlelaw11_put.f L df (i : Int) x.f0 x.f1 x.f2 x.f3 = some (L.take i ++ x :: L.drop i, df) := by
  unfold D.hurdlelaw11_put.f
  simp only [Option.bind_some, Int.toNat_natCast, List.nil_append, List.length_nil, List.length_take, List.length_append, List.length_cons, List.length_drop]
  rw [if_pos (by omega), if_pos (by omega), if_pos (by omega), if_pos (by omega), if_pos (by omega)]
  simp
theorem polOk_small {L : List S40} {df : Int} (h : polOk L df) : small L := ⟨by have := h.1; omega, fun x hx => by have := (h.2.1 x hx).2.2.2.1; omega⟩
theorem great_small {L : List S40} (h : greatB L = false) : small L := by
  obtain ⟨h1, h2⟩ := great_false h
  exact ⟨by omega, fun x hx => by have := h2 x hx; omega⟩
theorem judgeR_of {L : List S40} {df dn da : Int} {ags : List Int} (h : polB L df = true) : judgeR L df dn da ags = (judgeV L df dn da ags, 0) := by unfold judgeR judgeV; rw [if_pos h] <;> cases L.find? (fitX dn da ags) <;> rfl
theorem polK_put {L : List S40} {df : Int} {x : S40} (h : polK L df) (hx : ruleK x) (i : Nat) : polK (L.take i ++ x :: L.drop i) df := ⟨fun y hy => by
  rcases List.mem_append.1 hy with hy | hy
  · exact h.1 y (List.mem_of_mem_take hy)
  · rcases List.mem_cons.1 hy with rfl | hy
    · exact hx
    · exact h.1 y (List.mem_of_mem_drop hy), h.2⟩
theorem Judge_f {L : List S40} {df a0 a1 a2 a3 a4 a5 a6 a7 a8 : Int} (h : polOk L df) (hd : IsDat a0 a1 a2 [a3, a4, a5, a6, a7, a8]) : denote_Judge.f L df a0 a1 a2 a3 a4 a5 a6 a7 a8 = some (judgeV L df a0 a1 [a3, a4, a5, a6, a7, a8], 0) := by
  unfold denote_Judge.f
  rw [if_pos ⟨polOk_K h, polOk_small h, hd⟩, judgeR_of ((polOk_iff (polOk_K h)).2 h)]
theorem Right_f {L : List S40} {df : Int} (h : polK L df) : H.hurdleref10_Right.f L df = some (polB L df) := by
  unfold H.hurdleref10_Right.f
  rw [if_pos h]
theorem Great_f {L : List S40} {df : Int} (h : L.length ≤ 9223372036854775807) : H.hurdlelaw10_Great.f L df = some (greatB L) := by
  unfold H.hurdlelaw10_Great.f
  rw [if_pos h]
end Go.Proofs.Ytekpbgmmogpbdaa.H
set_option linter.unusedVariables false
set_option linter.unusedSimpArgs false
set_option maxRecDepth 100000
namespace Go.Proofs.Ytekpbgmmogpbdaa.H
open Go.RowKit Go.Proofs.YtekpbgmmogpbdaaW.PrintWords
open Go.Proofs.Ytekpbgmmogpbdaa.P (S61 S40 k61 k40)
theorem last_ev (L : List S40) (df : Int) (x : S40) (a0 a1 a2 a3 a4 a5 a6 a7 a8 : Int) (h : polK L df) (hx : ruleK x) (hd : IsDat a0 a1 a2 [a3, a4, a5, a6, a7, a8]) (hl : L.length ≤ 9223372036854775807) :
    Ev (fun k => D.hurdlelaw11_DenoteLast.f k L df x.f0 x.f1 x.f2 x.f3 a0 a1 a2 a3 a4 a5 a6 a7 a8) true := by
  unfold D.hurdlelaw11_DenoteLast.f
  rw [Great_f hl]
  simp only [Option.bind_some]
  by_cases hg : greatB L = true
  · exact Ev_pos hg (Ev.now _)
  · refine Ev_neg hg ?_
    obtain ⟨s1, s2⟩ := great_small (Bool.eq_false_iff.2 hg)
    have hp := put_f L df L.length ⟨x.f0, x.f1, x.f2, df⟩ s1 (Nat.le_refl _)
    have hx2 : ruleK ⟨x.f0, x.f1, x.f2, df⟩ := ⟨hx.1, hx.2.1, h.2, hx.2.2.2⟩
    have hK2 : polK (L ++ [⟨x.f0, x.f1, x.f2, df⟩]) df := by
      have := polK_put h hx2 L.length
      simpa using this
    simp only [List.take_length, List.drop_length] at hp
    rw [hp]
    simp only [Option.bind_some]
    rw [Right_f h]
    simp only [Option.bind_some]
    have hj : ∀ b : Bool, (b = false → polB L df = true ∧ polB (L ++ [⟨x.f0, x.f1, x.f2, df⟩]) df = true) → Ev (fun k => D.hurdlelaw11_DenoteLast.j0 k b L df a0 a1 a2 a3 a4 a5 a6 a7 a8 (L ++ [⟨x.f0, x.f1, x.f2, df⟩]) df) true := by
      intro b hb
      cases b with
      | true => exact Ev.step (f := fun _ => some true) (fun k => by simp only [D.hurdlelaw11_DenoteLast.j0, if_true, hurdlelaw11_knows.f, Option.bind_some]) (Ev.now _)
      | false =>
        obtain ⟨b1, b2⟩ := hb rfl
        have o1 := (polOk_iff h).1 b1
        have o2 := (polOk_iff hK2).1 b2
        refine Ev.step (f := fun _ => some true) (fun k => ?_) (Ev.now _)
        simp only [D.hurdlelaw11_DenoteLast.j0, Bool.false_eq_true, if_false, Judge_f o1 hd, Judge_f o2 hd, Option.bind_some, hurdlelaw11_knows.f]
        rw [if_pos, if_pos trivial, if_pos trivial]
        unfold judgeV
        rw [List.find?_append]
        cases hf : L.find? (fitX a0 a1 [a3, a4, a5, a6, a7, a8]) with
        | some y => rfl
        | none =>
          simp only [Option.none_or]
          by_cases hx : fitX a0 a1 [a3, a4, a5, a6, a7, a8] ⟨x.f0, x.f1, x.f2, df⟩ = true
          · rw [List.find?_cons_of_pos hx]
          · rw [List.find?_cons_of_neg hx]; rfl
    by_cases hb1 : polB L df = true
    · refine Ev_pos hb1 ?_
      rw [Right_f hK2]
      simp only [Option.bind_some]
      exact hj _ (fun hb => ⟨hb1, by simpa using hb⟩)
    · exact Ev_neg hb1 (hj true (by simp))
theorem DenoteLast_row (A : Option Addr) (c : Nat) (L : List S40) (df : Int) (r0 r1 : Int) (A2 : Option Addr) (c2 : Nat) (L2 : List S61) (r3 : Int) (a0 a1 a2 a3 a4 a5 a6 a7 a8 : Int) (W : World) (hc : L.length ≤ c) (hr : k40.C W A L.length L) (hk : polK L df) (hc2 : L2.length ≤ c2) (hr2 : k61.C W A2 L2.length L2) (hk2 : ruleK ⟨r0, r1, L2, r3⟩) (hd : IsDat a0 a1 a2 [a3, a4, a5, a6, a7, a8]) :
    Calls Try.prog 13 #[.agg #[.slice A L.length c, .int .u32 df], .agg #[.int .u32 r0, .int .u32 r1, .slice A2 L2.length c2, .int .u32 r3], .agg #[.int .u32 a0, .int .u32 a1, .int .u64 a2, .int .u64 a3, .int .u64 a4, .int .u64 a5, .int .u64 a6, .int .u64 a7, .int .u64 a8]] W fun e w' => e = .returned (.bool true) ∧ Below W.heap.size W w' := by
  obtain ⟨k, h⟩ := Ev.rounds (last_ev L df ⟨r0, r1, L2, r3⟩ a0 a1 a2 a3 a4 a5 a6 a7 a8 hk hk2 hd (C_len hr))
  exact (D.hurdlelaw11_DenoteLast.calls k A c L df r0 r1 A2 c2 L2 r3 a0 a1 a2 a3 a4 a5 a6 a7 a8 true W hr hc hr2 hc2 h).mono (fun e w' h => h)
end Go.Proofs.Ytekpbgmmogpbdaa.H
namespace Go.Proofs.Ytekpbgmmogpbdaa.denoteLast
open Go.ChangeShapes Go.WideShapes Go.ChangeAt Go.RowKit
open Go.ChangeMaps (open_string shut_string)
set_option linter.unusedVariables false
theorem laidOut : laidOutB Try.prog = true := by kernel_rfl
theorem own : ownKnob Try.prog.godebug = none := by kernel_rfl
set_option maxRecDepth 100000 in
theorem lifted (os : Os) (started : os.Started) (H : Type) (enc : TypeId × Value → H) :
    ReturnsInHanded {} Try.checked os 13 .any (Rows.denoteLastSpec.pre6 enc Try.prog Try.f13 Rows.denoteLastRow.domain false) (Rows.denoteLastSpec.post enc Try.prog Try.f13 false true false false) := by
  refine returnsInHanded_of_change_sized (C := Try.checked) own started (by kernel_rfl) Try.func13
    (ChangeSpec.witness6 (enc := enc) (C := Try.checked) false ⟨#[], #[.agg #[.slice none 0 0, .int .u32 0], .agg #[.int .u32 0, .int .u32 0, .slice none 0 0, .int .u32 0], .agg #[.int .u32 0, .int .u32 0, .int .u64 0, .int .u64 0, .int .u64 0, .int .u64 0, .int .u64 0, .int .u64 0, .int .u64 0]], []⟩ 8 (by kernel_rfl) (by kernel_rfl) (by kernel_rfl) (by kernel_rfl)) ?_
  intro W base args ds gs before hval0 hW hcnd hsz0 _
  have hsz : (DataW.weightsEach Try.prog (Try.f13.params.toList ++ Rows.denoteLastSpec.plain.varTypes Try.prog) (ds ++ gs)).all (· ≤ reachBytes) = true := hsz0
  have hval : ∀ (j : Nat) t v, Try.f13.params[j]? = some t → args[j]? = some v → Value.okWide Try.prog W .any base t v := hval0
  have hW' := hW
  obtain ⟨p, q, hA0, hV, rfl, hfz, hnd⟩ := hW
  have hA : DataW.TrodAll enc Try.prog W 0 (fun _ => true) true Try.f13.params.toList args.toList ds p := hA0
  rw [Try.params13] at hA hval hsz
  obtain ⟨v0, vs0, d0, ds0, p0, q0, hargs, rfl, rfl, h0, r0⟩ := trodAll_cons hA
  obtain ⟨v1, vs1, d1, ds1, p1, q1, rfl, rfl, rfl, h1, r1⟩ := trodAll_cons r0
  obtain ⟨v2, vs2, d2, ds2, p2, q2, rfl, rfl, rfl, h2, r2⟩ := trodAll_cons r1
  obtain ⟨rfl, rfl, rfl⟩ := trodAll_nil r2
  obtain rfl : args = #[v0, v1, v2] := by cases args; simp_all
  obtain ⟨rfl, rfl⟩ := trodVars_none hV
  have k0 := h0
  have lt0 : ∀ x ∈ p0, x.block < W.heap.size := by obtain ⟨m, hm⟩ := k0; exact DataW.trod_lt m _ _ _ hm
  obtain ⟨A0, c0, L0, f0, rfl, hc0, hr0, b0⟩ := Go.Proofs.Ytekpbgmmogpbdaa.H.open_policy (hval 0 25 v0 rfl rfl) h0
  have k1 := h1
  have lt1 : ∀ x ∈ p1, x.block < W.heap.size := by obtain ⟨m, hm⟩ := k1; exact DataW.trod_lt m _ _ _ hm
  obtain ⟨r1_0, r1_1, A1, c1, L1, r1_3, rfl, hc1, hr1, b1⟩ := Go.Proofs.Ytekpbgmmogpbdaa.H.open_rule (hval 1 40 v1 rfl rfl) h1
  have k2 := h2
  obtain ⟨a2_0, a2_1, a2_2, a2_3, a2_4, a2_5, a2_6, a2_7, a2_8, rfl, hp2, b2⟩ := Go.Proofs.Ytekpbgmmogpbdaa.H.open_data (hval 2 44 v2 rfl rfl) h2
  have lt2 : ∀ x ∈ p2, x.block < W.heap.size := by rw [hp2]; simp
  clear hA0 hval0 hsz0 hsz
  refine (Go.Proofs.Ytekpbgmmogpbdaa.H.DenoteLast_row A0 c0 L0 f0 r1_0 r1_1 A1 c1 L1 r1_3 a2_0 a2_1 a2_2 a2_3 a2_4 a2_5 a2_6 a2_7 a2_8 W hc0 hr0 b0 hc1 hr1 b1 b2).mono fun e W' ⟨he, bel⟩ => ?_
  subst he
  exact ⟨_, rfl, _, _, _, [], _, [], hW', trodAll_mk1 (shut_bool Try.underlying4 _), (trodAll_cons_mk (Below.trod laidOut (by kernel_rfl) (of_decide_eq_true (by kernel_rfl)) k0 bel lt0) (trodAll_cons_mk (Below.trod laidOut (by kernel_rfl) (of_decide_eq_true (by kernel_rfl)) k1 bel lt1) (trodAll_cons_mk (Below.trod laidOut (by kernel_rfl) (of_decide_eq_true (by kernel_rfl)) k2 bel lt2) trodAll_mk0))), rfl, bel.frame _, fun h => by cases h⟩
theorem over : Rows.denoteLastRow.holds Try.pinned (OpenSpec.ofChange Rows.denoteLastSpec) :=
  OpenClaim.holds_of_wide 13 Try.f13 rfl rfl rfl rfl rfl rfl rfl ⟨rfl, rfl, rfl, rfl, rfl⟩ rfl rfl rfl rfl rfl (by kernel_rfl) Try.func13 (by kernel_rfl)
    (of_decide_eq_true (by kernel_rfl)) (by unfold Func.isWrapper; first | (rw [if_pos (by decide +kernel)]; kernel_rfl) | (rw [if_neg (by decide +kernel)]; exact ⟨rfl, rfl⟩))
    (fun os started H enc _ => lifted os started H enc)
theorem proved : Rows.DenoteLastSaid := over
#print axioms proved
end Go.Proofs.Ytekpbgmmogpbdaa.denoteLast
namespace Go.Proofs.Ytekpbgmmogpbdaa
theorem denoteLast_holds : Rows.DenoteLastSaid := denoteLast.proved
end Go.Proofs.Ytekpbgmmogpbdaa
