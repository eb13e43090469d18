/- A rule ahead of all counts where it fits, and nowhere else (any policy, any record, any rule). -/
import Derived.ProofKit
import Derived.ChangeOld
import Derived.DataReads
import Derived.Test.YtekpbgmmogpbdaaRows
import Derived.ShutString
import Derived.SizedLaws
import Derived.Test.YtekpbgmmogpbdaaZDenoteAhead1
namespace Go.Proofs.Ytekpbgmmogpbdaa.D
open Go.RowKit Go.Proofs.Ytekpbgmmogpbdaa.H Go.Proofs.YtekpbgmmogpbdaaW.PrintWords Go.Proofs.YtekpbgmmogpbdaaW.PrintLast Go.Proofs.YtekpbgmmogpbdaaW.PrintMore
open Go.Proofs.Ytekpbgmmogpbdaa.P (errW errW_none errW_some info40 info61 S61 z61 k61 k61_open k61_mk k61_mkM rd_T61 at_T61 S40 z40 k40 k40_open k40_openM k40_mk k40_mkM k40_mkF rd_T40 at_T40)
attribute [local go_sem] max2_int min2_int max_two min_two max_three min_three max_four min_four
set_option linter.unusedVariables false
set_option linter.unusedSimpArgs false
theorem k61_heap : Kd.Heap k61 := Kd.heap_iso _ (Kd.heap_pair (Kd.heap_int .i64) (Kd.heap_pair (Kd.heap_int .i64) (Kd.heap_pair (Kd.heap_int .u64) (Kd.heap_int .u64))))
theorem k40_heap : Kd.Heap k40 := Kd.heap_iso _ (Kd.heap_pair (Kd.heap_int .u32) (Kd.heap_pair (Kd.heap_int .u32) (Kd.heap_pair (Kd.heap_slice 61 k61_heap) (Kd.heap_int .u32))))
noncomputable def hurdlelaw11_put.f (l0_0 : List (S40)) (a0_1 : Int) (a1 : Int) (a2_0 : Int) (a2_1 : Int) (l2_2 : List (S61)) (a2_3 : Int) : Option ((List (S40)) × Int) := (some (([] : List (S40)) : List (S40))).bind fun y163 => (if 0 ≤ a1 then (if a1 ≤ (l0_0.length : Int) then ((some (l0_0.take (a1 : Int).toNat : List (S40))).bind fun y166 => (if y163.length + y166.length < 3518437208883 then ((some (y163 ++ y166 : List (S40))).bind fun y171 => (if y171.length < 3518437208883 then ((some (y171 ++ [(⟨a2_0, a2_1, l2_2, a2_3⟩ : S40)] : List (S40))).bind fun y174 => ((some (l0_0.drop (a1 : Int).toNat : List (S40))).bind fun y177 => (if y174.length + y177.length < 3518437208883 then (some ((y174 ++ y177), a0_1)) else (none)))) else (none))) else (none))) else (none)) else (none))
def hurdlelaw11_put.T2 : Bool × List (List Nat × List Nat) := (true, [([], []), ([], []), ([1], [1]), ([0, 2], [0, 2]), ([], []), ([4], [4]), ([], []), ([5, 6], [5, 6]), ([3, 7, 3], [3, 7]), ([8, 8, 0, 1, 2, 3, 4, 5, 6, 7, 8], [0, 8])])
def hurdlelaw11_put.B2 : List Nat := [0, 0, 2, 7, 0, 16, 0, 112, 255, 511]
theorem hurdlelaw11_put.tab2 : rtab .any (opsOf Try.f30 2) = hurdlelaw11_put.T2 := by kernel_rfl
theorem hurdlelaw11_put.bits2 : waitsOk hurdlelaw11_put.T2.2 hurdlelaw11_put.B2 = true := by kernel_rfl
set_option maxHeartbeats 8000000 in
set_option maxRecDepth 100000 in
theorem hurdlelaw11_put.calls (P0_0_ : Nat → Prop) (A0_0 : Option Addr) (c0_0 : Nat) (l0_0 : List (S40)) (a0_1 : Int) (a1 : Int) (a2_0 : Int) (a2_1 : Int) (P2_2_ : Nat → Prop) (A2_2 : Option Addr) (c2_2 : Nat) (l2_2 : List (S61)) (a2_3 : Int) (r1 : List (S40)) (r2 : Int) (w : World) (hs0_0 : Kd.V k40 40 w w.heap.size (fun k_ => P0_0_ k_) (.slice A0_0 l0_0.length c0_0) l0_0) (hs2_2 : Kd.V k61 61 w w.heap.size (fun k_ => P2_2_ k_) (.slice A2_2 l2_2.length c2_2) l2_2) (h : hurdlelaw11_put.f l0_0 a0_1 a1 a2_0 a2_1 l2_2 a2_3 = some (r1, r2)) :
    Calls Try.prog 30 #[.agg #[.slice A0_0 l0_0.length c0_0, .int .u32 a0_1], .int .i64 a1, .agg #[.int .u32 a2_0, .int .u32 a2_1, .slice A2_2 l2_2.length c2_2, .int .u32 a2_3]] w fun e w' => ∃ v0_ : Value, e = .returned (.agg #[v0_, .int .u32 r2]) ∧ Kd.N k40 40 w' w.heap.size (fun k_ => ((P0_0_ k_ ∨ P2_2_ k_) ∨ w.heap.size ≤ k_)) v0_ r1 ∧ Below w.heap.size w w' := by
  have hu25 := Try.underlying25
  have hu40 := Try.underlying40
  have HO0_0 := Aside0.mk (show Kd.V k40 40 w w.heap.size (fun k_ => ((P0_0_ k_ ∨ P2_2_ k_) ∨ w.heap.size ≤ k_)) (.slice A0_0 l0_0.length c0_0) l0_0 from Kd.V_mono hs0_0 (fun k_ hk => .inl (.inl hk)))
  have HO2_2 := Aside0.mk (show Kd.V k61 61 w w.heap.size (fun k_ => ((P0_0_ k_ ∨ P2_2_ k_) ∨ w.heap.size ≤ k_)) (.slice A2_2 l2_2.length c2_2) l2_2 from Kd.V_mono hs2_2 (fun k_ hk => .inl (.inr hk)))
  have HB := Aside0.mk (Below.refl w.heap.size w)
  have H : ((some (([] : List (S40)) : List (S40))).bind fun y163 => (if 0 ≤ a1 then (if a1 ≤ (l0_0.length : Int) then ((some (l0_0.take (a1 : Int).toNat : List (S40))).bind fun y166 => (if y163.length + y166.length < 3518437208883 then ((some (y163 ++ y166 : List (S40))).bind fun y171 => (if y171.length < 3518437208883 then ((some (y171 ++ [(⟨a2_0, a2_1, l2_2, a2_3⟩ : S40)] : List (S40))).bind fun y174 => ((some (l0_0.drop (a1 : Int).toNat : List (S40))).bind fun y177 => (if y174.length + y177.length < 3518437208883 then (some ((y174 ++ y177), a0_1)) else (none)))) else (none))) else (none))) else (none)) else (none))) = some (r1, r2) := h
  clear h
  obtain ⟨y163, hy163⟩ : ∃ y_ : List (S40), y_ = (([] : List (S40))) := ⟨_, rfl⟩
  replace H : (if 0 ≤ a1 then (if a1 ≤ (l0_0.length : Int) then ((some (l0_0.take (a1 : Int).toNat : List (S40))).bind fun y166 => (if y163.length + y166.length < 3518437208883 then ((some (y163 ++ y166 : List (S40))).bind fun y171 => (if y171.length < 3518437208883 then ((some (y171 ++ [(⟨a2_0, a2_1, l2_2, a2_3⟩ : S40)] : List (S40))).bind fun y174 => ((some (l0_0.drop (a1 : Int).toNat : List (S40))).bind fun y177 => (if y174.length + y177.length < 3518437208883 then (some ((y174 ++ y177), a0_1)) else (none)))) else (none))) else (none))) else (none)) else (none)) = some (r1, r2) := by first | (rw [hy163]; with_reducible exact H) | (have H2_ := (Option.bind_some _ _).symm.trans H; rw [hy163]; with_reducible exact H2_) | (have H2_ := (Option.bind_some _ _).symm.trans H; with_reducible exact H2_) | with_reducible exact H | (rw [hy163]; exact H) | exact H
  have Ny163 := Aside0.mk hy163
  clear hy163
  by_cases c4 : 0 ≤ a1
  · rw [if_pos c4] at H
    have c4b0 := eq_true c4
    have c4b1 : decide (0 ≤ a1) = true := decide_eq_true c4
    clear c4
    by_cases c5 : a1 ≤ (l0_0.length : Int)
    · rw [if_pos c5] at H
      have c5b0 := eq_true c5
      have c5b1 : decide (a1 ≤ (l0_0.length : Int)) = true := decide_eq_true c5
      clear c5
      obtain ⟨y166, hy166⟩ : ∃ y_ : List (S40), y_ = (l0_0.take (a1 : Int).toNat) := ⟨_, rfl⟩
      replace H : (if y163.length + y166.length < 3518437208883 then ((some (y163 ++ y166 : List (S40))).bind fun y171 => (if y171.length < 3518437208883 then ((some (y171 ++ [(⟨a2_0, a2_1, l2_2, a2_3⟩ : S40)] : List (S40))).bind fun y174 => ((some (l0_0.drop (a1 : Int).toNat : List (S40))).bind fun y177 => (if y174.length + y177.length < 3518437208883 then (some ((y174 ++ y177), a0_1)) else (none)))) else (none))) else (none)) = some (r1, r2) := by first | (rw [hy166]; with_reducible exact H) | (have H2_ := (Option.bind_some _ _).symm.trans H; rw [hy166]; with_reducible exact H2_) | (have H2_ := (Option.bind_some _ _).symm.trans H; with_reducible exact H2_) | with_reducible exact H | (rw [hy166]; exact H) | exact H
      have Ny166 := Aside0.mk hy166
      clear hy166
      by_cases c6 : y163.length + y166.length < 3518437208883
      · rw [if_pos c6] at H
        have LMc6 := Aside0.mk c6
        clear c6
        obtain ⟨y171, hy171⟩ : ∃ y_ : List (S40), y_ = (y163 ++ y166) := ⟨_, rfl⟩
        replace H : (if y171.length < 3518437208883 then ((some (y171 ++ [(⟨a2_0, a2_1, l2_2, a2_3⟩ : S40)] : List (S40))).bind fun y174 => ((some (l0_0.drop (a1 : Int).toNat : List (S40))).bind fun y177 => (if y174.length + y177.length < 3518437208883 then (some ((y174 ++ y177), a0_1)) else (none)))) else (none)) = some (r1, r2) := by first | (rw [hy171]; with_reducible exact H) | (have H2_ := (Option.bind_some _ _).symm.trans H; rw [hy171]; with_reducible exact H2_) | (have H2_ := (Option.bind_some _ _).symm.trans H; with_reducible exact H2_) | with_reducible exact H | (rw [hy171]; exact H) | exact H
        have Ny171 := Aside0.mk hy171
        clear hy171
        by_cases c7 : y171.length < 3518437208883
        · rw [if_pos c7] at H
          have LMc7 := Aside0.mk c7
          clear c7
          obtain ⟨y174, hy174⟩ : ∃ y_ : List (S40), y_ = (y171 ++ [(⟨a2_0, a2_1, l2_2, a2_3⟩ : S40)]) := ⟨_, rfl⟩
          replace H : ((some (l0_0.drop (a1 : Int).toNat : List (S40))).bind fun y177 => (if y174.length + y177.length < 3518437208883 then (some ((y174 ++ y177), a0_1)) else (none))) = some (r1, r2) := by first | (rw [hy174]; with_reducible exact H) | (have H2_ := (Option.bind_some _ _).symm.trans H; rw [hy174]; with_reducible exact H2_) | (have H2_ := (Option.bind_some _ _).symm.trans H; with_reducible exact H2_) | with_reducible exact H | (rw [hy174]; exact H) | exact H
          have Ny174 := Aside0.mk hy174
          clear hy174
          have c8b0 := eq_true (of_decide_eq_true (by first | (with_reducible assumption) | assumption) : 0 ≤ a1)
          have c9b0 := eq_true (of_decide_eq_true (by first | (with_reducible assumption) | assumption) : a1 ≤ (l0_0.length : Int))
          obtain ⟨y177, hy177⟩ : ∃ y_ : List (S40), y_ = (l0_0.drop (a1 : Int).toNat) := ⟨_, rfl⟩
          replace H : (if y174.length + y177.length < 3518437208883 then (some ((y174 ++ y177), a0_1)) else (none)) = some (r1, r2) := by first | (rw [hy177]; with_reducible exact H) | (have H2_ := (Option.bind_some _ _).symm.trans H; rw [hy177]; with_reducible exact H2_) | (have H2_ := (Option.bind_some _ _).symm.trans H; with_reducible exact H2_) | with_reducible exact H | (rw [hy177]; exact H) | exact H
          have Ny177 := Aside0.mk hy177
          clear hy177
          by_cases c10 : y174.length + y177.length < 3518437208883
          · rw [if_pos c10] at H
            have LMc10 := Aside0.mk c10
            clear c10
            obtain ⟨y182, hy182⟩ : ∃ y_ : List (S40), y_ = (y174 ++ y177) := ⟨_, rfl⟩
            replace H : (some (y182, a0_1)) = some (r1, r2) := by first | (rw [hy182]; with_reducible exact H) | (have H2_ := (Option.bind_some _ _).symm.trans H; rw [hy182]; with_reducible exact H2_) | (have H2_ := (Option.bind_some _ _).symm.trans H; with_reducible exact H2_) | with_reducible exact H | (rw [hy182]; exact H) | exact H
            have Ny182 := Aside0.mk hy182
            clear hy182
            simp only [Option.some.injEq, Prod.mk.injEq] at H
            obtain ⟨rfl, rfl⟩ := H
            go_enter Try.func30, Try.ntmps30
            try go_wp2_with (first | ((with_reducible refine gate_dst (N := 3) rfl ?_); refine box_event ?hg (N := 3) ?hd (cs := #[.slice A0_0 l0_0.length c0_0, .int .u32 a0_1]) (t := 25) ?hr ?_; (case hd => rfl); (case hg => rfl); (case hr => first | (go_simp; done) | (go_simp; rfl)); intro gb160 hg w11 hbox hb; have n0_ := Aside0.mk (Kd.V_below (Kd.V_elderB (by (with_reducible repeat (first | apply Kd.V_alloc | apply Kd.V_drewN | apply Kd.V_drew)); exact HO0_0.out) gb160 (Nat.le_of_eq hg.symm)) hb); have n1_ := Aside0.mk (Kd.V_below (Kd.V_elderB (by (with_reducible repeat (first | apply Kd.V_alloc | apply Kd.V_drewN | apply Kd.V_drew)); exact HO2_2.out) gb160 (Nat.le_of_eq hg.symm)) hb); have n2_ := Aside0.mk (below_step (by repeat (first | (with_reducible first | exact HB.out | apply below_alloc | apply pw_below_drewN | apply below_drew1) | exact HB.out)) hb); have n3_ := Aside0.mk (hbox); have n4_ := Aside0.mk ((by rw [hg]; exact (below_size (by repeat (first | (with_reducible first | exact HB.out | apply below_alloc | apply pw_below_drewN | apply below_drew1) | exact HB.out))) : w.heap.size ≤ gb160)); have n5_ := Aside0.mk ((by rw [hg]; exact (below_size (by repeat (first | (with_reducible first | exact HB.out | apply below_alloc | apply pw_below_drewN | apply below_drew1) | exact HB.out))) : w.heap.size ≤ gb160)); clear HO0_0; clear HO2_2; clear HB; have HO0_0 := n0_; have HO2_2 := n1_; have HB := n2_; have BK160 := n3_; have GW160 := n4_; have GE160 := n5_; clear n0_ n1_ n2_ n3_ n4_ n5_; clear hb hbox hg) | ((with_reducible refine gate_dst (N := 5) rfl ?_); refine box_event ?hg (N := 5) ?hd (cs := #[.int .u32 a2_0, .int .u32 a2_1, .slice A2_2 l2_2.length c2_2, .int .u32 a2_3]) (t := 40) ?hr ?_; (case hd => rfl); (case hg => rfl); (case hr => first | (go_simp; done) | (go_simp; rfl)); intro gb161 hg w12 hbox hb; have n0_ := Aside0.mk (Kd.V_below (Kd.V_elderB (by (with_reducible repeat (first | apply Kd.V_alloc | apply Kd.V_drewN | apply Kd.V_drew)); exact HO0_0.out) gb161 (Nat.le_of_eq hg.symm)) hb); have n1_ := Aside0.mk (Kd.V_below (Kd.V_elderB (by (with_reducible repeat (first | apply Kd.V_alloc | apply Kd.V_drewN | apply Kd.V_drew)); exact HO2_2.out) gb161 (Nat.le_of_eq hg.symm)) hb); have n2_ := Aside0.mk (blk_below (g := gb160) (o := .cells #[.slice A0_0 l0_0.length c0_0, .int .u32 a0_1] 25 (0, 0)) (by (with_reducible repeat (first | refine blk_drewN ?_ _ | refine blk_drew ?_ | refine blk_alloc ?_ _)); exact BK160.out) hb); have n3_ := Aside0.mk (below_step (by repeat (first | (with_reducible first | exact HB.out | apply below_alloc | apply pw_below_drewN | apply below_drew1 | refine below_set ?_ GE160.out) | exact HB.out)) hb); have n4_ := Aside0.mk (hbox); have n5_ := Aside0.mk ((by rw [hg]; exact (below_size (by repeat (first | (with_reducible first | exact HB.out | apply below_alloc | apply pw_below_drewN | apply below_drew1 | refine below_set ?_ GE160.out) | exact HB.out))) : w.heap.size ≤ gb161)); have n6_ := Aside0.mk ((by rw [hg]; exact (below_size (by repeat (first | (with_reducible first | exact HB.out | apply below_alloc | apply pw_below_drewN | apply below_drew1 | refine below_set ?_ GE160.out) | exact HB.out))) : w.heap.size ≤ gb161)); have n7_ := Aside0.mk ((by rw [hg]; exact Nat.ne_of_lt (blk_lt (g := gb160) (o := .cells #[.slice A0_0 l0_0.length c0_0, .int .u32 a0_1] 25 (0, 0)) (by (with_reducible repeat (first | refine blk_drewN ?_ _ | refine blk_drew ?_ | refine blk_alloc ?_ _)); exact BK160.out)) : gb160 ≠ gb161)); have n8_ := Aside0.mk ((by rw [hg]; exact Nat.ne_of_gt (blk_lt (g := gb160) (o := .cells #[.slice A0_0 l0_0.length c0_0, .int .u32 a0_1] 25 (0, 0)) (by (with_reducible repeat (first | refine blk_drewN ?_ _ | refine blk_drew ?_ | refine blk_alloc ?_ _)); exact BK160.out)) : gb161 ≠ gb160)); clear HO0_0; clear HO2_2; clear BK160; clear HB; have HO0_0 := n0_; have HO2_2 := n1_; have BK160 := n2_; have HB := n3_; have BK161 := n4_; have GW161 := n5_; have GE161 := n6_; have NB160_161 := n7_; have NB161_160 := n8_; clear n0_ n1_ n2_ n3_ n4_ n5_ n6_ n7_ n8_; clear hb hbox hg) | ((with_reducible refine gate_dst (N := 6) rfl ?_); refine box_event ?hg (N := 6) ?hd (cs := #[.slice none 0 0, .int .u32 0]) (t := 25) ?hr ?_; (case hd => rfl); (case hg => rfl); (case hr => first | (go_simp; done) | (go_simp; rfl)); intro gb162 hg w13 hbox hb; have n0_ := Aside0.mk (Kd.V_below (Kd.V_elderB (by (with_reducible repeat (first | apply Kd.V_alloc | apply Kd.V_drewN | apply Kd.V_drew)); exact HO0_0.out) gb162 (Nat.le_of_eq hg.symm)) hb); have n1_ := Aside0.mk (Kd.V_below (Kd.V_elderB (by (with_reducible repeat (first | apply Kd.V_alloc | apply Kd.V_drewN | apply Kd.V_drew)); exact HO2_2.out) gb162 (Nat.le_of_eq hg.symm)) hb); have n2_ := Aside0.mk (blk_below (g := gb160) (o := .cells #[.slice A0_0 l0_0.length c0_0, .int .u32 a0_1] 25 (0, 0)) (by (with_reducible repeat (first | refine blk_drewN ?_ _ | refine blk_drew ?_ | refine blk_alloc ?_ _)); exact BK160.out) hb); have n3_ := Aside0.mk (blk_below (g := gb161) (o := .cells #[.int .u32 a2_0, .int .u32 a2_1, .slice A2_2 l2_2.length c2_2, .int .u32 a2_3] 40 (0, 0)) (by (with_reducible repeat (first | refine blk_drewN ?_ _ | refine blk_drew ?_ | refine blk_alloc ?_ _)); exact BK161.out) hb); have n4_ := Aside0.mk (below_step (by repeat (first | (with_reducible first | exact HB.out | apply below_alloc | apply pw_below_drewN | apply below_drew1 | refine below_set ?_ GE160.out | refine below_set ?_ GE161.out) | exact HB.out)) hb); have n5_ := Aside0.mk (hbox); have n6_ := Aside0.mk ((by rw [hg]; exact (below_size (by repeat (first | (with_reducible first | exact HB.out | apply below_alloc | apply pw_below_drewN | apply below_drew1 | refine below_set ?_ GE160.out | refine below_set ?_ GE161.out) | exact HB.out))) : w.heap.size ≤ gb162)); have n7_ := Aside0.mk ((by rw [hg]; exact (below_size (by repeat (first | (with_reducible first | exact HB.out | apply below_alloc | apply pw_below_drewN | apply below_drew1 | refine below_set ?_ GE160.out | refine below_set ?_ GE161.out) | exact HB.out))) : w.heap.size ≤ gb162)); have n8_ := Aside0.mk ((by rw [hg]; exact Nat.ne_of_lt (blk_lt (g := gb160) (o := .cells #[.slice A0_0 l0_0.length c0_0, .int .u32 a0_1] 25 (0, 0)) (by (with_reducible repeat (first | refine blk_drewN ?_ _ | refine blk_drew ?_ | refine blk_alloc ?_ _)); exact BK160.out)) : gb160 ≠ gb162)); have n9_ := Aside0.mk ((by rw [hg]; exact Nat.ne_of_gt (blk_lt (g := gb160) (o := .cells #[.slice A0_0 l0_0.length c0_0, .int .u32 a0_1] 25 (0, 0)) (by (with_reducible repeat (first | refine blk_drewN ?_ _ | refine blk_drew ?_ | refine blk_alloc ?_ _)); exact BK160.out)) : gb162 ≠ gb160)); have n10_ := Aside0.mk ((by rw [hg]; exact Nat.ne_of_lt (blk_lt (g := gb161) (o := .cells #[.int .u32 a2_0, .int .u32 a2_1, .slice A2_2 l2_2.length c2_2, .int .u32 a2_3] 40 (0, 0)) (by (with_reducible repeat (first | refine blk_drewN ?_ _ | refine blk_drew ?_ | refine blk_alloc ?_ _)); exact BK161.out)) : gb161 ≠ gb162)); have n11_ := Aside0.mk ((by rw [hg]; exact Nat.ne_of_gt (blk_lt (g := gb161) (o := .cells #[.int .u32 a2_0, .int .u32 a2_1, .slice A2_2 l2_2.length c2_2, .int .u32 a2_3] 40 (0, 0)) (by (with_reducible repeat (first | refine blk_drewN ?_ _ | refine blk_drew ?_ | refine blk_alloc ?_ _)); exact BK161.out)) : gb162 ≠ gb161)); clear HO0_0; clear HO2_2; clear BK160; clear BK161; clear HB; have HO0_0 := n0_; have HO2_2 := n1_; have BK160 := n2_; have BK161 := n3_; have HB := n4_; have BK162 := n5_; have GW162 := n6_; have GE162 := n7_; have NB160_162 := n8_; have NB162_160 := n9_; have NB161_162 := n10_; have NB162_161 := n11_; clear n0_ n1_ n2_ n3_ n4_ n5_ n6_ n7_ n8_ n9_ n10_ n11_; clear hb hbox hg) | ((with_reducible refine gate_dst (N := 8) rfl ?_); refine Kd.N_lit k40 _ 40 ?hg (N' := 8) ?hd (xs := ([] : List (S40))) (inner := []) (ok := (fun k_ => ((P0_0_ k_ ∨ P2_2_ k_) ∨ w.heap.size ≤ k_) ∧ k_ ≠ gb160 ∧ k_ ≠ gb161 ∧ k_ ≠ gb162)) (okp := (fun k_ => ((P0_0_ k_ ∨ P2_2_ k_) ∨ w.heap.size ≤ k_) ∧ k_ ≠ gb160 ∧ k_ ≠ gb161 ∧ k_ ≠ gb162)) ?hr ?hp (fun _ hk => hk) ((show ∀ k_, w13.heap.size ≤ k_ → (fun k_ => ((P0_0_ k_ ∨ P2_2_ k_) ∨ w.heap.size ≤ k_) ∧ k_ ≠ gb160 ∧ k_ ≠ gb161 ∧ k_ ≠ gb162) k_ from fun k_ hk => ⟨(.inr (Nat.le_trans (below_size (by repeat (first | (with_reducible first | exact HB.out | apply below_alloc | apply pw_below_drewN | apply below_drew1 | refine below_set ?_ GE160.out | refine below_set ?_ GE161.out | refine below_set ?_ GE162.out) | exact HB.out))) hk)), Kd.freshB (g := gb160) (o := .cells #[.slice A0_0 l0_0.length c0_0, .int .u32 a0_1] 25 (0, 0)) (by (with_reducible repeat (first | refine blk_drewN ?_ _ | refine blk_drew ?_ | refine blk_alloc ?_ _)); exact BK160.out) k_ hk, Kd.freshB (g := gb161) (o := .cells #[.int .u32 a2_0, .int .u32 a2_1, .slice A2_2 l2_2.length c2_2, .int .u32 a2_3] 40 (0, 0)) (by (with_reducible repeat (first | refine blk_drewN ?_ _ | refine blk_drew ?_ | refine blk_alloc ?_ _)); exact BK161.out) k_ hk, Kd.freshB (g := gb162) (o := .cells #[.slice none 0 0, .int .u32 0] 25 (0, 0)) (by (with_reducible repeat (first | refine blk_drewN ?_ _ | refine blk_drew ?_ | refine blk_alloc ?_ _)); exact BK162.out) k_ hk⟩) _ (Nat.le_refl _)) (Below.refl _ _) (Nat.le_refl _) (by simp) ?_; (case hd => rfl); (case hg => rfl); (case hr => first | (go_simp; done) | (go_simp; rfl)); (case hp => exact (Reps.none _ _)); intro v164 w14 ho15 hb hg_ hnew_; clear hg_ hnew_; (first | rw [← Ny163.out] at ho15 | (simp only [Int.reduceToNat] at ho15; rw [← Ny163.out] at ho15)); have n0_ := Aside0.mk (Kd.V_elder' (by (with_reducible repeat (first | apply Kd.V_alloc | apply Kd.V_drewN | apply Kd.V_drew)); exact HO0_0.out) (Kd.N_base ho15) hb); have n1_ := Aside0.mk (Kd.V_elder' (by (with_reducible repeat (first | apply Kd.V_alloc | apply Kd.V_drewN | apply Kd.V_drew)); exact HO2_2.out) (Kd.N_base ho15) hb); have n2_ := Aside0.mk (Kd.N_lower ho15 (below_size (by repeat (first | (with_reducible first | exact HB.out | apply below_alloc | apply pw_below_drewN | apply below_drew1 | refine below_set ?_ GE160.out | refine below_set ?_ GE161.out | refine below_set ?_ GE162.out) | exact HB.out)))); have n3_ := Aside0.mk (blk_below (g := gb160) (o := .cells #[.slice A0_0 l0_0.length c0_0, .int .u32 a0_1] 25 (0, 0)) (by (with_reducible repeat (first | refine blk_drewN ?_ _ | refine blk_drew ?_ | refine blk_alloc ?_ _)); exact BK160.out) hb); have n4_ := Aside0.mk (blk_below (g := gb161) (o := .cells #[.int .u32 a2_0, .int .u32 a2_1, .slice A2_2 l2_2.length c2_2, .int .u32 a2_3] 40 (0, 0)) (by (with_reducible repeat (first | refine blk_drewN ?_ _ | refine blk_drew ?_ | refine blk_alloc ?_ _)); exact BK161.out) hb); have n5_ := Aside0.mk (blk_below (g := gb162) (o := .cells #[.slice none 0 0, .int .u32 0] 25 (0, 0)) (by (with_reducible repeat (first | refine blk_drewN ?_ _ | refine blk_drew ?_ | refine blk_alloc ?_ _)); exact BK162.out) hb); have n6_ := Aside0.mk (below_step (by repeat (first | (with_reducible first | exact HB.out | apply below_alloc | apply pw_below_drewN | apply below_drew1 | refine below_set ?_ GE160.out | refine below_set ?_ GE161.out | refine below_set ?_ GE162.out) | exact HB.out)) hb); clear HO0_0; clear HO2_2; clear BK160; clear BK161; clear BK162; clear HB; have HO0_0 := n0_; have HO2_2 := n1_; have HO165 := n2_; have BK160 := n3_; have BK161 := n4_; have BK162 := n5_; have HB := n6_; clear n0_ n1_ n2_ n3_ n4_ n5_ n6_; clear hb ho15; have hnb16 := NB160_161.out; have hnc16 := NB161_160.out; have hnb17 := NB160_162.out; have hnc17 := NB162_160.out; have hcz18_0 : w14.cell? ⟨gb160, 0, none⟩ = some (.slice A0_0 l0_0.length c0_0) := (blk_cell BK160.out 0).trans rfl; have hcz18_1 : w14.cell? ⟨gb160, 1, none⟩ = some (.int .u32 a0_1) := (blk_cell BK160.out 1).trans rfl; have hfz18_0 := blk_frozen BK160.out 0; have hfz18_1 := blk_frozen BK160.out 1; have q19 : (a1 : Int) ≤ ((l0_0.length : Int) : Int) := of_decide_eq_true (by first | (with_reducible assumption) | assumption); obtain ⟨i019, hi019, _, hsz19, _⟩ := info_parts info40; have hroom19 : l0_0.length ≤ c0_0 := (Kd.V_reads' HO0_0.out).2.1; have hC19 : Kd.F k40 _ _ A0_0 l0_0.length l0_0 := (Kd.V_at (base := w.heap.size) HO0_0.out).2.2; have hcut19 := cut_to (P := Try.prog) 22 40 .i64 Try.underlying22 hi019 A0_0 l0_0.length c0_0 a1 (of_decide_eq_true (by first | (with_reducible assumption) | assumption)) q19 hroom19; have hr19 := Kd.F_take (m := (a1 : Int).toNat) hC19 (by omega); have hy19 : y166.length = (a1 : Int).toNat := (by rw [Ny166.out, List.length_take]; omega); rw [← Ny166.out] at hr19; rw [← hy19] at hcut19; have HO170 := Aside0.mk (show Kd.V k40 40 _ w.heap.size _ (.slice A0_0 y166.length c0_0) y166 from Kd.V_mk (by omega) hr19); have HC170 := Aside0.mk (show y166.length ≤ c0_0 from by omega); clear hr19 hC19 hroom19 hi019 hsz19; have KY19 := Aside0.mk hy19; clear hy19; replace q19 := eq_true q19) | ((with_reducible refine gate_builtin (b := .append) (xs := #[.tmp 8, .tmp 12]) rfl ?_); at_builtin; refine Kd.N_append_rows k40 (w0 := w) w.heap.size rfl (.tmp 8) (.tmp 12) 22 40 (.agg #[(.int .u32 0), (.int .u32 0), (.slice none 0 0), (.int .u32 0)]) 40 rfl Try.underlying22 info40 rfl (by decide) (by omega) v164 y163 y166 _ _ _ (fun k_ => ((P0_0_ k_ ∨ P2_2_ k_) ∨ w.heap.size ≤ k_) ∧ k_ ≠ gb160 ∧ k_ ≠ gb161 ∧ k_ ≠ gb162) (fun k_ => ((fun k_ => ((P0_0_ k_ ∨ P2_2_ k_) ∨ w.heap.size ≤ k_) ∧ k_ ≠ gb160 ∧ k_ ≠ gb161 ∧ k_ ≠ gb162)) k_ ∧ some k_ ≠ (v164 : Value).ownBlock) rfl rfl ?aO ?aR (fun _ hk => hk) ?aF ?aB ?aS ?aL ?_; (case aR => exact (by skip; exact Kd.V_F (Kd.V_mono (ok' := (fun k_ => ((fun k_ => ((P0_0_ k_ ∨ P2_2_ k_) ∨ w.heap.size ≤ k_) ∧ k_ ≠ gb160 ∧ k_ ≠ gb161 ∧ k_ ≠ gb162)) k_ ∧ some k_ ≠ (v164 : Value).ownBlock)) (HO170.out) (fun k_ hk => ⟨⟨hk.1.1.1.1, ⟨hk.1.1.1.2, ⟨hk.1.1.2, hk.1.2⟩⟩⟩, hk.2⟩)))); (case aB => exact (by repeat (first | (with_reducible first | exact HB.out | apply below_alloc | apply pw_below_drewN | apply below_drew1 | refine below_set ?_ GE160.out | refine below_set ?_ GE161.out | refine below_set ?_ GE162.out) | exact HB.out))); (case aF => exact (fun k_ hk => ⟨(.inr (Nat.le_trans (below_size (by repeat (first | (with_reducible first | exact HB.out | apply below_alloc | apply pw_below_drewN | apply below_drew1 | refine below_set ?_ GE160.out | refine below_set ?_ GE161.out | refine below_set ?_ GE162.out) | exact HB.out))) hk)), Kd.freshB (g := gb160) (o := .cells #[.slice A0_0 l0_0.length c0_0, .int .u32 a0_1] 25 (0, 0)) (by (with_reducible repeat (first | refine blk_drewN ?_ _ | refine blk_drew ?_ | refine blk_alloc ?_ _)); exact BK160.out) k_ hk, Kd.freshB (g := gb161) (o := .cells #[.int .u32 a2_0, .int .u32 a2_1, .slice A2_2 l2_2.length c2_2, .int .u32 a2_3] 40 (0, 0)) (by (with_reducible repeat (first | refine blk_drewN ?_ _ | refine blk_drew ?_ | refine blk_alloc ?_ _)); exact BK161.out) k_ hk, Kd.freshB (g := gb162) (o := .cells #[.slice none 0 0, .int .u32 0] 25 (0, 0)) (by (with_reducible repeat (first | refine blk_drewN ?_ _ | refine blk_drew ?_ | refine blk_alloc ?_ _)); exact BK162.out) k_ hk⟩)); (case aO => exact (by (with_reducible repeat (first | apply Kd.N_alloc | apply Kd.N_drewN | apply Kd.N_drew)); exact HO165.out)); (case aS => exact (below_size (by repeat (first | (with_reducible first | exact HB.out | apply below_alloc | apply pw_below_drewN | apply below_drew1 | refine below_set ?_ GE160.out | refine below_set ?_ GE161.out | refine below_set ?_ GE162.out) | exact HB.out)))); (case aL => have := LMc6.out; omega); intro v172 w20 ho hb hg hat; rw [← Ny171.out] at ho; have n0_ := Aside0.mk (Kd.V_afterv (ok := (fun k_ => ((P0_0_ k_ ∨ P2_2_ k_) ∨ w.heap.size ≤ k_) ∧ k_ ≠ gb160 ∧ k_ ≠ gb161 ∧ k_ ≠ gb162)) (by (with_reducible repeat (first | apply Kd.V_alloc | apply Kd.V_drewN | apply Kd.V_drew)); exact Kd.V_mono HO0_0.out (fun _ hk => ⟨⟨hk.1.1.1.1, ⟨hk.1.1.1.2, ⟨hk.1.1.2, hk.1.2⟩⟩⟩, hk.2⟩)) hg hat); have n1_ := Aside0.mk (Kd.V_afterv (ok := (fun k_ => ((P0_0_ k_ ∨ P2_2_ k_) ∨ w.heap.size ≤ k_) ∧ k_ ≠ gb160 ∧ k_ ≠ gb161 ∧ k_ ≠ gb162)) (by (with_reducible repeat (first | apply Kd.V_alloc | apply Kd.V_drewN | apply Kd.V_drew)); exact Kd.V_mono HO2_2.out (fun _ hk => ⟨⟨hk.1.1.1.1, ⟨hk.1.1.1.2, ⟨hk.1.1.2, hk.1.2⟩⟩⟩, hk.2⟩)) hg hat); have n2_ := Aside0.mk (blk_grown (g := gb160) (o := .cells #[.slice A0_0 l0_0.length c0_0, .int .u32 a0_1] 25 (0, 0)) (by (with_reducible repeat (first | refine blk_drewN ?_ _ | refine blk_drew ?_ | refine blk_alloc ?_ _)); exact BK160.out) hg (Kd.N_ne HO165.out BK160.out (by decide))); have n3_ := Aside0.mk (blk_grown (g := gb161) (o := .cells #[.int .u32 a2_0, .int .u32 a2_1, .slice A2_2 l2_2.length c2_2, .int .u32 a2_3] 40 (0, 0)) (by (with_reducible repeat (first | refine blk_drewN ?_ _ | refine blk_drew ?_ | refine blk_alloc ?_ _)); exact BK161.out) hg (Kd.N_away HO165.out (fun _ hk => hk.2.2.1))); have n4_ := Aside0.mk (blk_grown (g := gb162) (o := .cells #[.slice none 0 0, .int .u32 0] 25 (0, 0)) (by (with_reducible repeat (first | refine blk_drewN ?_ _ | refine blk_drew ?_ | refine blk_alloc ?_ _)); exact BK162.out) hg (Kd.N_ne HO165.out BK162.out (by decide))); have n5_ := Aside0.mk (Kd.V_afterv (ok := (fun k_ => ((P0_0_ k_ ∨ P2_2_ k_) ∨ w.heap.size ≤ k_) ∧ k_ ≠ gb160 ∧ k_ ≠ gb161 ∧ k_ ≠ gb162)) (by (with_reducible repeat (first | apply Kd.V_alloc | apply Kd.V_drewN | apply Kd.V_drew)); exact Kd.V_mono HO170.out (fun _ hk => ⟨⟨hk.1.1.1.1, ⟨hk.1.1.1.2, ⟨hk.1.1.2, hk.1.2⟩⟩⟩, hk.2⟩)) hg hat); have n6_ := Aside0.mk (hb); have n7_ := Aside0.mk (ho); clear HO0_0; clear HO2_2; clear BK160; clear BK161; clear BK162; clear HO170; clear HB; clear HO165; have HO0_0 := n0_; have HO2_2 := n1_; have BK160 := n2_; have BK161 := n3_; have BK162 := n4_; have HO170 := n5_; have HB := n6_; have HO173 := n7_; clear n0_ n1_ n2_ n3_ n4_ n5_ n6_ n7_; clear ho hb hg hat))
            have n0_ := Aside0.mk (Kd.V_drew HO0_0.out)
            have n1_ := Aside0.mk (Kd.V_drew HO2_2.out)
            have n2_ := Aside0.mk (Kd.V_drew HO170.out)
            have n3_ := Aside0.mk (Kd.N_drew HO173.out)
            have n4_ := Aside0.mk (blk_drew BK160.out)
            have n5_ := Aside0.mk (blk_drew BK161.out)
            have n6_ := Aside0.mk (blk_drew BK162.out)
            have n7_ := Aside0.mk (below_drew1 HB.out)
            clear HO0_0
            clear HO2_2
            clear HO170
            clear HO173
            clear BK160
            clear BK161
            clear BK162
            clear HB
            have HO0_0 := n0_
            have HO2_2 := n1_
            have HO170 := n2_
            have HO173 := n3_
            have BK160 := n4_
            have BK161 := n5_
            have BK162 := n6_
            have HB := n7_
            clear n0_ n1_ n2_ n3_ n4_ n5_ n6_ n7_
            have q22 : (a1 : Int) ≤ ((l0_0.length : Int) : Int) := of_decide_eq_true (by first | (with_reducible assumption) | assumption)
            obtain ⟨i022, hi022, _, hsz22, _⟩ := info_parts info40
            have hroom22 : l0_0.length ≤ c0_0 := (Kd.V_reads' HO0_0.out).2.1
            have hC22 : Kd.F k40 _ _ A0_0 l0_0.length l0_0 := (Kd.V_at (base := w.heap.size) HO0_0.out).2.2
            have q022 : (0 : Int) ≤ (a1 : Int) := of_decide_eq_true (by first | (with_reducible assumption) | assumption)
            have hcut22 := cut_from (P := Try.prog) 22 40 .i64 Try.underlying22 hi022 4 hsz22 A0_0 l0_0.length c0_0 a1 q022 q22
            have hr22 := Kd.F_cut (m := (a1 : Int).toNat) (c := c0_0) hC22 (by omega) hroom22
            obtain ⟨A22, hA22⟩ : ∃ A1, A1 = (if c0_0 = (a1 : Int).toNat then A0_0 else (A0_0 : Option Addr).map (·.add ((a1 : Int).toNat * 4))) := ⟨_, rfl⟩
            obtain ⟨c22, hc22⟩ : ∃ c1, c1 = c0_0 - (a1 : Int).toNat := ⟨_, rfl⟩
            have hy22 : y177.length = l0_0.length - (a1 : Int).toNat := (by rw [Ny177.out, List.length_drop] <;> omega)
            rw [show (l0_0).drop (a1 : Int).toNat = y177 from Ny177.out.symm] at hr22
            replace hr22 : Kd.F k40 _ _ A22 y177.length y177 := (by rw [hA22]; exact hr22)
            rw [← hy22, ← hA22, ← hc22] at hcut22
            have HO181 := Aside0.mk (show Kd.V k40 40 _ w.heap.size _ (.slice A22 y177.length c22) y177 from Kd.V_mk (by rw [hy22, hc22]; exact Nat.sub_le_sub_right hroom22 _) hr22)
            have HC181 := Aside0.mk (show y177.length ≤ c22 from by rw [hy22, hc22]; exact Nat.sub_le_sub_right hroom22 _)
            clear hr22 hC22 hroom22 hi022 hsz22 hc22
            have KY22 := Aside0.mk hy22
            have KA22 := Aside0.mk hA22
            clear hy22 hA22
            replace q22 := eq_true q22
            refine start_ (n := 10) (S := fun w' => w'.cell? ⟨gb161, 0, none⟩ = some (.int .u32 a2_0) ∧ w'.cell? ⟨gb161, 1, none⟩ = some (.int .u32 a2_1) ∧ w'.cell? ⟨gb161, 2, none⟩ = some (.slice A2_2 l2_2.length c2_2) ∧ w'.cell? ⟨gb161, 3, none⟩ = some (.int .u32 a2_3) ∧ w'.cell? ⟨gb160, 0, none⟩ = some (.slice A0_0 l0_0.length c0_0) ∧ w'.cell? ⟨gb160, 1, none⟩ = some (.int .u32 a0_1)) (ds := []) #[false, false, false, false, false, false, false, false, false, false] (by kernel_rfl) rfl rfl ⟨(blk_cell BK161.out 0).trans rfl, (blk_cell BK161.out 1).trans rfl, (blk_cell BK161.out 2).trans rfl, (blk_cell BK161.out 3).trans rfl, (blk_cell BK160.out 0).trans rfl, (blk_cell BK160.out 1).trans rfl⟩ (fun hHeld => ?_); refine with_tabW hurdlelaw11_put.tab2 hurdlelaw11_put.bits2 (fun HT_ HW_ => ?_)
            generalize w20.drew = w21 at HO0_0 HO2_2 HO170 HO173 BK160 BK161 BK162 HB HO181 hHeld ⊢
            refine pure_ (i := 0) (N := some 14) (v := ?_) (a' := ?_) #[true, false, false, false, false, false, false, false, false, false] rfl rfl (any_of HT_.out (by kernel_rfl)) (fun _ _ _ h => h) (Or.inl ⟨by rfl, ?_⟩) ?_ ?_
            rotate_left
            · intro w'
              go_simp
              with_reducible rfl
            rotate_left
            · simp only [Act.put, List.setIfInBounds_toArray, List.set_cons_zero, List.set_cons_succ, i64_w, i32_w]
              rfl
            refine pure_ (i := 4) (N := some 18) (v := ?_) (a' := ?_) #[true, false, false, false, true, false, false, false, false, false] rfl rfl (any_of HT_.out (by kernel_rfl)) (fun _ _ _ h => h) (Or.inl ⟨by rfl, ?_⟩) ?_ ?_
            rotate_left
            · intro w'
              go_simp
              with_reducible rfl
            rotate_left
            · simp only [Act.put, List.setIfInBounds_toArray, List.set_cons_zero, List.set_cons_succ, i64_w, i32_w]
              rfl
            refine pure_ (i := 6) (N := some 20) (v := ?_) (a' := ?_) #[true, false, false, false, true, false, true, false, false, false] rfl rfl (any_of HT_.out (by kernel_rfl)) (fun _ _ _ h => h) (Or.inl ⟨by rfl, ?_⟩) ?_ ?_
            rotate_left
            · intro w'
              go_simp
              with_reducible rfl
            rotate_left
            · simp only [Act.put, List.setIfInBounds_toArray, List.set_cons_zero, List.set_cons_succ, i64_w, i32_w]
              rfl
            refine take_ (i := 1) (N := some 15) (v := ?_) (a' := ?_) #[true, true, false, false, true, false, true, false, false, false] rfl rfl (take_ofW HT_.out HW_.out (by kernel_rfl)) (fun _ _ _ h => h) (Or.inl ⟨by rfl, ?_⟩) hHeld ?_ ?_
            rotate_left
            · rintro w' ⟨s0, s1, s2, s3, s4, s5⟩
              go_simp
              with_reducible rfl
            rotate_left
            · simp only [Act.put, List.setIfInBounds_toArray, List.set_cons_zero, List.set_cons_succ, i64_w, i32_w]
              rfl
            refine take_ (i := 5) (N := some 19) (v := ?_) (a' := ?_) #[true, true, false, false, true, true, true, false, false, false] rfl rfl (take_ofW HT_.out HW_.out (by kernel_rfl)) (fun _ _ _ h => h) (Or.inl ⟨by rfl, ?_⟩) hHeld ?_ ?_
            rotate_left
            · rintro w' ⟨s0, s1, s2, s3, s4, s5⟩
              go_simp
              with_reducible rfl
            rotate_left
            · simp only [Act.put, List.setIfInBounds_toArray, List.set_cons_zero, List.set_cons_succ, i64_w, i32_w]
              rfl
            refine pure_ (i := 7) (N := some 21) (v := ?_) (a' := ?_) #[true, true, false, false, true, true, true, true, false, false] rfl rfl (any_of HT_.out (by kernel_rfl)) (fun _ _ _ h => h) (Or.inl ⟨by rfl, ?_⟩) ?_ ?_
            rotate_left
            · intro w'
              go_simp
              with_reducible rfl
            rotate_left
            · simp only [Act.put, List.setIfInBounds_toArray, List.set_cons_zero, List.set_cons_succ, i64_w, i32_w]
              rfl
            refine one_ (i := 2) (N := some 16) #[true, true, true, false, true, true, true, true, false, false] rfl rfl (one_of HT_.out (by kernel_rfl)) (by decide) (fun K hK => ?_)
            refine value_ (w1 := ?_) (v := ?_) (by rfl) rfl ?_ ?_
            rotate_left 2
            · go_simp
              constructor
              · rfl
              · rfl
            refine hK.out _ _ ⟨(blk_cell (blk_alloc BK161.out _) 0).trans rfl, (blk_cell (blk_alloc BK161.out _) 1).trans rfl, (blk_cell (blk_alloc BK161.out _) 2).trans rfl, (blk_cell (blk_alloc BK161.out _) 3).trans rfl, (blk_cell (blk_alloc BK160.out _) 0).trans rfl, (blk_cell (blk_alloc BK160.out _) 1).trans rfl⟩ (fun hHeld => ?_)
            clear hK K
            refine norm_ (a' := ?_) ?_ ?_
            rotate_left
            · show Act.put _ (some 16) _ = _
              simp only [Act.put, List.setIfInBounds_toArray, List.set_cons_zero, List.set_cons_succ, i64_w, i32_w]
              rfl
            refine one_ (i := 3) (N := some 17) #[true, true, true, true, true, true, true, true, false, false] rfl rfl (one_of HT_.out (by kernel_rfl)) (by decide) (fun K hK => ?_)
            refine Kd.N_append_step k40 (w0 := w) w.heap.size (by rfl) (.tmp 14) (.tmp 16) 22 40 (.agg #[(.int .u32 0), (.int .u32 0), (.slice none 0 0), (.int .u32 0)]) 40 rfl Try.underlying22 info40 rfl (by decide) (by omega) v172 y171 (⟨a2_0, a2_1, l2_2, a2_3⟩ : S40) [.int .u32 a2_0, .int .u32 a2_1, .slice A2_2 l2_2.length c2_2, .int .u32 a2_3] (fun k_ => ((P0_0_ k_ ∨ P2_2_ k_) ∨ w.heap.size ≤ k_) ∧ k_ ≠ gb160 ∧ k_ ≠ gb161 ∧ k_ ≠ gb162) (fun k_ => ((fun k_ => ((P0_0_ k_ ∨ P2_2_ k_) ∨ w.heap.size ≤ k_) ∧ k_ ≠ gb160 ∧ k_ ≠ gb161 ∧ k_ ≠ gb162)) k_ ∧ some k_ ≠ (v172 : Value).ownBlock) rfl rfl ?aP (fun _ hk => hk) ?aF ?aO ?aB ?aS ?aL ?_
            (case aP => exact (k40_mkF _ _ (⟨a2_0, a2_1, l2_2, a2_3⟩ : S40) (Kd.V_reads' (Kd.V_mono (ok' := (fun k_ => ((fun k_ => ((P0_0_ k_ ∨ P2_2_ k_) ∨ w.heap.size ≤ k_) ∧ k_ ≠ gb160 ∧ k_ ≠ gb161 ∧ k_ ≠ gb162)) k_ ∧ some k_ ≠ (v172 : Value).ownBlock)) (HO2_2.out) (fun k_ hk => ⟨⟨hk.1.1, ⟨hk.1.2.1, ⟨hk.1.2.2.1, hk.1.2.2.2⟩⟩⟩, hk.2⟩))).2.1 (Kd.V_F (Kd.V_mono (ok' := (fun k_ => ((fun k_ => ((P0_0_ k_ ∨ P2_2_ k_) ∨ w.heap.size ≤ k_) ∧ k_ ≠ gb160 ∧ k_ ≠ gb161 ∧ k_ ≠ gb162)) k_ ∧ some k_ ≠ (v172 : Value).ownBlock)) (HO2_2.out) (fun k_ hk => ⟨⟨hk.1.1, ⟨hk.1.2.1, ⟨hk.1.2.2.1, hk.1.2.2.2⟩⟩⟩, hk.2⟩)))))
            (case aB => exact (by repeat (first | (with_reducible first | exact HB.out | apply below_alloc | apply pw_below_drewN | apply below_drew1 | refine below_set ?_ GE160.out | refine below_set ?_ GE161.out | refine below_set ?_ GE162.out) | exact HB.out)))
            (case aF => exact (fun k_ hk => ⟨(.inr (Nat.le_trans (below_size (by repeat (first | (with_reducible first | exact HB.out | apply below_alloc | apply pw_below_drewN | apply below_drew1 | refine below_set ?_ GE160.out | refine below_set ?_ GE161.out | refine below_set ?_ GE162.out) | exact HB.out))) hk)), Kd.freshB (g := gb160) (o := .cells #[.slice A0_0 l0_0.length c0_0, .int .u32 a0_1] 25 (0, 0)) (by (with_reducible repeat (first | refine blk_drewN ?_ _ | refine blk_drew ?_ | refine blk_alloc ?_ _)); exact BK160.out) k_ hk, Kd.freshB (g := gb161) (o := .cells #[.int .u32 a2_0, .int .u32 a2_1, .slice A2_2 l2_2.length c2_2, .int .u32 a2_3] 40 (0, 0)) (by (with_reducible repeat (first | refine blk_drewN ?_ _ | refine blk_drew ?_ | refine blk_alloc ?_ _)); exact BK161.out) k_ hk, Kd.freshB (g := gb162) (o := .cells #[.slice none 0 0, .int .u32 0] 25 (0, 0)) (by (with_reducible repeat (first | refine blk_drewN ?_ _ | refine blk_drew ?_ | refine blk_alloc ?_ _)); exact BK162.out) k_ hk⟩))
            (case aO => exact (by (with_reducible repeat (first | apply Kd.N_alloc | apply Kd.N_drewN | apply Kd.N_drew)); exact HO173.out))
            (case aS => exact (below_size (by repeat (first | (with_reducible first | exact HB.out | apply below_alloc | apply pw_below_drewN | apply below_drew1 | refine below_set ?_ GE160.out | refine below_set ?_ GE161.out | refine below_set ?_ GE162.out) | exact HB.out))))
            (case aL => have := LMc7.out; omega)
            intro v175 w23 ho hb hg hat
            rw [← Ny174.out] at ho
            have n0_ := Aside0.mk (Kd.V_afterv (ok := (fun k_ => ((P0_0_ k_ ∨ P2_2_ k_) ∨ w.heap.size ≤ k_) ∧ k_ ≠ gb160 ∧ k_ ≠ gb161 ∧ k_ ≠ gb162)) (by (with_reducible repeat (first | apply Kd.V_alloc | apply Kd.V_drewN | apply Kd.V_drew)); exact HO0_0.out) hg hat)
            have n1_ := Aside0.mk (Kd.V_afterv (ok := (fun k_ => ((P0_0_ k_ ∨ P2_2_ k_) ∨ w.heap.size ≤ k_) ∧ k_ ≠ gb160 ∧ k_ ≠ gb161 ∧ k_ ≠ gb162)) (by (with_reducible repeat (first | apply Kd.V_alloc | apply Kd.V_drewN | apply Kd.V_drew)); exact HO2_2.out) hg hat)
            have n2_ := Aside0.mk (blk_grown (g := gb160) (o := .cells #[.slice A0_0 l0_0.length c0_0, .int .u32 a0_1] 25 (0, 0)) (by (with_reducible repeat (first | refine blk_drewN ?_ _ | refine blk_drew ?_ | refine blk_alloc ?_ _)); exact BK160.out) hg (Kd.N_ne HO173.out BK160.out (by decide)))
            have n3_ := Aside0.mk (blk_grown (g := gb161) (o := .cells #[.int .u32 a2_0, .int .u32 a2_1, .slice A2_2 l2_2.length c2_2, .int .u32 a2_3] 40 (0, 0)) (by (with_reducible repeat (first | refine blk_drewN ?_ _ | refine blk_drew ?_ | refine blk_alloc ?_ _)); exact BK161.out) hg (Kd.N_away HO173.out (fun _ hk => hk.2.2.1)))
            have n4_ := Aside0.mk (blk_grown (g := gb162) (o := .cells #[.slice none 0 0, .int .u32 0] 25 (0, 0)) (by (with_reducible repeat (first | refine blk_drewN ?_ _ | refine blk_drew ?_ | refine blk_alloc ?_ _)); exact BK162.out) hg (Kd.N_ne HO173.out BK162.out (by decide)))
            have n5_ := Aside0.mk (Kd.V_afterv (ok := (fun k_ => ((P0_0_ k_ ∨ P2_2_ k_) ∨ w.heap.size ≤ k_) ∧ k_ ≠ gb160 ∧ k_ ≠ gb161 ∧ k_ ≠ gb162)) (by (with_reducible repeat (first | apply Kd.V_alloc | apply Kd.V_drewN | apply Kd.V_drew)); exact HO170.out) hg hat)
            have n6_ := Aside0.mk (Kd.V_afterv (ok := (fun k_ => ((P0_0_ k_ ∨ P2_2_ k_) ∨ w.heap.size ≤ k_) ∧ k_ ≠ gb160 ∧ k_ ≠ gb161 ∧ k_ ≠ gb162)) (by (with_reducible repeat (first | apply Kd.V_alloc | apply Kd.V_drewN | apply Kd.V_drew)); exact HO181.out) hg hat)
            have n7_ := Aside0.mk (hb)
            have n8_ := Aside0.mk (ho)
            clear HO0_0
            clear HO2_2
            clear BK160
            clear BK161
            clear BK162
            clear HO170
            clear HO181
            clear HB
            clear HO173
            have HO0_0 := n0_
            have HO2_2 := n1_
            have BK160 := n2_
            have BK161 := n3_
            have BK162 := n4_
            have HO170 := n5_
            have HO181 := n6_
            have HB := n7_
            have HO176 := n8_
            clear n0_ n1_ n2_ n3_ n4_ n5_ n6_ n7_ n8_
            clear ho hb hg hat
            refine hK.out _ _ ⟨(blk_cell BK161.out 0).trans rfl, (blk_cell BK161.out 1).trans rfl, (blk_cell BK161.out 2).trans rfl, (blk_cell BK161.out 3).trans rfl, (blk_cell BK160.out 0).trans rfl, (blk_cell BK160.out 1).trans rfl⟩ (fun hHeld => ?_)
            clear hK K
            refine norm_ (a' := ?_) ?_ ?_
            rotate_left
            · show Act.put _ (some 17) _ = _
              simp only [Act.put, List.setIfInBounds_toArray, List.set_cons_zero, List.set_cons_succ, i64_w, i32_w]
              rfl
            refine one_ (i := 8) (N := some 22) #[true, true, true, true, true, true, true, true, true, false] rfl rfl (one_of HT_.out (by kernel_rfl)) (by decide) (fun K hK => ?_)
            refine Kd.N_append_rows_step k40 (w0 := w) w.heap.size (by rfl) (.tmp 17) (.tmp 21) 22 40 (.agg #[(.int .u32 0), (.int .u32 0), (.slice none 0 0), (.int .u32 0)]) 40 rfl Try.underlying22 info40 rfl (by decide) (by omega) v175 y174 y177 _ _ _ (fun k_ => ((P0_0_ k_ ∨ P2_2_ k_) ∨ w.heap.size ≤ k_) ∧ k_ ≠ gb160 ∧ k_ ≠ gb161 ∧ k_ ≠ gb162) (fun k_ => ((fun k_ => ((P0_0_ k_ ∨ P2_2_ k_) ∨ w.heap.size ≤ k_) ∧ k_ ≠ gb160 ∧ k_ ≠ gb161 ∧ k_ ≠ gb162)) k_ ∧ some k_ ≠ (v175 : Value).ownBlock) rfl rfl ?aO ?aR (fun _ hk => hk) ?aF ?aB ?aS ?aL ?_
            (case aR => exact (by skip; exact Kd.V_F (Kd.V_mono (ok' := (fun k_ => ((fun k_ => ((P0_0_ k_ ∨ P2_2_ k_) ∨ w.heap.size ≤ k_) ∧ k_ ≠ gb160 ∧ k_ ≠ gb161 ∧ k_ ≠ gb162)) k_ ∧ some k_ ≠ (v175 : Value).ownBlock)) (HO181.out) (fun k_ hk => ⟨⟨hk.1.1, ⟨hk.1.2.1, ⟨hk.1.2.2.1, hk.1.2.2.2⟩⟩⟩, hk.2⟩))))
            (case aB => exact (by repeat (first | (with_reducible first | exact HB.out | apply below_alloc | apply pw_below_drewN | apply below_drew1 | refine below_set ?_ GE160.out | refine below_set ?_ GE161.out | refine below_set ?_ GE162.out) | exact HB.out)))
            (case aF => exact (fun k_ hk => ⟨(.inr (Nat.le_trans (below_size (by repeat (first | (with_reducible first | exact HB.out | apply below_alloc | apply pw_below_drewN | apply below_drew1 | refine below_set ?_ GE160.out | refine below_set ?_ GE161.out | refine below_set ?_ GE162.out) | exact HB.out))) hk)), Kd.freshB (g := gb160) (o := .cells #[.slice A0_0 l0_0.length c0_0, .int .u32 a0_1] 25 (0, 0)) (by (with_reducible repeat (first | refine blk_drewN ?_ _ | refine blk_drew ?_ | refine blk_alloc ?_ _)); exact BK160.out) k_ hk, Kd.freshB (g := gb161) (o := .cells #[.int .u32 a2_0, .int .u32 a2_1, .slice A2_2 l2_2.length c2_2, .int .u32 a2_3] 40 (0, 0)) (by (with_reducible repeat (first | refine blk_drewN ?_ _ | refine blk_drew ?_ | refine blk_alloc ?_ _)); exact BK161.out) k_ hk, Kd.freshB (g := gb162) (o := .cells #[.slice none 0 0, .int .u32 0] 25 (0, 0)) (by (with_reducible repeat (first | refine blk_drewN ?_ _ | refine blk_drew ?_ | refine blk_alloc ?_ _)); exact BK162.out) k_ hk⟩))
            (case aO => exact (by (with_reducible repeat (first | apply Kd.N_alloc | apply Kd.N_drewN | apply Kd.N_drew)); exact HO176.out))
            (case aS => exact (below_size (by repeat (first | (with_reducible first | exact HB.out | apply below_alloc | apply pw_below_drewN | apply below_drew1 | refine below_set ?_ GE160.out | refine below_set ?_ GE161.out | refine below_set ?_ GE162.out) | exact HB.out))))
            (case aL => have := LMc10.out; omega)
            intro v183 w24 ho hb hg hat
            rw [← Ny182.out] at ho
            have n0_ := Aside0.mk (Kd.V_afterv (ok := (fun k_ => ((P0_0_ k_ ∨ P2_2_ k_) ∨ w.heap.size ≤ k_) ∧ k_ ≠ gb160 ∧ k_ ≠ gb161 ∧ k_ ≠ gb162)) (by (with_reducible repeat (first | apply Kd.V_alloc | apply Kd.V_drewN | apply Kd.V_drew)); exact HO0_0.out) hg hat)
            have n1_ := Aside0.mk (Kd.V_afterv (ok := (fun k_ => ((P0_0_ k_ ∨ P2_2_ k_) ∨ w.heap.size ≤ k_) ∧ k_ ≠ gb160 ∧ k_ ≠ gb161 ∧ k_ ≠ gb162)) (by (with_reducible repeat (first | apply Kd.V_alloc | apply Kd.V_drewN | apply Kd.V_drew)); exact HO2_2.out) hg hat)
            have n2_ := Aside0.mk (blk_grown (g := gb160) (o := .cells #[.slice A0_0 l0_0.length c0_0, .int .u32 a0_1] 25 (0, 0)) (by (with_reducible repeat (first | refine blk_drewN ?_ _ | refine blk_drew ?_ | refine blk_alloc ?_ _)); exact BK160.out) hg (Kd.N_ne HO176.out BK160.out (by decide)))
            have n3_ := Aside0.mk (blk_grown (g := gb161) (o := .cells #[.int .u32 a2_0, .int .u32 a2_1, .slice A2_2 l2_2.length c2_2, .int .u32 a2_3] 40 (0, 0)) (by (with_reducible repeat (first | refine blk_drewN ?_ _ | refine blk_drew ?_ | refine blk_alloc ?_ _)); exact BK161.out) hg (Kd.N_away HO176.out (fun _ hk => hk.2.2.1)))
            have n4_ := Aside0.mk (blk_grown (g := gb162) (o := .cells #[.slice none 0 0, .int .u32 0] 25 (0, 0)) (by (with_reducible repeat (first | refine blk_drewN ?_ _ | refine blk_drew ?_ | refine blk_alloc ?_ _)); exact BK162.out) hg (Kd.N_ne HO176.out BK162.out (by decide)))
            have n5_ := Aside0.mk (Kd.V_afterv (ok := (fun k_ => ((P0_0_ k_ ∨ P2_2_ k_) ∨ w.heap.size ≤ k_) ∧ k_ ≠ gb160 ∧ k_ ≠ gb161 ∧ k_ ≠ gb162)) (by (with_reducible repeat (first | apply Kd.V_alloc | apply Kd.V_drewN | apply Kd.V_drew)); exact HO170.out) hg hat)
            have n6_ := Aside0.mk (Kd.V_afterv (ok := (fun k_ => ((P0_0_ k_ ∨ P2_2_ k_) ∨ w.heap.size ≤ k_) ∧ k_ ≠ gb160 ∧ k_ ≠ gb161 ∧ k_ ≠ gb162)) (by (with_reducible repeat (first | apply Kd.V_alloc | apply Kd.V_drewN | apply Kd.V_drew)); exact HO181.out) hg hat)
            have n7_ := Aside0.mk (hb)
            have n8_ := Aside0.mk (ho)
            clear HO0_0
            clear HO2_2
            clear BK160
            clear BK161
            clear BK162
            clear HO170
            clear HO181
            clear HB
            clear HO176
            have HO0_0 := n0_
            have HO2_2 := n1_
            have BK160 := n2_
            have BK161 := n3_
            have BK162 := n4_
            have HO170 := n5_
            have HO181 := n6_
            have HB := n7_
            have HO184 := n8_
            clear n0_ n1_ n2_ n3_ n4_ n5_ n6_ n7_ n8_
            clear ho hb hg hat
            refine hK.out _ _ ⟨(blk_cell BK161.out 0).trans rfl, (blk_cell BK161.out 1).trans rfl, (blk_cell BK161.out 2).trans rfl, (blk_cell BK161.out 3).trans rfl, (blk_cell BK160.out 0).trans rfl, (blk_cell BK160.out 1).trans rfl⟩ (fun hHeld => ?_)
            clear hK K
            refine norm_ (a' := ?_) ?_ ?_
            rotate_left
            · show Act.put _ (some 22) _ = _
              simp only [Act.put, List.setIfInBounds_toArray, List.set_cons_zero, List.set_cons_succ, i64_w, i32_w]
              rfl
            refine pure_ (i := 9) (N := some 7) (v := ?_) (a' := ?_) #[true, true, true, true, true, true, true, true, true, true] rfl rfl (any_of HT_.out (by kernel_rfl)) (fun _ _ _ h => h) (Or.inl ⟨by rfl, ?_⟩) ?_ ?_
            rotate_left
            · intro w'
              go_simp
              with_reducible rfl
            rotate_left
            · simp only [Act.put, List.setIfInBounds_toArray, List.set_cons_zero, List.set_cons_succ, i64_w, i32_w]
              rfl
            refine done_ (done_of HT_.out (by kernel_rfl)) ?_
            have hcz25_0 : w24.cell? ⟨gb160, 0, none⟩ = some (.slice A0_0 l0_0.length c0_0) := (blk_cell BK160.out 0).trans rfl
            have hcz25_1 : w24.cell? ⟨gb160, 1, none⟩ = some (.int .u32 a0_1) := (blk_cell BK160.out 1).trans rfl
            have hfz25_0 := blk_frozen BK160.out 0
            have hfz25_1 := blk_frozen BK160.out 1
            obtain ⟨Ao26, co26, eo26⟩ := Kd.N_slice HO184.out
            subst eo26
            have hnb27 := NB162_161.out
            have hnc27 := NB161_162.out
            have hcz28_0 : w24.cell? ⟨gb162, 0, none⟩ = some (.slice none 0 0) := (blk_cell BK162.out 0).trans rfl
            have hcz28_1 : w24.cell? ⟨gb162, 1, none⟩ = some (.int .u32 0) := (blk_cell BK162.out 1).trans rfl
            have hfz28_0 := blk_frozen BK162.out 0
            have hfz28_1 := blk_frozen BK162.out 1
            try go_wp2
            refine bodyPost_ret (results_cell_row rfl _ _ gb162 25 #[.slice Ao26 y182.length co26, .int .u32 a0_1] (0, 0) _ rfl (by (with_reducible repeat (first | refine blk_drewN ?_ _ | refine blk_drew ?_ | refine blk_alloc ?_ _)); refine blk_put (cs := #[.slice Ao26 y182.length co26, .int .u32 0]) ?_ 1 _ rfl; (with_reducible repeat (first | refine blk_drewN ?_ _ | refine blk_drew ?_ | refine blk_alloc ?_ _)); refine blk_put (cs := #[.slice none 0 0, .int .u32 0]) ?_ 0 _ rfl; (with_reducible repeat (first | refine blk_drewN ?_ _ | refine blk_drew ?_ | refine blk_alloc ?_ _)); exact BK162.out) Try.underlying25 rfl (by kernel_rfl)) rfl ?_
            exact ⟨_, by first | rfl | (simp [errW_none, errW_some] <;> rfl) | (simp [*, errW_none, errW_some] <;> rfl), by (with_reducible repeat (first | apply Kd.N_alloc | apply Kd.N_drewN | apply Kd.N_drew)); exact Kd.N_mono (Kd.N_far (p := ⟨gb162, 1, none⟩) (Kd.N_far (p := ⟨gb162, 0, none⟩) (Kd.N_mono HO184.out (fun k_ hk => (⟨hk, hk.2.2.2⟩ : _ ∧ k_ ≠ gb162))) (fun _ hk => hk.2) (.slice Ao26 y182.length co26)) (fun _ hk => hk.2) (.int .u32 a0_1)) (fun _ hk => hk.1.1), by repeat (first | (with_reducible first | exact HB.out | apply below_alloc | apply pw_below_drewN | apply below_drew1 | refine below_set ?_ GE160.out | refine below_set ?_ GE161.out | refine below_set ?_ GE162.out) | exact HB.out)⟩
          · rw [if_neg c10] at H
            exact absurd H (by simp)
        · rw [if_neg c7] at H
          exact absurd H (by simp)
      · rw [if_neg c6] at H
        exact absurd H (by simp)
    · rw [if_neg c5] at H
      exact absurd H (by simp)
  · rw [if_neg c4] at H
    exact absurd H (by simp)
end Go.Proofs.Ytekpbgmmogpbdaa.D
namespace Go.Proofs.Ytekpbgmmogpbdaa.D
open Go.RowKit Go.Proofs.Ytekpbgmmogpbdaa.H Go.Proofs.YtekpbgmmogpbdaaW.PrintWords Go.Proofs.YtekpbgmmogpbdaaW.PrintLast Go.Proofs.YtekpbgmmogpbdaaW.PrintMore
open Go.Proofs.Ytekpbgmmogpbdaa.P (errW errW_none errW_some info40 info61 S61 z61 k61 k61_open k61_mk k61_mkM rd_T61 at_T61 S40 z40 k40 k40_open k40_openM k40_mk k40_mkM k40_mkF rd_T40 at_T40)
attribute [local go_sem] max2_int min2_int max_two min_two max_three min_three max_four min_four
set_option linter.unusedVariables false
set_option linter.unusedSimpArgs false
noncomputable def hurdlelaw11_DenoteAhead.j0 : Nat → Bool → List (S40) → Int → Int → Int → List (S61) → Int → Int → Int → Int → Int → Int → Int → Int → Int → Int → List (S40) → Int → Option (Bool)
  | 0, _, _, _, _, _, _, _, _, _, _, _, _, _, _, _, _, _, _ => none
  | k + 1, x25, x195000, x195001, x196000, x196001, x196002, x196003, x197000, x197001, x197002, x197003, x197004, x197005, x197006, x197007, x197008, x204000, x204001 => if x25 = true then ((hurdlelaw11_knows.f).bind fun t206 => (some t206)) else ((denote_Judge.f x195000 x195001 x197000 x197001 x197002 x197003 x197004 x197005 x197006 x197007 x197008).bind fun bt207 => ((denote_Judge.f x204000 x204001 x197000 x197001 x197002 x197003 x197004 x197005 x197006 x197007 x197008).bind fun bt209 => ((denote_Fits.f x196000 x196001 x196002 x196003 x197000 x197001 x197002 x197003 x197004 x197005 x197006 x197007 x197008).bind fun t211 => (if t211 = true then (if x196003 = bt209.1 then (if bt207.2 = 0 then (if bt209.2 = 0 then ((hurdlelaw11_knows.f).bind fun t212 => (some t212)) else (some false)) else (some false)) else (some false)) else (if bt207.1 = bt209.1 then (if bt207.2 = 0 then (if bt209.2 = 0 then ((hurdlelaw11_knows.f).bind fun t213 => (some t213)) else (some false)) else (some false)) else (some false))))))
noncomputable def hurdlelaw11_DenoteAhead.f (k : Nat) (l0_0 : List (S40)) (a0_1 : Int) (a1_0 : Int) (a1_1 : Int) (l1_2 : List (S61)) (a1_3 : Int) (a2_0 : Int) (a2_1 : Int) (a2_2 : Int) (a2_3 : Int) (a2_4 : Int) (a2_5 : Int) (a2_6 : Int) (a2_7 : Int) (a2_8 : Int) : Option (Bool) := (hurdlelaw10_Great.f l0_0 a0_1).bind fun t197 => (if t197 = true then ((hurdlelaw11_knows.f).bind fun t198 => (some t198)) else ((hurdlelaw11_put.f l0_0 a0_1 0 a1_0 a1_1 l1_2 a1_3).bind fun bt199 => ((hurdleref10_Right.f l0_0 a0_1).bind fun t204 => (if t204 = true then ((hurdleref10_Right.f bt199.1 bt199.2).bind fun t205 => (hurdlelaw11_DenoteAhead.j0 k (!t205) l0_0 a0_1 a1_0 a1_1 l1_2 a1_3 a2_0 a2_1 a2_2 a2_3 a2_4 a2_5 a2_6 a2_7 a2_8 bt199.1 bt199.2)) else (hurdlelaw11_DenoteAhead.j0 k true l0_0 a0_1 a1_0 a1_1 l1_2 a1_3 a2_0 a2_1 a2_2 a2_3 a2_4 a2_5 a2_6 a2_7 a2_8 bt199.1 bt199.2)))))
set_option maxHeartbeats 8000000 in
set_option maxRecDepth 100000 in
theorem hurdlelaw11_DenoteAhead.calls (k : Nat) (A0_0 : Option Addr) (c0_0 : Nat) (l0_0 : List (S40)) (a0_1 : Int) (a1_0 : Int) (a1_1 : Int) (A1_2 : Option Addr) (c1_2 : Nat) (l1_2 : List (S61)) (a1_3 : Int) (a2_0 : Int) (a2_1 : Int) (a2_2 : Int) (a2_3 : Int) (a2_4 : Int) (a2_5 : Int) (a2_6 : Int) (a2_7 : Int) (a2_8 : Int) (r : Bool) (w : World) (hr0_0 : Kd.C k40 w A0_0 l0_0.length l0_0) (hc0_0 : l0_0.length ≤ c0_0) (hr1_2 : Kd.C k61 w A1_2 l1_2.length l1_2) (hc1_2 : l1_2.length ≤ c1_2) (h : hurdlelaw11_DenoteAhead.f k l0_0 a0_1 a1_0 a1_1 l1_2 a1_3 a2_0 a2_1 a2_2 a2_3 a2_4 a2_5 a2_6 a2_7 a2_8 = some r) (ht : r = true) :
    Calls Try.prog 11 #[.agg #[.slice A0_0 l0_0.length c0_0, .int .u32 a0_1], .agg #[.int .u32 a1_0, .int .u32 a1_1, .slice A1_2 l1_2.length c1_2, .int .u32 a1_3], .agg #[.int .u32 a2_0, .int .u32 a2_1, .int .u64 a2_2, .int .u64 a2_3, .int .u64 a2_4, .int .u64 a2_5, .int .u64 a2_6, .int .u64 a2_7, .int .u64 a2_8]] w fun e w' => e = .returned (.bool r) ∧ Below w.heap.size w w' := by
  have hu25 := Try.underlying25
  have hu40 := Try.underlying40
  have hu44 := Try.underlying44
  have HR0_0 := Aside0.mk hr0_0
  have HC0_0 := Aside0.mk hc0_0
  clear hr0_0 hc0_0
  have HR1_2 := Aside0.mk hr1_2
  have HC1_2 := Aside0.mk hc1_2
  clear hr1_2 hc1_2
  have HB := Aside0.mk (Below.refl w.heap.size w)
  have H : ((hurdlelaw10_Great.f l0_0 a0_1).bind fun t197 => (if t197 = true then ((hurdlelaw11_knows.f).bind fun t198 => (some t198)) else ((hurdlelaw11_put.f l0_0 a0_1 0 a1_0 a1_1 l1_2 a1_3).bind fun bt199 => ((hurdleref10_Right.f l0_0 a0_1).bind fun t204 => (if t204 = true then ((hurdleref10_Right.f bt199.1 bt199.2).bind fun t205 => (hurdlelaw11_DenoteAhead.j0 k (!t205) l0_0 a0_1 a1_0 a1_1 l1_2 a1_3 a2_0 a2_1 a2_2 a2_3 a2_4 a2_5 a2_6 a2_7 a2_8 bt199.1 bt199.2)) else (hurdlelaw11_DenoteAhead.j0 k true l0_0 a0_1 a1_0 a1_1 l1_2 a1_3 a2_0 a2_1 a2_2 a2_3 a2_4 a2_5 a2_6 a2_7 a2_8 bt199.1 bt199.2)))))) = some r := h
  clear h
  replace H := Option.bind_eq_some_iff.mp H
  obtain ⟨t197, A40, H⟩ := H
  replace H : (if t197 = true then ((hurdlelaw11_knows.f).bind fun t198 => (some t198)) else ((hurdlelaw11_put.f l0_0 a0_1 0 a1_0 a1_1 l1_2 a1_3).bind fun bt199 => ((hurdleref10_Right.f l0_0 a0_1).bind fun t204 => (if t204 = true then ((hurdleref10_Right.f bt199.1 bt199.2).bind fun t205 => (hurdlelaw11_DenoteAhead.j0 k (!t205) l0_0 a0_1 a1_0 a1_1 l1_2 a1_3 a2_0 a2_1 a2_2 a2_3 a2_4 a2_5 a2_6 a2_7 a2_8 bt199.1 bt199.2)) else (hurdlelaw11_DenoteAhead.j0 k true l0_0 a0_1 a1_0 a1_1 l1_2 a1_3 a2_0 a2_1 a2_2 a2_3 a2_4 a2_5 a2_6 a2_7 a2_8 bt199.1 bt199.2))))) = some r := H
  have A4 := Aside0.mk A40
  clear A40
  by_cases c5 : t197 = true
  · subst c5
    have H1 : ((hurdlelaw11_knows.f).bind fun t198 => (some t198)) = some r := by rw [if_pos rfl] at H; exact H
    clear H
    have H := H1
    clear H1
    replace H := Option.bind_eq_some_iff.mp H
    obtain ⟨t198, A60, H⟩ := H
    replace H : (some t198) = some r := H
    have A6 := Aside0.mk A60
    clear A60
    obtain rfl := Option.some.inj H
    go_enter Try.func11, Try.ntmps11
    go_wp2_with (first | ((with_reducible refine gate_dst (N := 3) rfl ?_); refine box_event ?hg (N := 3) ?hd (cs := #[.slice A0_0 l0_0.length c0_0, .int .u32 a0_1]) (t := 25) ?hr ?_; (case hd => rfl); (case hg => rfl); (case hr => first | (go_simp; done) | (go_simp; rfl)); intro gb194 hg w7 hbox hb; have n0_ := Aside0.mk (below_step (by repeat (first | (with_reducible first | exact HB.out | apply below_alloc | apply pw_below_drewN | apply below_drew1) | exact HB.out)) hb); have n1_ := Aside0.mk (hbox); have n2_ := Aside0.mk ((by rw [hg]; exact (below_size (by repeat (first | (with_reducible first | exact HB.out | apply below_alloc | apply pw_below_drewN | apply below_drew1) | exact HB.out))) : w.heap.size ≤ gb194)); have n3_ := Aside0.mk ((by rw [hg]; exact (below_size (by repeat (first | (with_reducible first | exact HB.out | apply below_alloc | apply pw_below_drewN | apply below_drew1) | exact HB.out))) : w.heap.size ≤ gb194)); clear HB; have HB := n0_; have BK194 := n1_; have GW194 := n2_; have GE194 := n3_; clear n0_ n1_ n2_ n3_; clear hb hbox hg) | ((with_reducible refine gate_dst (N := 4) rfl ?_); refine box_event ?hg (N := 4) ?hd (cs := #[.int .u32 a1_0, .int .u32 a1_1, .slice A1_2 l1_2.length c1_2, .int .u32 a1_3]) (t := 40) ?hr ?_; (case hd => rfl); (case hg => rfl); (case hr => first | (go_simp; done) | (go_simp; rfl)); intro gb195 hg w8 hbox hb; have n0_ := Aside0.mk (blk_below (g := gb194) (o := .cells #[.slice A0_0 l0_0.length c0_0, .int .u32 a0_1] 25 (0, 0)) (by (with_reducible repeat (first | refine blk_drewN ?_ _ | refine blk_drew ?_ | refine blk_alloc ?_ _)); exact BK194.out) hb); have n1_ := Aside0.mk (below_step (by repeat (first | (with_reducible first | exact HB.out | apply below_alloc | apply pw_below_drewN | apply below_drew1 | refine below_set ?_ GE194.out) | exact HB.out)) hb); have n2_ := Aside0.mk (hbox); have n3_ := Aside0.mk ((by rw [hg]; exact (below_size (by repeat (first | (with_reducible first | exact HB.out | apply below_alloc | apply pw_below_drewN | apply below_drew1 | refine below_set ?_ GE194.out) | exact HB.out))) : w.heap.size ≤ gb195)); have n4_ := Aside0.mk ((by rw [hg]; exact (below_size (by repeat (first | (with_reducible first | exact HB.out | apply below_alloc | apply pw_below_drewN | apply below_drew1 | refine below_set ?_ GE194.out) | exact HB.out))) : w.heap.size ≤ gb195)); have n5_ := Aside0.mk ((by rw [hg]; exact Nat.ne_of_lt (blk_lt (g := gb194) (o := .cells #[.slice A0_0 l0_0.length c0_0, .int .u32 a0_1] 25 (0, 0)) (by (with_reducible repeat (first | refine blk_drewN ?_ _ | refine blk_drew ?_ | refine blk_alloc ?_ _)); exact BK194.out)) : gb194 ≠ gb195)); have n6_ := Aside0.mk ((by rw [hg]; exact Nat.ne_of_gt (blk_lt (g := gb194) (o := .cells #[.slice A0_0 l0_0.length c0_0, .int .u32 a0_1] 25 (0, 0)) (by (with_reducible repeat (first | refine blk_drewN ?_ _ | refine blk_drew ?_ | refine blk_alloc ?_ _)); exact BK194.out)) : gb195 ≠ gb194)); clear BK194; clear HB; have BK194 := n0_; have HB := n1_; have BK195 := n2_; have GW195 := n3_; have GE195 := n4_; have NB194_195 := n5_; have NB195_194 := n6_; clear n0_ n1_ n2_ n3_ n4_ n5_ n6_; clear hb hbox hg) | ((with_reducible refine gate_dst (N := 5) rfl ?_); refine box_event ?hg (N := 5) ?hd (cs := #[.int .u32 a2_0, .int .u32 a2_1, .int .u64 a2_2, .int .u64 a2_3, .int .u64 a2_4, .int .u64 a2_5, .int .u64 a2_6, .int .u64 a2_7, .int .u64 a2_8]) (t := 44) ?hr ?_; (case hd => rfl); (case hg => rfl); (case hr => first | (go_simp; done) | (go_simp; rfl)); intro gb196 hg w9 hbox hb; have n0_ := Aside0.mk (blk_below (g := gb194) (o := .cells #[.slice A0_0 l0_0.length c0_0, .int .u32 a0_1] 25 (0, 0)) (by (with_reducible repeat (first | refine blk_drewN ?_ _ | refine blk_drew ?_ | refine blk_alloc ?_ _)); exact BK194.out) hb); have n1_ := Aside0.mk (blk_below (g := gb195) (o := .cells #[.int .u32 a1_0, .int .u32 a1_1, .slice A1_2 l1_2.length c1_2, .int .u32 a1_3] 40 (0, 0)) (by (with_reducible repeat (first | refine blk_drewN ?_ _ | refine blk_drew ?_ | refine blk_alloc ?_ _)); exact BK195.out) hb); have n2_ := Aside0.mk (below_step (by repeat (first | (with_reducible first | exact HB.out | apply below_alloc | apply pw_below_drewN | apply below_drew1 | refine below_set ?_ GE194.out | refine below_set ?_ GE195.out) | exact HB.out)) hb); have n3_ := Aside0.mk (hbox); have n4_ := Aside0.mk ((by rw [hg]; exact (below_size (by repeat (first | (with_reducible first | exact HB.out | apply below_alloc | apply pw_below_drewN | apply below_drew1 | refine below_set ?_ GE194.out | refine below_set ?_ GE195.out) | exact HB.out))) : w.heap.size ≤ gb196)); have n5_ := Aside0.mk ((by rw [hg]; exact (below_size (by repeat (first | (with_reducible first | exact HB.out | apply below_alloc | apply pw_below_drewN | apply below_drew1 | refine below_set ?_ GE194.out | refine below_set ?_ GE195.out) | exact HB.out))) : w.heap.size ≤ gb196)); have n6_ := Aside0.mk ((by rw [hg]; exact Nat.ne_of_lt (blk_lt (g := gb194) (o := .cells #[.slice A0_0 l0_0.length c0_0, .int .u32 a0_1] 25 (0, 0)) (by (with_reducible repeat (first | refine blk_drewN ?_ _ | refine blk_drew ?_ | refine blk_alloc ?_ _)); exact BK194.out)) : gb194 ≠ gb196)); have n7_ := Aside0.mk ((by rw [hg]; exact Nat.ne_of_gt (blk_lt (g := gb194) (o := .cells #[.slice A0_0 l0_0.length c0_0, .int .u32 a0_1] 25 (0, 0)) (by (with_reducible repeat (first | refine blk_drewN ?_ _ | refine blk_drew ?_ | refine blk_alloc ?_ _)); exact BK194.out)) : gb196 ≠ gb194)); have n8_ := Aside0.mk ((by rw [hg]; exact Nat.ne_of_lt (blk_lt (g := gb195) (o := .cells #[.int .u32 a1_0, .int .u32 a1_1, .slice A1_2 l1_2.length c1_2, .int .u32 a1_3] 40 (0, 0)) (by (with_reducible repeat (first | refine blk_drewN ?_ _ | refine blk_drew ?_ | refine blk_alloc ?_ _)); exact BK195.out)) : gb195 ≠ gb196)); have n9_ := Aside0.mk ((by rw [hg]; exact Nat.ne_of_gt (blk_lt (g := gb195) (o := .cells #[.int .u32 a1_0, .int .u32 a1_1, .slice A1_2 l1_2.length c1_2, .int .u32 a1_3] 40 (0, 0)) (by (with_reducible repeat (first | refine blk_drewN ?_ _ | refine blk_drew ?_ | refine blk_alloc ?_ _)); exact BK195.out)) : gb196 ≠ gb195)); clear BK194; clear BK195; clear HB; have BK194 := n0_; have BK195 := n1_; have HB := n2_; have BK196 := n3_; have GW196 := n4_; have GE196 := n5_; have NB194_196 := n6_; have NB196_194 := n7_; have NB195_196 := n8_; have NB196_195 := n9_; clear n0_ n1_ n2_ n3_ n4_ n5_ n6_ n7_ n8_ n9_; clear hb hbox hg; have hnb10 := NB194_195.out; have hnc10 := NB195_194.out; have hnb11 := NB194_196.out; have hnc11 := NB196_194.out; have hcz12_0 : w9.cell? ⟨gb194, 0, none⟩ = some (.slice A0_0 l0_0.length c0_0) := (blk_cell BK194.out 0).trans rfl; have hcz12_1 : w9.cell? ⟨gb194, 1, none⟩ = some (.int .u32 a0_1) := (blk_cell BK194.out 1).trans rfl; have hfz12_0 := blk_frozen BK194.out 0; have hfz12_1 := blk_frozen BK194.out 1) | ((with_reducible refine gate_callee (f := 14) rfl ?_); refine goesL_ (some 13) rfl rfl Try.func14 (by kernel_rfl) rfl #[.agg #[.slice A0_0 l0_0.length c0_0, .int .u32 a0_1]] rfl (by (try simp only [List.map_toArray, List.map_cons, List.map_nil]); first | done | rfl | (simp only [List.length_drop, List.length_take]; rfl)) ?_; (with_reducible refine (hurdlelaw10_Great.calls _ _ l0_0 a0_1 true _ ?side1 ?side2 A4.out).mono ?_); (case side1 => repeat (first | exact (Kd.C_below HR0_0.out HB.out) | (with_reducible refine Kd.C_alloc ?_ _) | (with_reducible refine Kd.C_drewN ?_ _) | (with_reducible refine Kd.C_drew ?_))); (case side2 => exact HC0_0.out); rintro e w13 ⟨rfl, hb⟩; refine ⟨_, rfl, ?_⟩; have n0_ := Aside0.mk (blk_below (g := gb194) (o := .cells #[.slice A0_0 l0_0.length c0_0, .int .u32 a0_1] 25 (0, 0)) (by (with_reducible repeat (first | refine blk_drewN ?_ _ | refine blk_drew ?_ | refine blk_alloc ?_ _)); exact BK194.out) hb); have n1_ := Aside0.mk (blk_below (g := gb195) (o := .cells #[.int .u32 a1_0, .int .u32 a1_1, .slice A1_2 l1_2.length c1_2, .int .u32 a1_3] 40 (0, 0)) (by (with_reducible repeat (first | refine blk_drewN ?_ _ | refine blk_drew ?_ | refine blk_alloc ?_ _)); exact BK195.out) hb); have n2_ := Aside0.mk (blk_below (g := gb196) (o := .cells #[.int .u32 a2_0, .int .u32 a2_1, .int .u64 a2_2, .int .u64 a2_3, .int .u64 a2_4, .int .u64 a2_5, .int .u64 a2_6, .int .u64 a2_7, .int .u64 a2_8] 44 (0, 0)) (by (with_reducible repeat (first | refine blk_drewN ?_ _ | refine blk_drew ?_ | refine blk_alloc ?_ _)); exact BK196.out) hb); have n3_ := Aside0.mk (below_step (by repeat (first | (with_reducible first | exact HB.out | apply below_alloc | apply pw_below_drewN | apply below_drew1 | refine below_set ?_ GE194.out | refine below_set ?_ GE195.out | refine below_set ?_ GE196.out) | exact HB.out)) hb); clear BK194; clear BK195; clear BK196; clear HB; have BK194 := n0_; have BK195 := n1_; have BK196 := n2_; have HB := n3_; clear n0_ n1_ n2_ n3_; (try clear hb); (try clear hb2); (try clear hk); (try clear hi)) | ((with_reducible refine gate_callee (f := 23) rfl ?_); refine goesL_ (some 14) rfl rfl Try.func23 (by kernel_rfl) rfl #[] rfl (by (try simp only [List.map_toArray, List.map_cons, List.map_nil]); first | done | rfl | (simp only [List.length_drop, List.length_take]; rfl)) ?_; (with_reducible refine (hurdlelaw11_knows.calls  t198 _ A6.out).mono ?_); rintro e w14 ⟨rfl, hb⟩; refine ⟨_, rfl, ?_⟩; have n0_ := Aside0.mk (blk_below (g := gb194) (o := .cells #[.slice A0_0 l0_0.length c0_0, .int .u32 a0_1] 25 (0, 0)) (by (with_reducible repeat (first | refine blk_drewN ?_ _ | refine blk_drew ?_ | refine blk_alloc ?_ _)); exact BK194.out) hb); have n1_ := Aside0.mk (blk_below (g := gb195) (o := .cells #[.int .u32 a1_0, .int .u32 a1_1, .slice A1_2 l1_2.length c1_2, .int .u32 a1_3] 40 (0, 0)) (by (with_reducible repeat (first | refine blk_drewN ?_ _ | refine blk_drew ?_ | refine blk_alloc ?_ _)); exact BK195.out) hb); have n2_ := Aside0.mk (blk_below (g := gb196) (o := .cells #[.int .u32 a2_0, .int .u32 a2_1, .int .u64 a2_2, .int .u64 a2_3, .int .u64 a2_4, .int .u64 a2_5, .int .u64 a2_6, .int .u64 a2_7, .int .u64 a2_8] 44 (0, 0)) (by (with_reducible repeat (first | refine blk_drewN ?_ _ | refine blk_drew ?_ | refine blk_alloc ?_ _)); exact BK196.out) hb); have n3_ := Aside0.mk (below_step (by repeat (first | (with_reducible first | exact HB.out | apply below_alloc | apply pw_below_drewN | apply below_drew1 | refine below_set ?_ GE194.out | refine below_set ?_ GE195.out | refine below_set ?_ GE196.out) | exact HB.out)) hb); clear BK194; clear BK195; clear BK196; clear HB; have BK194 := n0_; have BK195 := n1_; have BK196 := n2_; have HB := n3_; clear n0_ n1_ n2_ n3_; (try clear hb); (try clear hb2); (try clear hk); (try clear hi)))
    go_ret
    exact ⟨by first | rfl | (simp [errW_none, errW_some] <;> rfl) | (simp [*, errW_none, errW_some] <;> rfl), by repeat (first | (with_reducible first | exact HB.out | apply below_alloc | apply pw_below_drewN | apply below_drew1 | refine below_set ?_ GE194.out | refine below_set ?_ GE195.out | refine below_set ?_ GE196.out) | exact HB.out)⟩
  · replace c5 := Bool.eq_false_iff.mpr c5
    subst c5
    have H1 : ((hurdlelaw11_put.f l0_0 a0_1 0 a1_0 a1_1 l1_2 a1_3).bind fun bt199 => ((hurdleref10_Right.f l0_0 a0_1).bind fun t204 => (if t204 = true then ((hurdleref10_Right.f bt199.1 bt199.2).bind fun t205 => (hurdlelaw11_DenoteAhead.j0 k (!t205) l0_0 a0_1 a1_0 a1_1 l1_2 a1_3 a2_0 a2_1 a2_2 a2_3 a2_4 a2_5 a2_6 a2_7 a2_8 bt199.1 bt199.2)) else (hurdlelaw11_DenoteAhead.j0 k true l0_0 a0_1 a1_0 a1_1 l1_2 a1_3 a2_0 a2_1 a2_2 a2_3 a2_4 a2_5 a2_6 a2_7 a2_8 bt199.1 bt199.2)))) = some r := by rw [if_neg (show ¬ (false = true) by decide)] at H; exact H
    clear H
    have H := H1
    clear H1
    replace H := Option.bind_eq_some_iff.mp H
    obtain ⟨⟨t199, t202⟩, A150, H⟩ := H
    replace H : ((hurdleref10_Right.f l0_0 a0_1).bind fun t204 => (if t204 = true then ((hurdleref10_Right.f t199 t202).bind fun t205 => (hurdlelaw11_DenoteAhead.j0 k (!t205) l0_0 a0_1 a1_0 a1_1 l1_2 a1_3 a2_0 a2_1 a2_2 a2_3 a2_4 a2_5 a2_6 a2_7 a2_8 t199 t202)) else (hurdlelaw11_DenoteAhead.j0 k true l0_0 a0_1 a1_0 a1_1 l1_2 a1_3 a2_0 a2_1 a2_2 a2_3 a2_4 a2_5 a2_6 a2_7 a2_8 t199 t202))) = some r := H
    have A15 := Aside0.mk A150
    clear A150
    have HC16 := Aside0.mk H
    clear H
    go_enter Try.func11, Try.ntmps11
    go_upto_region 4 with (first | ((with_reducible refine gate_dst (N := 3) rfl ?_); refine box_event ?hg (N := 3) ?hd (cs := #[.slice A0_0 l0_0.length c0_0, .int .u32 a0_1]) (t := 25) ?hr ?_; (case hd => rfl); (case hg => rfl); (case hr => first | (go_simp; done) | (go_simp; rfl)); intro gb194 hg w17 hbox hb; have n0_ := Aside0.mk (below_step (by repeat (first | (with_reducible first | exact HB.out | apply below_alloc | apply pw_below_drewN | apply below_drew1) | exact HB.out)) hb); have n1_ := Aside0.mk (hbox); have n2_ := Aside0.mk ((by rw [hg]; exact (below_size (by repeat (first | (with_reducible first | exact HB.out | apply below_alloc | apply pw_below_drewN | apply below_drew1) | exact HB.out))) : w.heap.size ≤ gb194)); have n3_ := Aside0.mk ((by rw [hg]; exact (below_size (by repeat (first | (with_reducible first | exact HB.out | apply below_alloc | apply pw_below_drewN | apply below_drew1) | exact HB.out))) : w.heap.size ≤ gb194)); clear HB; have HB := n0_; have BK194 := n1_; have GW194 := n2_; have GE194 := n3_; clear n0_ n1_ n2_ n3_; clear hb hbox hg) | ((with_reducible refine gate_dst (N := 4) rfl ?_); refine box_event ?hg (N := 4) ?hd (cs := #[.int .u32 a1_0, .int .u32 a1_1, .slice A1_2 l1_2.length c1_2, .int .u32 a1_3]) (t := 40) ?hr ?_; (case hd => rfl); (case hg => rfl); (case hr => first | (go_simp; done) | (go_simp; rfl)); intro gb195 hg w18 hbox hb; have n0_ := Aside0.mk (blk_below (g := gb194) (o := .cells #[.slice A0_0 l0_0.length c0_0, .int .u32 a0_1] 25 (0, 0)) (by (with_reducible repeat (first | refine blk_drewN ?_ _ | refine blk_drew ?_ | refine blk_alloc ?_ _)); exact BK194.out) hb); have n1_ := Aside0.mk (below_step (by repeat (first | (with_reducible first | exact HB.out | apply below_alloc | apply pw_below_drewN | apply below_drew1 | refine below_set ?_ GE194.out) | exact HB.out)) hb); have n2_ := Aside0.mk (hbox); have n3_ := Aside0.mk ((by rw [hg]; exact (below_size (by repeat (first | (with_reducible first | exact HB.out | apply below_alloc | apply pw_below_drewN | apply below_drew1 | refine below_set ?_ GE194.out) | exact HB.out))) : w.heap.size ≤ gb195)); have n4_ := Aside0.mk ((by rw [hg]; exact (below_size (by repeat (first | (with_reducible first | exact HB.out | apply below_alloc | apply pw_below_drewN | apply below_drew1 | refine below_set ?_ GE194.out) | exact HB.out))) : w.heap.size ≤ gb195)); have n5_ := Aside0.mk ((by rw [hg]; exact Nat.ne_of_lt (blk_lt (g := gb194) (o := .cells #[.slice A0_0 l0_0.length c0_0, .int .u32 a0_1] 25 (0, 0)) (by (with_reducible repeat (first | refine blk_drewN ?_ _ | refine blk_drew ?_ | refine blk_alloc ?_ _)); exact BK194.out)) : gb194 ≠ gb195)); have n6_ := Aside0.mk ((by rw [hg]; exact Nat.ne_of_gt (blk_lt (g := gb194) (o := .cells #[.slice A0_0 l0_0.length c0_0, .int .u32 a0_1] 25 (0, 0)) (by (with_reducible repeat (first | refine blk_drewN ?_ _ | refine blk_drew ?_ | refine blk_alloc ?_ _)); exact BK194.out)) : gb195 ≠ gb194)); clear BK194; clear HB; have BK194 := n0_; have HB := n1_; have BK195 := n2_; have GW195 := n3_; have GE195 := n4_; have NB194_195 := n5_; have NB195_194 := n6_; clear n0_ n1_ n2_ n3_ n4_ n5_ n6_; clear hb hbox hg) | ((with_reducible refine gate_dst (N := 5) rfl ?_); refine box_event ?hg (N := 5) ?hd (cs := #[.int .u32 a2_0, .int .u32 a2_1, .int .u64 a2_2, .int .u64 a2_3, .int .u64 a2_4, .int .u64 a2_5, .int .u64 a2_6, .int .u64 a2_7, .int .u64 a2_8]) (t := 44) ?hr ?_; (case hd => rfl); (case hg => rfl); (case hr => first | (go_simp; done) | (go_simp; rfl)); intro gb196 hg w19 hbox hb; have n0_ := Aside0.mk (blk_below (g := gb194) (o := .cells #[.slice A0_0 l0_0.length c0_0, .int .u32 a0_1] 25 (0, 0)) (by (with_reducible repeat (first | refine blk_drewN ?_ _ | refine blk_drew ?_ | refine blk_alloc ?_ _)); exact BK194.out) hb); have n1_ := Aside0.mk (blk_below (g := gb195) (o := .cells #[.int .u32 a1_0, .int .u32 a1_1, .slice A1_2 l1_2.length c1_2, .int .u32 a1_3] 40 (0, 0)) (by (with_reducible repeat (first | refine blk_drewN ?_ _ | refine blk_drew ?_ | refine blk_alloc ?_ _)); exact BK195.out) hb); have n2_ := Aside0.mk (below_step (by repeat (first | (with_reducible first | exact HB.out | apply below_alloc | apply pw_below_drewN | apply below_drew1 | refine below_set ?_ GE194.out | refine below_set ?_ GE195.out) | exact HB.out)) hb); have n3_ := Aside0.mk (hbox); have n4_ := Aside0.mk ((by rw [hg]; exact (below_size (by repeat (first | (with_reducible first | exact HB.out | apply below_alloc | apply pw_below_drewN | apply below_drew1 | refine below_set ?_ GE194.out | refine below_set ?_ GE195.out) | exact HB.out))) : w.heap.size ≤ gb196)); have n5_ := Aside0.mk ((by rw [hg]; exact (below_size (by repeat (first | (with_reducible first | exact HB.out | apply below_alloc | apply pw_below_drewN | apply below_drew1 | refine below_set ?_ GE194.out | refine below_set ?_ GE195.out) | exact HB.out))) : w.heap.size ≤ gb196)); have n6_ := Aside0.mk ((by rw [hg]; exact Nat.ne_of_lt (blk_lt (g := gb194) (o := .cells #[.slice A0_0 l0_0.length c0_0, .int .u32 a0_1] 25 (0, 0)) (by (with_reducible repeat (first | refine blk_drewN ?_ _ | refine blk_drew ?_ | refine blk_alloc ?_ _)); exact BK194.out)) : gb194 ≠ gb196)); have n7_ := Aside0.mk ((by rw [hg]; exact Nat.ne_of_gt (blk_lt (g := gb194) (o := .cells #[.slice A0_0 l0_0.length c0_0, .int .u32 a0_1] 25 (0, 0)) (by (with_reducible repeat (first | refine blk_drewN ?_ _ | refine blk_drew ?_ | refine blk_alloc ?_ _)); exact BK194.out)) : gb196 ≠ gb194)); have n8_ := Aside0.mk ((by rw [hg]; exact Nat.ne_of_lt (blk_lt (g := gb195) (o := .cells #[.int .u32 a1_0, .int .u32 a1_1, .slice A1_2 l1_2.length c1_2, .int .u32 a1_3] 40 (0, 0)) (by (with_reducible repeat (first | refine blk_drewN ?_ _ | refine blk_drew ?_ | refine blk_alloc ?_ _)); exact BK195.out)) : gb195 ≠ gb196)); have n9_ := Aside0.mk ((by rw [hg]; exact Nat.ne_of_gt (blk_lt (g := gb195) (o := .cells #[.int .u32 a1_0, .int .u32 a1_1, .slice A1_2 l1_2.length c1_2, .int .u32 a1_3] 40 (0, 0)) (by (with_reducible repeat (first | refine blk_drewN ?_ _ | refine blk_drew ?_ | refine blk_alloc ?_ _)); exact BK195.out)) : gb196 ≠ gb195)); clear BK194; clear BK195; clear HB; have BK194 := n0_; have BK195 := n1_; have HB := n2_; have BK196 := n3_; have GW196 := n4_; have GE196 := n5_; have NB194_196 := n6_; have NB196_194 := n7_; have NB195_196 := n8_; have NB196_195 := n9_; clear n0_ n1_ n2_ n3_ n4_ n5_ n6_ n7_ n8_ n9_; clear hb hbox hg; have hnb20 := NB194_195.out; have hnc20 := NB195_194.out; have hnb21 := NB194_196.out; have hnc21 := NB196_194.out; have hcz22_0 : w19.cell? ⟨gb194, 0, none⟩ = some (.slice A0_0 l0_0.length c0_0) := (blk_cell BK194.out 0).trans rfl; have hcz22_1 : w19.cell? ⟨gb194, 1, none⟩ = some (.int .u32 a0_1) := (blk_cell BK194.out 1).trans rfl; have hfz22_0 := blk_frozen BK194.out 0; have hfz22_1 := blk_frozen BK194.out 1) | ((with_reducible refine gate_callee (f := 14) rfl ?_); refine goesL_ (some 13) rfl rfl Try.func14 (by kernel_rfl) rfl #[.agg #[.slice A0_0 l0_0.length c0_0, .int .u32 a0_1]] rfl (by (try simp only [List.map_toArray, List.map_cons, List.map_nil]); first | done | rfl | (simp only [List.length_drop, List.length_take]; rfl)) ?_; (with_reducible refine (hurdlelaw10_Great.calls _ _ l0_0 a0_1 false _ ?side1 ?side2 A4.out).mono ?_); (case side1 => repeat (first | exact (Kd.C_below HR0_0.out HB.out) | (with_reducible refine Kd.C_alloc ?_ _) | (with_reducible refine Kd.C_drewN ?_ _) | (with_reducible refine Kd.C_drew ?_))); (case side2 => exact HC0_0.out); rintro e w23 ⟨rfl, hb⟩; refine ⟨_, rfl, ?_⟩; have n0_ := Aside0.mk (blk_below (g := gb194) (o := .cells #[.slice A0_0 l0_0.length c0_0, .int .u32 a0_1] 25 (0, 0)) (by (with_reducible repeat (first | refine blk_drewN ?_ _ | refine blk_drew ?_ | refine blk_alloc ?_ _)); exact BK194.out) hb); have n1_ := Aside0.mk (blk_below (g := gb195) (o := .cells #[.int .u32 a1_0, .int .u32 a1_1, .slice A1_2 l1_2.length c1_2, .int .u32 a1_3] 40 (0, 0)) (by (with_reducible repeat (first | refine blk_drewN ?_ _ | refine blk_drew ?_ | refine blk_alloc ?_ _)); exact BK195.out) hb); have n2_ := Aside0.mk (blk_below (g := gb196) (o := .cells #[.int .u32 a2_0, .int .u32 a2_1, .int .u64 a2_2, .int .u64 a2_3, .int .u64 a2_4, .int .u64 a2_5, .int .u64 a2_6, .int .u64 a2_7, .int .u64 a2_8] 44 (0, 0)) (by (with_reducible repeat (first | refine blk_drewN ?_ _ | refine blk_drew ?_ | refine blk_alloc ?_ _)); exact BK196.out) hb); have n3_ := Aside0.mk (below_step (by repeat (first | (with_reducible first | exact HB.out | apply below_alloc | apply pw_below_drewN | apply below_drew1 | refine below_set ?_ GE194.out | refine below_set ?_ GE195.out | refine below_set ?_ GE196.out) | exact HB.out)) hb); clear BK194; clear BK195; clear BK196; clear HB; have BK194 := n0_; have BK195 := n1_; have BK196 := n2_; have HB := n3_; clear n0_ n1_ n2_ n3_; (try clear hb); (try clear hb2); (try clear hk); (try clear hi); have hcz24_0 : w23.cell? ⟨gb194, 0, none⟩ = some (.slice A0_0 l0_0.length c0_0) := (blk_cell BK194.out 0).trans rfl; have hcz24_1 : w23.cell? ⟨gb194, 1, none⟩ = some (.int .u32 a0_1) := (blk_cell BK194.out 1).trans rfl; have hfz24_0 := blk_frozen BK194.out 0; have hfz24_1 := blk_frozen BK194.out 1; have hnb25 := NB195_196.out; have hnc25 := NB196_195.out; have hcz26_0 : w23.cell? ⟨gb195, 0, none⟩ = some (.int .u32 a1_0) := (blk_cell BK195.out 0).trans rfl; have hcz26_1 : w23.cell? ⟨gb195, 1, none⟩ = some (.int .u32 a1_1) := (blk_cell BK195.out 1).trans rfl; have hcz26_2 : w23.cell? ⟨gb195, 2, none⟩ = some (.slice A1_2 l1_2.length c1_2) := (blk_cell BK195.out 2).trans rfl; have hcz26_3 : w23.cell? ⟨gb195, 3, none⟩ = some (.int .u32 a1_3) := (blk_cell BK195.out 3).trans rfl; have hfz26_0 := blk_frozen BK195.out 0; have hfz26_1 := blk_frozen BK195.out 1; have hfz26_2 := blk_frozen BK195.out 2; have hfz26_3 := blk_frozen BK195.out 3) | ((with_reducible refine gate_callee (f := 30) rfl ?_); refine goesL_ (some 17) rfl rfl Try.func30 (by kernel_rfl) rfl #[.agg #[.slice A0_0 l0_0.length c0_0, .int .u32 a0_1], .int .i64 0, .agg #[.int .u32 a1_0, .int .u32 a1_1, .slice A1_2 l1_2.length c1_2, .int .u32 a1_3]] rfl (by (try simp only [List.map_toArray, List.map_cons, List.map_nil]); first | done | rfl | (simp only [List.length_drop, List.length_take]; rfl)) ?_; (with_reducible refine (hurdlelaw11_put.calls (fun k_ => k_ < w.heap.size) _ _ l0_0 a0_1 0 a1_0 a1_1 (fun k_ => k_ < w.heap.size) _ _ l1_2 a1_3 t199 t202 _ ?side1 ?side2 A15.out).mono ?_); (case side1 => exact Kd.V_mk HC0_0.out (Kd.F_below (Kd.C_F k40_heap HR0_0.out) (by repeat (first | (with_reducible first | exact HB.out | apply below_alloc | apply pw_below_drewN | apply below_drew1 | refine below_set ?_ GE194.out | refine below_set ?_ GE195.out | refine below_set ?_ GE196.out) | exact HB.out)))); (case side2 => exact Kd.V_mk HC1_2.out (Kd.F_below (Kd.C_F k61_heap HR1_2.out) (by repeat (first | (with_reducible first | exact HB.out | apply below_alloc | apply pw_below_drewN | apply below_drew1 | refine below_set ?_ GE194.out | refine below_set ?_ GE195.out | refine below_set ?_ GE196.out) | exact HB.out)))); rintro e w27 ⟨v200, rfl, ho0, hb⟩; refine ⟨_, rfl, ?_⟩; have n0_ := Aside0.mk (Kd.N_lower (Kd.N_mono (ok' := fun k_ => k_ ≠ gb194 ∧ k_ ≠ gb195 ∧ k_ ≠ gb196) ho0 (fun k_ hk_ => ⟨Or.elim hk_ (fun hs_ => Or.elim hs_ (fun hs_ => fun e_ => Nat.not_le.2 hs_ (by rw [e_]; exact GW194.out)) (fun hs_ => fun e_ => Nat.not_le.2 hs_ (by rw [e_]; exact GW194.out))) (fun hn_ => (Kd.freshB (g := gb194) (o := .cells #[.slice A0_0 l0_0.length c0_0, .int .u32 a0_1] 25 (0, 0)) (by (with_reducible repeat (first | refine blk_drewN ?_ _ | refine blk_drew ?_ | refine blk_alloc ?_ _)); exact BK194.out) k_ hn_)), Or.elim hk_ (fun hs_ => Or.elim hs_ (fun hs_ => fun e_ => Nat.not_le.2 hs_ (by rw [e_]; exact GW195.out)) (fun hs_ => fun e_ => Nat.not_le.2 hs_ (by rw [e_]; exact GW195.out))) (fun hn_ => (Kd.freshB (g := gb195) (o := .cells #[.int .u32 a1_0, .int .u32 a1_1, .slice A1_2 l1_2.length c1_2, .int .u32 a1_3] 40 (0, 0)) (by (with_reducible repeat (first | refine blk_drewN ?_ _ | refine blk_drew ?_ | refine blk_alloc ?_ _)); exact BK195.out) k_ hn_)), Or.elim hk_ (fun hs_ => Or.elim hs_ (fun hs_ => fun e_ => Nat.not_le.2 hs_ (by rw [e_]; exact GW196.out)) (fun hs_ => fun e_ => Nat.not_le.2 hs_ (by rw [e_]; exact GW196.out))) (fun hn_ => (Kd.freshB (g := gb196) (o := .cells #[.int .u32 a2_0, .int .u32 a2_1, .int .u64 a2_2, .int .u64 a2_3, .int .u64 a2_4, .int .u64 a2_5, .int .u64 a2_6, .int .u64 a2_7, .int .u64 a2_8] 44 (0, 0)) (by (with_reducible repeat (first | refine blk_drewN ?_ _ | refine blk_drew ?_ | refine blk_alloc ?_ _)); exact BK196.out) k_ hn_))⟩)) (below_size (by repeat (first | (with_reducible first | exact HB.out | apply below_alloc | apply pw_below_drewN | apply below_drew1 | refine below_set ?_ GE194.out | refine below_set ?_ GE195.out | refine below_set ?_ GE196.out) | exact HB.out)))); have n1_ := Aside0.mk (blk_below (g := gb194) (o := .cells #[.slice A0_0 l0_0.length c0_0, .int .u32 a0_1] 25 (0, 0)) (by (with_reducible repeat (first | refine blk_drewN ?_ _ | refine blk_drew ?_ | refine blk_alloc ?_ _)); exact BK194.out) hb); have n2_ := Aside0.mk (blk_below (g := gb195) (o := .cells #[.int .u32 a1_0, .int .u32 a1_1, .slice A1_2 l1_2.length c1_2, .int .u32 a1_3] 40 (0, 0)) (by (with_reducible repeat (first | refine blk_drewN ?_ _ | refine blk_drew ?_ | refine blk_alloc ?_ _)); exact BK195.out) hb); have n3_ := Aside0.mk (blk_below (g := gb196) (o := .cells #[.int .u32 a2_0, .int .u32 a2_1, .int .u64 a2_2, .int .u64 a2_3, .int .u64 a2_4, .int .u64 a2_5, .int .u64 a2_6, .int .u64 a2_7, .int .u64 a2_8] 44 (0, 0)) (by (with_reducible repeat (first | refine blk_drewN ?_ _ | refine blk_drew ?_ | refine blk_alloc ?_ _)); exact BK196.out) hb); have n4_ := Aside0.mk (below_step (by repeat (first | (with_reducible first | exact HB.out | apply below_alloc | apply pw_below_drewN | apply below_drew1 | refine below_set ?_ GE194.out | refine below_set ?_ GE195.out | refine below_set ?_ GE196.out) | exact HB.out)) hb); clear BK194; clear BK195; clear BK196; clear HB; have HO201 := n0_; have BK194 := n1_; have BK195 := n2_; have BK196 := n3_; have HB := n4_; clear n0_ n1_ n2_ n3_ n4_; (try clear hb); (try clear hb2); (try clear hk); (try clear hi); (try clear ho0)) | ((with_reducible refine gate_dst (N := 7) rfl ?_); refine box_event ?hg (N := 7) ?hd (cs := #[.slice none 0 0, .int .u32 0]) (t := 25) ?hr ?_; (case hd => rfl); (case hg => rfl); (case hr => first | (go_simp; done) | (go_simp; rfl)); intro gb203 hg w28 hbox hb; have n0_ := Aside0.mk (Kd.N_below (Kd.N_elderB (by (with_reducible repeat (first | apply Kd.N_alloc | apply Kd.N_drewN | apply Kd.N_drew)); exact HO201.out) gb203 (Nat.le_of_eq hg.symm)) hb); have n1_ := Aside0.mk (blk_below (g := gb194) (o := .cells #[.slice A0_0 l0_0.length c0_0, .int .u32 a0_1] 25 (0, 0)) (by (with_reducible repeat (first | refine blk_drewN ?_ _ | refine blk_drew ?_ | refine blk_alloc ?_ _)); exact BK194.out) hb); have n2_ := Aside0.mk (blk_below (g := gb195) (o := .cells #[.int .u32 a1_0, .int .u32 a1_1, .slice A1_2 l1_2.length c1_2, .int .u32 a1_3] 40 (0, 0)) (by (with_reducible repeat (first | refine blk_drewN ?_ _ | refine blk_drew ?_ | refine blk_alloc ?_ _)); exact BK195.out) hb); have n3_ := Aside0.mk (blk_below (g := gb196) (o := .cells #[.int .u32 a2_0, .int .u32 a2_1, .int .u64 a2_2, .int .u64 a2_3, .int .u64 a2_4, .int .u64 a2_5, .int .u64 a2_6, .int .u64 a2_7, .int .u64 a2_8] 44 (0, 0)) (by (with_reducible repeat (first | refine blk_drewN ?_ _ | refine blk_drew ?_ | refine blk_alloc ?_ _)); exact BK196.out) hb); have n4_ := Aside0.mk (below_step (by repeat (first | (with_reducible first | exact HB.out | apply below_alloc | apply pw_below_drewN | apply below_drew1 | refine below_set ?_ GE194.out | refine below_set ?_ GE195.out | refine below_set ?_ GE196.out) | exact HB.out)) hb); have n5_ := Aside0.mk (hbox); have n6_ := Aside0.mk ((by rw [hg]; exact (below_size (by repeat (first | (with_reducible first | exact HB.out | apply below_alloc | apply pw_below_drewN | apply below_drew1 | refine below_set ?_ GE194.out | refine below_set ?_ GE195.out | refine below_set ?_ GE196.out) | exact HB.out))) : w.heap.size ≤ gb203)); have n7_ := Aside0.mk ((by rw [hg]; exact (below_size (by repeat (first | (with_reducible first | exact HB.out | apply below_alloc | apply pw_below_drewN | apply below_drew1 | refine below_set ?_ GE194.out | refine below_set ?_ GE195.out | refine below_set ?_ GE196.out) | exact HB.out))) : w.heap.size ≤ gb203)); have n8_ := Aside0.mk ((by rw [hg]; exact Nat.ne_of_lt (blk_lt (g := gb194) (o := .cells #[.slice A0_0 l0_0.length c0_0, .int .u32 a0_1] 25 (0, 0)) (by (with_reducible repeat (first | refine blk_drewN ?_ _ | refine blk_drew ?_ | refine blk_alloc ?_ _)); exact BK194.out)) : gb194 ≠ gb203)); have n9_ := Aside0.mk ((by rw [hg]; exact Nat.ne_of_gt (blk_lt (g := gb194) (o := .cells #[.slice A0_0 l0_0.length c0_0, .int .u32 a0_1] 25 (0, 0)) (by (with_reducible repeat (first | refine blk_drewN ?_ _ | refine blk_drew ?_ | refine blk_alloc ?_ _)); exact BK194.out)) : gb203 ≠ gb194)); have n10_ := Aside0.mk ((by rw [hg]; exact Nat.ne_of_lt (blk_lt (g := gb195) (o := .cells #[.int .u32 a1_0, .int .u32 a1_1, .slice A1_2 l1_2.length c1_2, .int .u32 a1_3] 40 (0, 0)) (by (with_reducible repeat (first | refine blk_drewN ?_ _ | refine blk_drew ?_ | refine blk_alloc ?_ _)); exact BK195.out)) : gb195 ≠ gb203)); have n11_ := Aside0.mk ((by rw [hg]; exact Nat.ne_of_gt (blk_lt (g := gb195) (o := .cells #[.int .u32 a1_0, .int .u32 a1_1, .slice A1_2 l1_2.length c1_2, .int .u32 a1_3] 40 (0, 0)) (by (with_reducible repeat (first | refine blk_drewN ?_ _ | refine blk_drew ?_ | refine blk_alloc ?_ _)); exact BK195.out)) : gb203 ≠ gb195)); have n12_ := Aside0.mk ((by rw [hg]; exact Nat.ne_of_lt (blk_lt (g := gb196) (o := .cells #[.int .u32 a2_0, .int .u32 a2_1, .int .u64 a2_2, .int .u64 a2_3, .int .u64 a2_4, .int .u64 a2_5, .int .u64 a2_6, .int .u64 a2_7, .int .u64 a2_8] 44 (0, 0)) (by (with_reducible repeat (first | refine blk_drewN ?_ _ | refine blk_drew ?_ | refine blk_alloc ?_ _)); exact BK196.out)) : gb196 ≠ gb203)); have n13_ := Aside0.mk ((by rw [hg]; exact Nat.ne_of_gt (blk_lt (g := gb196) (o := .cells #[.int .u32 a2_0, .int .u32 a2_1, .int .u64 a2_2, .int .u64 a2_3, .int .u64 a2_4, .int .u64 a2_5, .int .u64 a2_6, .int .u64 a2_7, .int .u64 a2_8] 44 (0, 0)) (by (with_reducible repeat (first | refine blk_drewN ?_ _ | refine blk_drew ?_ | refine blk_alloc ?_ _)); exact BK196.out)) : gb203 ≠ gb196)); clear HO201; clear BK194; clear BK195; clear BK196; clear HB; have HO201 := n0_; have BK194 := n1_; have BK195 := n2_; have BK196 := n3_; have HB := n4_; have BK203 := n5_; have GW203 := n6_; have GE203 := n7_; have NB194_203 := n8_; have NB203_194 := n9_; have NB195_203 := n10_; have NB203_195 := n11_; have NB196_203 := n12_; have NB203_196 := n13_; clear n0_ n1_ n2_ n3_ n4_ n5_ n6_ n7_ n8_ n9_ n10_ n11_ n12_ n13_; clear hb hbox hg; obtain ⟨Ao29, co29, eo29⟩ := Kd.N_slice HO201.out; subst eo29; have hnb30 := NB203_194.out; have hnc30 := NB194_203.out; have hnb31 := NB203_195.out; have hnc31 := NB195_203.out; have hnb32 := NB203_196.out; have hnc32 := NB196_203.out; have hcz33_0 : w28.cell? ⟨gb203, 0, none⟩ = some (.slice none 0 0) := (blk_cell BK203.out 0).trans rfl; have hcz33_1 : w28.cell? ⟨gb203, 1, none⟩ = some (.int .u32 0) := (blk_cell BK203.out 1).trans rfl; have hfz33_0 := blk_frozen BK203.out 0; have hfz33_1 := blk_frozen BK203.out 1))
    (try simp only [Act.put, List.setIfInBounds_toArray, List.set_cons_zero, List.set_cons_succ])
    go_cut [25] (fun v25 wc => ∃ (kq : Nat) (x25_15 : Bool), v25 = .bool x25_15 ∧ Aside0 (hurdlelaw11_DenoteAhead.j0 kq x25_15 l0_0 a0_1 a1_0 a1_1 l1_2 a1_3 a2_0 a2_1 a2_2 a2_3 a2_4 a2_5 a2_6 a2_7 a2_8 t199 t202 = some r) ∧ Aside0 (kq ≤ k) ∧ Aside0 (Kd.N k40 40 wc w.heap.size (fun k_ => k_ ≠ gb194 ∧ k_ ≠ gb195 ∧ k_ ≠ gb196 ∧ k_ ≠ gb203) (.slice Ao29 t199.length co29) t199) ∧ Aside0 (wc.heap[gb194]? = some (.cells #[(.slice A0_0 l0_0.length c0_0), .int .u32 a0_1] 25 (0, 0))) ∧ Aside0 (wc.heap[gb195]? = some (.cells #[.int .u32 a1_0, .int .u32 a1_1, (.slice A1_2 l1_2.length c1_2), .int .u32 a1_3] 40 (0, 0))) ∧ Aside0 (wc.heap[gb196]? = some (.cells #[.int .u32 a2_0, .int .u32 a2_1, .int .u64 a2_2, .int .u64 a2_3, .int .u64 a2_4, .int .u64 a2_5, .int .u64 a2_6, .int .u64 a2_7, .int .u64 a2_8] 44 (0, 0))) ∧ Aside0 (wc.heap[gb203]? = some (.cells #[(.slice Ao29 t199.length co29), .int .u32 t202] 25 (0, 0))) ∧ Aside0 (Below w.heap.size w wc))
    case first =>
      have H := HC16.out
      clear HC16
      replace H := Option.bind_eq_some_iff.mp H
      obtain ⟨t204, A340, H⟩ := H
      replace H : (if t204 = true then ((hurdleref10_Right.f t199 t202).bind fun t205 => (hurdlelaw11_DenoteAhead.j0 k (!t205) l0_0 a0_1 a1_0 a1_1 l1_2 a1_3 a2_0 a2_1 a2_2 a2_3 a2_4 a2_5 a2_6 a2_7 a2_8 t199 t202)) else (hurdlelaw11_DenoteAhead.j0 k true l0_0 a0_1 a1_0 a1_1 l1_2 a1_3 a2_0 a2_1 a2_2 a2_3 a2_4 a2_5 a2_6 a2_7 a2_8 t199 t202)) = some r := H
      have A34 := Aside0.mk A340
      clear A340
      by_cases c35 : t204 = true
      · subst c35
        have H1 : ((hurdleref10_Right.f t199 t202).bind fun t205 => (hurdlelaw11_DenoteAhead.j0 k (!t205) l0_0 a0_1 a1_0 a1_1 l1_2 a1_3 a2_0 a2_1 a2_2 a2_3 a2_4 a2_5 a2_6 a2_7 a2_8 t199 t202)) = some r := by rw [if_pos rfl] at H; exact H
        clear H
        have H := H1
        clear H1
        replace H := Option.bind_eq_some_iff.mp H
        obtain ⟨t205, A360, H⟩ := H
        replace H : (hurdlelaw11_DenoteAhead.j0 k (!t205) l0_0 a0_1 a1_0 a1_1 l1_2 a1_3 a2_0 a2_1 a2_2 a2_3 a2_4 a2_5 a2_6 a2_7 a2_8 t199 t202) = some r := H
        have A36 := Aside0.mk A360
        clear A360
        have H' := Aside0.mk H
        clear H
        have hnb37 := NB194_195.out
        have hnc37 := NB195_194.out
        have hnb38 := NB194_196.out
        have hnc38 := NB196_194.out
        have hnb39 := NB194_203.out
        have hnc39 := NB203_194.out
        have hcz40_0 : w28.cell? ⟨gb194, 0, none⟩ = some (.slice A0_0 l0_0.length c0_0) := (blk_cell BK194.out 0).trans rfl
        have hcz40_1 : w28.cell? ⟨gb194, 1, none⟩ = some (.int .u32 a0_1) := (blk_cell BK194.out 1).trans rfl
        have hfz40_0 := blk_frozen BK194.out 0
        have hfz40_1 := blk_frozen BK194.out 1
        go_wp2_with (first | ((with_reducible refine gate_callee (f := 17) rfl ?_); refine goesL_ (some 19) rfl rfl Try.func17 (by kernel_rfl) rfl #[.agg #[.slice A0_0 l0_0.length c0_0, .int .u32 a0_1]] rfl (by (try simp only [List.map_toArray, List.map_cons, List.map_nil]); first | done | rfl | (simp only [List.length_drop, List.length_take]; rfl)) ?_; (with_reducible refine (hurdleref10_Right.calls _ _ l0_0 a0_1 true _ ?side1 ?side2 A34.out).mono ?_); (case side1 => exact Kd.C_below HR0_0.out (by repeat (first | (with_reducible first | exact HB.out | apply below_alloc | apply pw_below_drewN | apply below_drew1 | refine below_set ?_ GE194.out | refine below_set ?_ GE195.out | refine below_set ?_ GE196.out | refine below_set ?_ GE203.out) | exact HB.out))); (case side2 => exact HC0_0.out); rintro e w41 ⟨rfl, hb⟩; refine ⟨_, rfl, ?_⟩; have n0_ := Aside0.mk (Kd.N_below (by (with_reducible repeat (first | apply Kd.N_alloc | apply Kd.N_drewN | apply Kd.N_drew)); exact (Kd.N_mono (Kd.N_far (p := ⟨gb203, 1, none⟩) (Kd.N_far (p := ⟨gb203, 0, none⟩) (Kd.N_mono HO201.out (fun k_ hk => (⟨hk, hk.2⟩ : _ ∧ k_ ≠ gb203))) (fun _ hk => hk.2) (.slice Ao29 t199.length co29)) (fun _ hk => hk.2) (.int .u32 t202)) (fun _ h_ => h_.1))) hb); have n1_ := Aside0.mk (blk_below (g := gb194) (o := .cells #[.slice A0_0 l0_0.length c0_0, .int .u32 a0_1] 25 (0, 0)) (by (with_reducible repeat (first | refine blk_drewN ?_ _ | refine blk_drew ?_ | refine blk_alloc ?_ _)); refine blk_far ?_ NB194_203.out _; (with_reducible repeat (first | refine blk_drewN ?_ _ | refine blk_drew ?_ | refine blk_alloc ?_ _)); refine blk_far ?_ NB194_203.out _; (with_reducible repeat (first | refine blk_drewN ?_ _ | refine blk_drew ?_ | refine blk_alloc ?_ _)); exact BK194.out) hb); have n2_ := Aside0.mk (blk_below (g := gb195) (o := .cells #[.int .u32 a1_0, .int .u32 a1_1, .slice A1_2 l1_2.length c1_2, .int .u32 a1_3] 40 (0, 0)) (by (with_reducible repeat (first | refine blk_drewN ?_ _ | refine blk_drew ?_ | refine blk_alloc ?_ _)); refine blk_far ?_ NB195_203.out _; (with_reducible repeat (first | refine blk_drewN ?_ _ | refine blk_drew ?_ | refine blk_alloc ?_ _)); refine blk_far ?_ NB195_203.out _; (with_reducible repeat (first | refine blk_drewN ?_ _ | refine blk_drew ?_ | refine blk_alloc ?_ _)); exact BK195.out) hb); have n3_ := Aside0.mk (blk_below (g := gb196) (o := .cells #[.int .u32 a2_0, .int .u32 a2_1, .int .u64 a2_2, .int .u64 a2_3, .int .u64 a2_4, .int .u64 a2_5, .int .u64 a2_6, .int .u64 a2_7, .int .u64 a2_8] 44 (0, 0)) (by (with_reducible repeat (first | refine blk_drewN ?_ _ | refine blk_drew ?_ | refine blk_alloc ?_ _)); refine blk_far ?_ NB196_203.out _; (with_reducible repeat (first | refine blk_drewN ?_ _ | refine blk_drew ?_ | refine blk_alloc ?_ _)); refine blk_far ?_ NB196_203.out _; (with_reducible repeat (first | refine blk_drewN ?_ _ | refine blk_drew ?_ | refine blk_alloc ?_ _)); exact BK196.out) hb); have n4_ := Aside0.mk (blk_below (g := gb203) (o := .cells #[.slice Ao29 t199.length co29, .int .u32 t202] 25 (0, 0)) (by (with_reducible repeat (first | refine blk_drewN ?_ _ | refine blk_drew ?_ | refine blk_alloc ?_ _)); refine blk_put (cs := #[.slice Ao29 t199.length co29, .int .u32 0]) ?_ 1 _ rfl; (with_reducible repeat (first | refine blk_drewN ?_ _ | refine blk_drew ?_ | refine blk_alloc ?_ _)); refine blk_put (cs := #[.slice none 0 0, .int .u32 0]) ?_ 0 _ rfl; (with_reducible repeat (first | refine blk_drewN ?_ _ | refine blk_drew ?_ | refine blk_alloc ?_ _)); exact BK203.out) hb); have n5_ := Aside0.mk (below_step (by repeat (first | (with_reducible first | exact HB.out | apply below_alloc | apply pw_below_drewN | apply below_drew1 | refine below_set ?_ GE194.out | refine below_set ?_ GE195.out | refine below_set ?_ GE196.out | refine below_set ?_ GE203.out) | exact HB.out)) hb); clear HO201; clear BK194; clear BK195; clear BK196; clear BK203; clear HB; have HO201 := n0_; have BK194 := n1_; have BK195 := n2_; have BK196 := n3_; have BK203 := n4_; have HB := n5_; clear n0_ n1_ n2_ n3_ n4_ n5_; (try clear hb); (try clear hb2); (try clear hk); (try clear hi); have hnb42 := NB203_195.out; have hnc42 := NB195_203.out; have hnb43 := NB203_196.out; have hnc43 := NB196_203.out; have hcz44_0 : w41.cell? ⟨gb203, 0, none⟩ = some (.slice Ao29 t199.length co29) := (blk_cell BK203.out 0).trans rfl; have hcz44_1 : w41.cell? ⟨gb203, 1, none⟩ = some (.int .u32 t202) := (blk_cell BK203.out 1).trans rfl; have hfz44_0 := blk_frozen BK203.out 0; have hfz44_1 := blk_frozen BK203.out 1) | (go_at_call 17; (with_reducible refine (hurdleref10_Right.calls _ _ t199 t202 t205 _ ?side1 ?side2 A36.out).mono ?_); (case side1 => repeat (first | exact (Kd.N_reads' HO201.out).2.2 | (with_reducible refine Kd.C_alloc ?_ _) | (with_reducible refine Kd.C_drewN ?_ _) | (with_reducible refine Kd.C_drew ?_))); (case side2 => exact (Kd.N_reads' HO201.out).2.1); rintro e w45 ⟨rfl, hb⟩; have n0_ := Aside0.mk (Kd.N_below (by (with_reducible repeat (first | apply Kd.N_alloc | apply Kd.N_drewN | apply Kd.N_drew)); exact HO201.out) hb); have n1_ := Aside0.mk (blk_below (g := gb194) (o := .cells #[.slice A0_0 l0_0.length c0_0, .int .u32 a0_1] 25 (0, 0)) (by (with_reducible repeat (first | refine blk_drewN ?_ _ | refine blk_drew ?_ | refine blk_alloc ?_ _)); exact BK194.out) hb); have n2_ := Aside0.mk (blk_below (g := gb195) (o := .cells #[.int .u32 a1_0, .int .u32 a1_1, .slice A1_2 l1_2.length c1_2, .int .u32 a1_3] 40 (0, 0)) (by (with_reducible repeat (first | refine blk_drewN ?_ _ | refine blk_drew ?_ | refine blk_alloc ?_ _)); exact BK195.out) hb); have n3_ := Aside0.mk (blk_below (g := gb196) (o := .cells #[.int .u32 a2_0, .int .u32 a2_1, .int .u64 a2_2, .int .u64 a2_3, .int .u64 a2_4, .int .u64 a2_5, .int .u64 a2_6, .int .u64 a2_7, .int .u64 a2_8] 44 (0, 0)) (by (with_reducible repeat (first | refine blk_drewN ?_ _ | refine blk_drew ?_ | refine blk_alloc ?_ _)); exact BK196.out) hb); have n4_ := Aside0.mk (blk_below (g := gb203) (o := .cells #[.slice Ao29 t199.length co29, .int .u32 t202] 25 (0, 0)) (by (with_reducible repeat (first | refine blk_drewN ?_ _ | refine blk_drew ?_ | refine blk_alloc ?_ _)); exact BK203.out) hb); have n5_ := Aside0.mk (below_step (by repeat (first | (with_reducible first | exact HB.out | apply below_alloc | apply pw_below_drewN | apply below_drew1 | refine below_set ?_ GE194.out | refine below_set ?_ GE195.out | refine below_set ?_ GE196.out | refine below_set ?_ GE203.out) | exact HB.out)) hb); clear HO201; clear BK194; clear BK195; clear BK196; clear BK203; clear HB; have HO201 := n0_; have BK194 := n1_; have BK195 := n2_; have BK196 := n3_; have BK203 := n4_; have HB := n5_; clear n0_ n1_ n2_ n3_ n4_ n5_; (try clear hb); (try clear hb2); (try clear hk); (try clear hi)))
        go_meet
        case rel => exact ⟨_, (!t205), (by first | rfl | (simp; done) | (simp [*]; done)), H', ⟨by first | omega | exact Nat.le_refl _⟩, ⟨by (with_reducible repeat (first | apply Kd.N_alloc | apply Kd.N_drewN | apply Kd.N_drew)); exact Kd.N_mono HO201.out (fun _ hk => ⟨hk.1.1, ⟨hk.1.2.1, ⟨hk.1.2.2, hk.2⟩⟩⟩)⟩, ⟨by (with_reducible repeat (first | refine blk_drewN ?_ _ | refine blk_drew ?_ | refine blk_alloc ?_ _)); exact BK194.out⟩, ⟨by (with_reducible repeat (first | refine blk_drewN ?_ _ | refine blk_drew ?_ | refine blk_alloc ?_ _)); exact BK195.out⟩, ⟨by (with_reducible repeat (first | refine blk_drewN ?_ _ | refine blk_drew ?_ | refine blk_alloc ?_ _)); exact BK196.out⟩, ⟨by (with_reducible repeat (first | refine blk_drewN ?_ _ | refine blk_drew ?_ | refine blk_alloc ?_ _)); exact BK203.out⟩, ⟨by repeat (first | (with_reducible first | exact HB.out | apply below_alloc | apply pw_below_drewN | apply below_drew1 | refine below_set ?_ GE194.out | refine below_set ?_ GE195.out | refine below_set ?_ GE196.out | refine below_set ?_ GE203.out) | exact HB.out)⟩⟩
      · replace c35 := Bool.eq_false_iff.mpr c35
        subst c35
        have H1 : (hurdlelaw11_DenoteAhead.j0 k true l0_0 a0_1 a1_0 a1_1 l1_2 a1_3 a2_0 a2_1 a2_2 a2_3 a2_4 a2_5 a2_6 a2_7 a2_8 t199 t202) = some r := by rw [if_neg (show ¬ (false = true) by decide)] at H; exact H
        clear H
        have H := H1
        clear H1
        have H' := Aside0.mk H
        clear H
        have hnb46 := NB194_195.out
        have hnc46 := NB195_194.out
        have hnb47 := NB194_196.out
        have hnc47 := NB196_194.out
        have hnb48 := NB194_203.out
        have hnc48 := NB203_194.out
        have hcz49_0 : w28.cell? ⟨gb194, 0, none⟩ = some (.slice A0_0 l0_0.length c0_0) := (blk_cell BK194.out 0).trans rfl
        have hcz49_1 : w28.cell? ⟨gb194, 1, none⟩ = some (.int .u32 a0_1) := (blk_cell BK194.out 1).trans rfl
        have hfz49_0 := blk_frozen BK194.out 0
        have hfz49_1 := blk_frozen BK194.out 1
        go_wp2_with (first | ((with_reducible refine gate_callee (f := 17) rfl ?_); refine goesL_ (some 19) rfl rfl Try.func17 (by kernel_rfl) rfl #[.agg #[.slice A0_0 l0_0.length c0_0, .int .u32 a0_1]] rfl (by (try simp only [List.map_toArray, List.map_cons, List.map_nil]); first | done | rfl | (simp only [List.length_drop, List.length_take]; rfl)) ?_; (with_reducible refine (hurdleref10_Right.calls _ _ l0_0 a0_1 false _ ?side1 ?side2 A34.out).mono ?_); (case side1 => exact Kd.C_below HR0_0.out (by repeat (first | (with_reducible first | exact HB.out | apply below_alloc | apply pw_below_drewN | apply below_drew1 | refine below_set ?_ GE194.out | refine below_set ?_ GE195.out | refine below_set ?_ GE196.out | refine below_set ?_ GE203.out) | exact HB.out))); (case side2 => exact HC0_0.out); rintro e w50 ⟨rfl, hb⟩; refine ⟨_, rfl, ?_⟩; have n0_ := Aside0.mk (Kd.N_below (by (with_reducible repeat (first | apply Kd.N_alloc | apply Kd.N_drewN | apply Kd.N_drew)); exact (Kd.N_mono (Kd.N_far (p := ⟨gb203, 1, none⟩) (Kd.N_far (p := ⟨gb203, 0, none⟩) (Kd.N_mono HO201.out (fun k_ hk => (⟨hk, hk.2⟩ : _ ∧ k_ ≠ gb203))) (fun _ hk => hk.2) (.slice Ao29 t199.length co29)) (fun _ hk => hk.2) (.int .u32 t202)) (fun _ h_ => h_.1))) hb); have n1_ := Aside0.mk (blk_below (g := gb194) (o := .cells #[.slice A0_0 l0_0.length c0_0, .int .u32 a0_1] 25 (0, 0)) (by (with_reducible repeat (first | refine blk_drewN ?_ _ | refine blk_drew ?_ | refine blk_alloc ?_ _)); refine blk_far ?_ NB194_203.out _; (with_reducible repeat (first | refine blk_drewN ?_ _ | refine blk_drew ?_ | refine blk_alloc ?_ _)); refine blk_far ?_ NB194_203.out _; (with_reducible repeat (first | refine blk_drewN ?_ _ | refine blk_drew ?_ | refine blk_alloc ?_ _)); exact BK194.out) hb); have n2_ := Aside0.mk (blk_below (g := gb195) (o := .cells #[.int .u32 a1_0, .int .u32 a1_1, .slice A1_2 l1_2.length c1_2, .int .u32 a1_3] 40 (0, 0)) (by (with_reducible repeat (first | refine blk_drewN ?_ _ | refine blk_drew ?_ | refine blk_alloc ?_ _)); refine blk_far ?_ NB195_203.out _; (with_reducible repeat (first | refine blk_drewN ?_ _ | refine blk_drew ?_ | refine blk_alloc ?_ _)); refine blk_far ?_ NB195_203.out _; (with_reducible repeat (first | refine blk_drewN ?_ _ | refine blk_drew ?_ | refine blk_alloc ?_ _)); exact BK195.out) hb); have n3_ := Aside0.mk (blk_below (g := gb196) (o := .cells #[.int .u32 a2_0, .int .u32 a2_1, .int .u64 a2_2, .int .u64 a2_3, .int .u64 a2_4, .int .u64 a2_5, .int .u64 a2_6, .int .u64 a2_7, .int .u64 a2_8] 44 (0, 0)) (by (with_reducible repeat (first | refine blk_drewN ?_ _ | refine blk_drew ?_ | refine blk_alloc ?_ _)); refine blk_far ?_ NB196_203.out _; (with_reducible repeat (first | refine blk_drewN ?_ _ | refine blk_drew ?_ | refine blk_alloc ?_ _)); refine blk_far ?_ NB196_203.out _; (with_reducible repeat (first | refine blk_drewN ?_ _ | refine blk_drew ?_ | refine blk_alloc ?_ _)); exact BK196.out) hb); have n4_ := Aside0.mk (blk_below (g := gb203) (o := .cells #[.slice Ao29 t199.length co29, .int .u32 t202] 25 (0, 0)) (by (with_reducible repeat (first | refine blk_drewN ?_ _ | refine blk_drew ?_ | refine blk_alloc ?_ _)); refine blk_put (cs := #[.slice Ao29 t199.length co29, .int .u32 0]) ?_ 1 _ rfl; (with_reducible repeat (first | refine blk_drewN ?_ _ | refine blk_drew ?_ | refine blk_alloc ?_ _)); refine blk_put (cs := #[.slice none 0 0, .int .u32 0]) ?_ 0 _ rfl; (with_reducible repeat (first | refine blk_drewN ?_ _ | refine blk_drew ?_ | refine blk_alloc ?_ _)); exact BK203.out) hb); have n5_ := Aside0.mk (below_step (by repeat (first | (with_reducible first | exact HB.out | apply below_alloc | apply pw_below_drewN | apply below_drew1 | refine below_set ?_ GE194.out | refine below_set ?_ GE195.out | refine below_set ?_ GE196.out | refine below_set ?_ GE203.out) | exact HB.out)) hb); clear HO201; clear BK194; clear BK195; clear BK196; clear BK203; clear HB; have HO201 := n0_; have BK194 := n1_; have BK195 := n2_; have BK196 := n3_; have BK203 := n4_; have HB := n5_; clear n0_ n1_ n2_ n3_ n4_ n5_; (try clear hb); (try clear hb2); (try clear hk); (try clear hi)))
        go_meet
        case rel => exact ⟨_, (true), (by first | rfl | (simp; done) | (simp [*]; done)), H', ⟨by first | omega | exact Nat.le_refl _⟩, ⟨by (with_reducible repeat (first | apply Kd.N_alloc | apply Kd.N_drewN | apply Kd.N_drew)); exact Kd.N_mono HO201.out (fun _ hk => ⟨hk.1.1, ⟨hk.1.2.1, ⟨hk.1.2.2, hk.2⟩⟩⟩)⟩, ⟨by (with_reducible repeat (first | refine blk_drewN ?_ _ | refine blk_drew ?_ | refine blk_alloc ?_ _)); exact BK194.out⟩, ⟨by (with_reducible repeat (first | refine blk_drewN ?_ _ | refine blk_drew ?_ | refine blk_alloc ?_ _)); exact BK195.out⟩, ⟨by (with_reducible repeat (first | refine blk_drewN ?_ _ | refine blk_drew ?_ | refine blk_alloc ?_ _)); exact BK196.out⟩, ⟨by (with_reducible repeat (first | refine blk_drewN ?_ _ | refine blk_drew ?_ | refine blk_alloc ?_ _)); exact BK203.out⟩, ⟨by repeat (first | (with_reducible first | exact HB.out | apply below_alloc | apply pw_below_drewN | apply below_drew1 | refine below_set ?_ GE194.out | refine below_set ?_ GE195.out | refine below_set ?_ GE196.out | refine below_set ?_ GE203.out) | exact HB.out)⟩⟩
    case rest =>
      clear HC16
      try clear c1
      try clear c2
      try clear p2
      try clear c3
      try clear c4
      try clear c5
      try clear c10
      try clear c11
      try clear c14
      try clear c17
      try clear c20
      try clear c21
      try clear c23
      try clear c25
      try clear c30
      try clear c31
      try clear c32
      try clear c35
      try clear c37
      try clear c38
      try clear c39
      try clear c42
      try clear c43
      try clear c46
      try clear c47
      try clear c48
      try clear hcz12_0
      try clear hcz12_1
      try clear hcz22_0
      try clear hcz22_1
      try clear hcz24_0
      try clear hcz24_1
      try clear hcz26_0
      try clear hcz26_1
      try clear hcz26_2
      try clear hcz26_3
      try clear hcz33_0
      try clear hcz33_1
      try clear hcz40_0
      try clear hcz40_1
      try clear hcz44_0
      try clear hcz44_1
      try clear hcz49_0
      try clear hcz49_1
      try clear hfz12_0
      try clear hfz12_1
      try clear hfz22_0
      try clear hfz22_1
      try clear hfz24_0
      try clear hfz24_1
      try clear hfz26_0
      try clear hfz26_1
      try clear hfz26_2
      try clear hfz26_3
      try clear hfz33_0
      try clear hfz33_1
      try clear hfz40_0
      try clear hfz40_1
      try clear hfz44_0
      try clear hfz44_1
      try clear hfz49_0
      try clear hfz49_1
      obtain ⟨kq, x25_15, rfl, HA, HJ15, HO_204000, BK194, BK195, BK196, BK203, HB⟩ := hcut
      cases kq with
      | zero => exact absurd HA.out (by simp [hurdlelaw11_DenoteAhead.j0])
      | succ kj15 =>
        have H := HA.out
        clear HA
        simp only [hurdlelaw11_DenoteAhead.j0] at H
        by_cases c51 : x25_15 = true
        · subst c51
          have H1 : ((hurdlelaw11_knows.f).bind fun t206 => (some t206)) = some r := by rw [if_pos rfl] at H; exact H
          clear H
          have H := H1
          clear H1
          replace H := Option.bind_eq_some_iff.mp H
          obtain ⟨t206, A520, H⟩ := H
          replace H : (some t206) = some r := H
          have A52 := Aside0.mk A520
          clear A520
          obtain rfl := Option.some.inj H
          go_wp2_with (first | ((with_reducible refine gate_callee (f := 23) rfl ?_); refine goesL_ (some 26) rfl rfl Try.func23 (by kernel_rfl) rfl #[] rfl (by (try simp only [List.map_toArray, List.map_cons, List.map_nil]); first | done | rfl | (simp only [List.length_drop, List.length_take]; rfl)) ?_; (with_reducible refine (hurdlelaw11_knows.calls  t206 _ A52.out).mono ?_); rintro e w53 ⟨rfl, hb⟩; refine ⟨_, rfl, ?_⟩; have n0_ := Aside0.mk (Kd.N_below (by (with_reducible repeat (first | apply Kd.N_alloc | apply Kd.N_drewN | apply Kd.N_drew)); exact HO_204000.out) hb); have n1_ := Aside0.mk (blk_below (g := gb194) (o := .cells #[.slice A0_0 l0_0.length c0_0, .int .u32 a0_1] 25 (0, 0)) (by (with_reducible repeat (first | refine blk_drewN ?_ _ | refine blk_drew ?_ | refine blk_alloc ?_ _)); exact BK194.out) hb); have n2_ := Aside0.mk (blk_below (g := gb195) (o := .cells #[.int .u32 a1_0, .int .u32 a1_1, .slice A1_2 l1_2.length c1_2, .int .u32 a1_3] 40 (0, 0)) (by (with_reducible repeat (first | refine blk_drewN ?_ _ | refine blk_drew ?_ | refine blk_alloc ?_ _)); exact BK195.out) hb); have n3_ := Aside0.mk (blk_below (g := gb196) (o := .cells #[.int .u32 a2_0, .int .u32 a2_1, .int .u64 a2_2, .int .u64 a2_3, .int .u64 a2_4, .int .u64 a2_5, .int .u64 a2_6, .int .u64 a2_7, .int .u64 a2_8] 44 (0, 0)) (by (with_reducible repeat (first | refine blk_drewN ?_ _ | refine blk_drew ?_ | refine blk_alloc ?_ _)); exact BK196.out) hb); have n4_ := Aside0.mk (blk_below (g := gb203) (o := .cells #[.slice Ao29 t199.length co29, .int .u32 t202] 25 (0, 0)) (by (with_reducible repeat (first | refine blk_drewN ?_ _ | refine blk_drew ?_ | refine blk_alloc ?_ _)); exact BK203.out) hb); have n5_ := Aside0.mk (below_step (by repeat (first | (with_reducible first | exact HB.out | apply below_alloc | apply pw_below_drewN | apply below_drew1 | refine below_set ?_ GE194.out | refine below_set ?_ GE195.out | refine below_set ?_ GE196.out | refine below_set ?_ GE203.out) | exact HB.out)) hb); clear HO_204000; clear BK194; clear BK195; clear BK196; clear BK203; clear HB; have HO_204000 := n0_; have BK194 := n1_; have BK195 := n2_; have BK196 := n3_; have BK203 := n4_; have HB := n5_; clear n0_ n1_ n2_ n3_ n4_ n5_; (try clear hb); (try clear hb2); (try clear hk); (try clear hi)))
          go_ret
          exact ⟨by first | rfl | (simp [errW_none, errW_some] <;> rfl) | (simp [*, errW_none, errW_some] <;> rfl), by repeat (first | (with_reducible first | exact HB.out | apply below_alloc | apply pw_below_drewN | apply below_drew1 | refine below_set ?_ GE194.out | refine below_set ?_ GE195.out | refine below_set ?_ GE196.out | refine below_set ?_ GE203.out) | exact HB.out)⟩
        · replace c51 := Bool.eq_false_iff.mpr c51
          subst c51
          have H1 : ((denote_Judge.f l0_0 a0_1 a2_0 a2_1 a2_2 a2_3 a2_4 a2_5 a2_6 a2_7 a2_8).bind fun bt207 => ((denote_Judge.f t199 t202 a2_0 a2_1 a2_2 a2_3 a2_4 a2_5 a2_6 a2_7 a2_8).bind fun bt209 => ((denote_Fits.f a1_0 a1_1 l1_2 a1_3 a2_0 a2_1 a2_2 a2_3 a2_4 a2_5 a2_6 a2_7 a2_8).bind fun t211 => (if t211 = true then (if a1_3 = bt209.1 then (if bt207.2 = 0 then (if bt209.2 = 0 then ((hurdlelaw11_knows.f).bind fun t212 => (some t212)) else (some false)) else (some false)) else (some false)) else (if bt207.1 = bt209.1 then (if bt207.2 = 0 then (if bt209.2 = 0 then ((hurdlelaw11_knows.f).bind fun t213 => (some t213)) else (some false)) else (some false)) else (some false)))))) = some r := by rw [if_neg (show ¬ (false = true) by decide)] at H; exact H
          clear H
          have H := H1
          clear H1
          replace H := Option.bind_eq_some_iff.mp H
          obtain ⟨⟨t207, t208⟩, A540, H⟩ := H
          replace H : ((denote_Judge.f t199 t202 a2_0 a2_1 a2_2 a2_3 a2_4 a2_5 a2_6 a2_7 a2_8).bind fun bt209 => ((denote_Fits.f a1_0 a1_1 l1_2 a1_3 a2_0 a2_1 a2_2 a2_3 a2_4 a2_5 a2_6 a2_7 a2_8).bind fun t211 => (if t211 = true then (if a1_3 = bt209.1 then (if t208 = 0 then (if bt209.2 = 0 then ((hurdlelaw11_knows.f).bind fun t212 => (some t212)) else (some false)) else (some false)) else (some false)) else (if t207 = bt209.1 then (if t208 = 0 then (if bt209.2 = 0 then ((hurdlelaw11_knows.f).bind fun t213 => (some t213)) else (some false)) else (some false)) else (some false))))) = some r := H
          have A54 := Aside0.mk A540
          clear A540
          replace H := Option.bind_eq_some_iff.mp H
          obtain ⟨⟨t209, t210⟩, A550, H⟩ := H
          replace H : ((denote_Fits.f a1_0 a1_1 l1_2 a1_3 a2_0 a2_1 a2_2 a2_3 a2_4 a2_5 a2_6 a2_7 a2_8).bind fun t211 => (if t211 = true then (if a1_3 = t209 then (if t208 = 0 then (if t210 = 0 then ((hurdlelaw11_knows.f).bind fun t212 => (some t212)) else (some false)) else (some false)) else (some false)) else (if t207 = t209 then (if t208 = 0 then (if t210 = 0 then ((hurdlelaw11_knows.f).bind fun t213 => (some t213)) else (some false)) else (some false)) else (some false)))) = some r := H
          have A55 := Aside0.mk A550
          clear A550
          replace H := Option.bind_eq_some_iff.mp H
          obtain ⟨t211, A560, H⟩ := H
          replace H : (if t211 = true then (if a1_3 = t209 then (if t208 = 0 then (if t210 = 0 then ((hurdlelaw11_knows.f).bind fun t212 => (some t212)) else (some false)) else (some false)) else (some false)) else (if t207 = t209 then (if t208 = 0 then (if t210 = 0 then ((hurdlelaw11_knows.f).bind fun t213 => (some t213)) else (some false)) else (some false)) else (some false))) = some r := H
          have A56 := Aside0.mk A560
          clear A560
          by_cases c57 : t211 = true
          · subst c57
            have H1 : (if a1_3 = t209 then (if t208 = 0 then (if t210 = 0 then ((hurdlelaw11_knows.f).bind fun t212 => (some t212)) else (some false)) else (some false)) else (some false)) = some r := by rw [if_pos rfl] at H; exact H
            clear H
            have H := H1
            clear H1
            by_cases c58 : a1_3 = t209
            · rw [if_pos c58] at H
              have c58b0 : (a1_3 == t209) = true := beq_iff_eq.mpr c58
              have c58b1 : (a1_3 != t209) = false := bne_eq_false_iff_eq.mpr c58
              clear c58
              by_cases c59 : t208 = 0
              · rw [if_pos c59] at H
                have c59b0 : (t208 == 0) = true := beq_iff_eq.mpr c59
                have c59b1 : (t208 != 0) = false := bne_eq_false_iff_eq.mpr c59
                clear c59
                by_cases c60 : t210 = 0
                · rw [if_pos c60] at H
                  have c60b0 : (t210 == 0) = true := beq_iff_eq.mpr c60
                  have c60b1 : (t210 != 0) = false := bne_eq_false_iff_eq.mpr c60
                  clear c60
                  replace H := Option.bind_eq_some_iff.mp H
                  obtain ⟨t212, A610, H⟩ := H
                  replace H : (some t212) = some r := H
                  have A61 := Aside0.mk A610
                  clear A610
                  obtain rfl := Option.some.inj H
                  have hnb62 := NB194_195.out
                  have hnc62 := NB195_194.out
                  have hnb63 := NB194_196.out
                  have hnc63 := NB196_194.out
                  have hnb64 := NB194_203.out
                  have hnc64 := NB203_194.out
                  have hcz65_0 : wc.cell? ⟨gb194, 0, none⟩ = some (.slice A0_0 l0_0.length c0_0) := (blk_cell BK194.out 0).trans rfl
                  have hcz65_1 : wc.cell? ⟨gb194, 1, none⟩ = some (.int .u32 a0_1) := (blk_cell BK194.out 1).trans rfl
                  have hfz65_0 := blk_frozen BK194.out 0
                  have hfz65_1 := blk_frozen BK194.out 1
                  have hnb66 := NB196_195.out
                  have hnc66 := NB195_196.out
                  have hnb67 := NB196_203.out
                  have hnc67 := NB203_196.out
                  have hcz68_0 : wc.cell? ⟨gb196, 0, none⟩ = some (.int .u32 a2_0) := (blk_cell BK196.out 0).trans rfl
                  have hcz68_1 : wc.cell? ⟨gb196, 1, none⟩ = some (.int .u32 a2_1) := (blk_cell BK196.out 1).trans rfl
                  have hcz68_2 : wc.cell? ⟨gb196, 2, none⟩ = some (.int .u64 a2_2) := (blk_cell BK196.out 2).trans rfl
                  have hcz68_3 : wc.cell? ⟨gb196, 3, none⟩ = some (.int .u64 a2_3) := (blk_cell BK196.out 3).trans rfl
                  have hcz68_4 : wc.cell? ⟨gb196, 4, none⟩ = some (.int .u64 a2_4) := (blk_cell BK196.out 4).trans rfl
                  have hcz68_5 : wc.cell? ⟨gb196, 5, none⟩ = some (.int .u64 a2_5) := (blk_cell BK196.out 5).trans rfl
                  have hcz68_6 : wc.cell? ⟨gb196, 6, none⟩ = some (.int .u64 a2_6) := (blk_cell BK196.out 6).trans rfl
                  have hcz68_7 : wc.cell? ⟨gb196, 7, none⟩ = some (.int .u64 a2_7) := (blk_cell BK196.out 7).trans rfl
                  have hcz68_8 : wc.cell? ⟨gb196, 8, none⟩ = some (.int .u64 a2_8) := (blk_cell BK196.out 8).trans rfl
                  have hfz68_0 := blk_frozen BK196.out 0
                  have hfz68_1 := blk_frozen BK196.out 1
                  have hfz68_2 := blk_frozen BK196.out 2
                  have hfz68_3 := blk_frozen BK196.out 3
                  have hfz68_4 := blk_frozen BK196.out 4
                  have hfz68_5 := blk_frozen BK196.out 5
                  have hfz68_6 := blk_frozen BK196.out 6
                  have hfz68_7 := blk_frozen BK196.out 7
                  have hfz68_8 := blk_frozen BK196.out 8
                  go_wp2_with (first | ((with_reducible refine gate_callee (f := 25) rfl ?_); refine goesL_ (some 30) rfl rfl Try.func25 (by kernel_rfl) rfl #[.agg #[.slice A0_0 l0_0.length c0_0, .int .u32 a0_1], .agg #[.int .u32 a2_0, .int .u32 a2_1, .int .u64 a2_2, .int .u64 a2_3, .int .u64 a2_4, .int .u64 a2_5, .int .u64 a2_6, .int .u64 a2_7, .int .u64 a2_8]] rfl (by (try simp only [List.map_toArray, List.map_cons, List.map_nil]); first | done | rfl | (simp only [List.length_drop, List.length_take]; rfl)) ?_; (with_reducible refine (denote_Judge.calls _ _ l0_0 a0_1 a2_0 a2_1 a2_2 a2_3 a2_4 a2_5 a2_6 a2_7 a2_8 t207 t208 _ ?side1 ?side2 A54.out).mono ?_); (case side1 => repeat (first | exact (Kd.C_below HR0_0.out HB.out) | (with_reducible refine Kd.C_alloc ?_ _) | (with_reducible refine Kd.C_drewN ?_ _) | (with_reducible refine Kd.C_drew ?_))); (case side2 => exact HC0_0.out); rintro e w69 ⟨rfl, hb⟩; refine ⟨_, rfl, ?_⟩; have n0_ := Aside0.mk (Kd.N_below (by (with_reducible repeat (first | apply Kd.N_alloc | apply Kd.N_drewN | apply Kd.N_drew)); exact HO_204000.out) hb); have n1_ := Aside0.mk (blk_below (g := gb194) (o := .cells #[.slice A0_0 l0_0.length c0_0, .int .u32 a0_1] 25 (0, 0)) (by (with_reducible repeat (first | refine blk_drewN ?_ _ | refine blk_drew ?_ | refine blk_alloc ?_ _)); exact BK194.out) hb); have n2_ := Aside0.mk (blk_below (g := gb195) (o := .cells #[.int .u32 a1_0, .int .u32 a1_1, .slice A1_2 l1_2.length c1_2, .int .u32 a1_3] 40 (0, 0)) (by (with_reducible repeat (first | refine blk_drewN ?_ _ | refine blk_drew ?_ | refine blk_alloc ?_ _)); exact BK195.out) hb); have n3_ := Aside0.mk (blk_below (g := gb196) (o := .cells #[.int .u32 a2_0, .int .u32 a2_1, .int .u64 a2_2, .int .u64 a2_3, .int .u64 a2_4, .int .u64 a2_5, .int .u64 a2_6, .int .u64 a2_7, .int .u64 a2_8] 44 (0, 0)) (by (with_reducible repeat (first | refine blk_drewN ?_ _ | refine blk_drew ?_ | refine blk_alloc ?_ _)); exact BK196.out) hb); have n4_ := Aside0.mk (blk_below (g := gb203) (o := .cells #[.slice Ao29 t199.length co29, .int .u32 t202] 25 (0, 0)) (by (with_reducible repeat (first | refine blk_drewN ?_ _ | refine blk_drew ?_ | refine blk_alloc ?_ _)); exact BK203.out) hb); have n5_ := Aside0.mk (below_step (by repeat (first | (with_reducible first | exact HB.out | apply below_alloc | apply pw_below_drewN | apply below_drew1 | refine below_set ?_ GE194.out | refine below_set ?_ GE195.out | refine below_set ?_ GE196.out | refine below_set ?_ GE203.out) | exact HB.out)) hb); clear HO_204000; clear BK194; clear BK195; clear BK196; clear BK203; clear HB; have HO_204000 := n0_; have BK194 := n1_; have BK195 := n2_; have BK196 := n3_; have BK203 := n4_; have HB := n5_; clear n0_ n1_ n2_ n3_ n4_ n5_; (try clear hb); (try clear hb2); (try clear hk); (try clear hi); have hnb70 := NB203_195.out; have hnc70 := NB195_203.out; have hcz71_0 : w69.cell? ⟨gb203, 0, none⟩ = some (.slice Ao29 t199.length co29) := (blk_cell BK203.out 0).trans rfl; have hcz71_1 : w69.cell? ⟨gb203, 1, none⟩ = some (.int .u32 t202) := (blk_cell BK203.out 1).trans rfl; have hfz71_0 := blk_frozen BK203.out 0; have hfz71_1 := blk_frozen BK203.out 1; have hcz72_0 : w69.cell? ⟨gb196, 0, none⟩ = some (.int .u32 a2_0) := (blk_cell BK196.out 0).trans rfl; have hcz72_1 : w69.cell? ⟨gb196, 1, none⟩ = some (.int .u32 a2_1) := (blk_cell BK196.out 1).trans rfl; have hcz72_2 : w69.cell? ⟨gb196, 2, none⟩ = some (.int .u64 a2_2) := (blk_cell BK196.out 2).trans rfl; have hcz72_3 : w69.cell? ⟨gb196, 3, none⟩ = some (.int .u64 a2_3) := (blk_cell BK196.out 3).trans rfl; have hcz72_4 : w69.cell? ⟨gb196, 4, none⟩ = some (.int .u64 a2_4) := (blk_cell BK196.out 4).trans rfl; have hcz72_5 : w69.cell? ⟨gb196, 5, none⟩ = some (.int .u64 a2_5) := (blk_cell BK196.out 5).trans rfl; have hcz72_6 : w69.cell? ⟨gb196, 6, none⟩ = some (.int .u64 a2_6) := (blk_cell BK196.out 6).trans rfl; have hcz72_7 : w69.cell? ⟨gb196, 7, none⟩ = some (.int .u64 a2_7) := (blk_cell BK196.out 7).trans rfl; have hcz72_8 : w69.cell? ⟨gb196, 8, none⟩ = some (.int .u64 a2_8) := (blk_cell BK196.out 8).trans rfl; have hfz72_0 := blk_frozen BK196.out 0; have hfz72_1 := blk_frozen BK196.out 1; have hfz72_2 := blk_frozen BK196.out 2; have hfz72_3 := blk_frozen BK196.out 3; have hfz72_4 := blk_frozen BK196.out 4; have hfz72_5 := blk_frozen BK196.out 5; have hfz72_6 := blk_frozen BK196.out 6; have hfz72_7 := blk_frozen BK196.out 7; have hfz72_8 := blk_frozen BK196.out 8) | ((with_reducible refine gate_callee (f := 25) rfl ?_); refine goesL_ (some 36) rfl rfl Try.func25 (by kernel_rfl) rfl #[.agg #[.slice Ao29 t199.length co29, .int .u32 t202], .agg #[.int .u32 a2_0, .int .u32 a2_1, .int .u64 a2_2, .int .u64 a2_3, .int .u64 a2_4, .int .u64 a2_5, .int .u64 a2_6, .int .u64 a2_7, .int .u64 a2_8]] rfl (by (try simp only [List.map_toArray, List.map_cons, List.map_nil]); first | done | rfl | (simp only [List.length_drop, List.length_take]; rfl)) ?_; (with_reducible refine (denote_Judge.calls _ _ t199 t202 a2_0 a2_1 a2_2 a2_3 a2_4 a2_5 a2_6 a2_7 a2_8 t209 t210 _ ?side1 ?side2 A55.out).mono ?_); (case side1 => repeat (first | exact (Kd.N_reads' HO_204000.out).2.2 | (with_reducible refine Kd.C_alloc ?_ _) | (with_reducible refine Kd.C_drewN ?_ _) | (with_reducible refine Kd.C_drew ?_))); (case side2 => exact (Kd.N_reads' HO_204000.out).2.1); rintro e w73 ⟨rfl, hb⟩; refine ⟨_, rfl, ?_⟩; have n0_ := Aside0.mk (Kd.N_below (by (with_reducible repeat (first | apply Kd.N_alloc | apply Kd.N_drewN | apply Kd.N_drew)); exact HO_204000.out) hb); have n1_ := Aside0.mk (blk_below (g := gb194) (o := .cells #[.slice A0_0 l0_0.length c0_0, .int .u32 a0_1] 25 (0, 0)) (by (with_reducible repeat (first | refine blk_drewN ?_ _ | refine blk_drew ?_ | refine blk_alloc ?_ _)); exact BK194.out) hb); have n2_ := Aside0.mk (blk_below (g := gb195) (o := .cells #[.int .u32 a1_0, .int .u32 a1_1, .slice A1_2 l1_2.length c1_2, .int .u32 a1_3] 40 (0, 0)) (by (with_reducible repeat (first | refine blk_drewN ?_ _ | refine blk_drew ?_ | refine blk_alloc ?_ _)); exact BK195.out) hb); have n3_ := Aside0.mk (blk_below (g := gb196) (o := .cells #[.int .u32 a2_0, .int .u32 a2_1, .int .u64 a2_2, .int .u64 a2_3, .int .u64 a2_4, .int .u64 a2_5, .int .u64 a2_6, .int .u64 a2_7, .int .u64 a2_8] 44 (0, 0)) (by (with_reducible repeat (first | refine blk_drewN ?_ _ | refine blk_drew ?_ | refine blk_alloc ?_ _)); exact BK196.out) hb); have n4_ := Aside0.mk (blk_below (g := gb203) (o := .cells #[.slice Ao29 t199.length co29, .int .u32 t202] 25 (0, 0)) (by (with_reducible repeat (first | refine blk_drewN ?_ _ | refine blk_drew ?_ | refine blk_alloc ?_ _)); exact BK203.out) hb); have n5_ := Aside0.mk (below_step (by repeat (first | (with_reducible first | exact HB.out | apply below_alloc | apply pw_below_drewN | apply below_drew1 | refine below_set ?_ GE194.out | refine below_set ?_ GE195.out | refine below_set ?_ GE196.out | refine below_set ?_ GE203.out) | exact HB.out)) hb); clear HO_204000; clear BK194; clear BK195; clear BK196; clear BK203; clear HB; have HO_204000 := n0_; have BK194 := n1_; have BK195 := n2_; have BK196 := n3_; have BK203 := n4_; have HB := n5_; clear n0_ n1_ n2_ n3_ n4_ n5_; (try clear hb); (try clear hb2); (try clear hk); (try clear hi); have hcz74_0 : w73.cell? ⟨gb195, 0, none⟩ = some (.int .u32 a1_0) := (blk_cell BK195.out 0).trans rfl; have hcz74_1 : w73.cell? ⟨gb195, 1, none⟩ = some (.int .u32 a1_1) := (blk_cell BK195.out 1).trans rfl; have hcz74_2 : w73.cell? ⟨gb195, 2, none⟩ = some (.slice A1_2 l1_2.length c1_2) := (blk_cell BK195.out 2).trans rfl; have hcz74_3 : w73.cell? ⟨gb195, 3, none⟩ = some (.int .u32 a1_3) := (blk_cell BK195.out 3).trans rfl; have hfz74_0 := blk_frozen BK195.out 0; have hfz74_1 := blk_frozen BK195.out 1; have hfz74_2 := blk_frozen BK195.out 2; have hfz74_3 := blk_frozen BK195.out 3; have hcz75_0 : w73.cell? ⟨gb196, 0, none⟩ = some (.int .u32 a2_0) := (blk_cell BK196.out 0).trans rfl; have hcz75_1 : w73.cell? ⟨gb196, 1, none⟩ = some (.int .u32 a2_1) := (blk_cell BK196.out 1).trans rfl; have hcz75_2 : w73.cell? ⟨gb196, 2, none⟩ = some (.int .u64 a2_2) := (blk_cell BK196.out 2).trans rfl; have hcz75_3 : w73.cell? ⟨gb196, 3, none⟩ = some (.int .u64 a2_3) := (blk_cell BK196.out 3).trans rfl; have hcz75_4 : w73.cell? ⟨gb196, 4, none⟩ = some (.int .u64 a2_4) := (blk_cell BK196.out 4).trans rfl; have hcz75_5 : w73.cell? ⟨gb196, 5, none⟩ = some (.int .u64 a2_5) := (blk_cell BK196.out 5).trans rfl; have hcz75_6 : w73.cell? ⟨gb196, 6, none⟩ = some (.int .u64 a2_6) := (blk_cell BK196.out 6).trans rfl; have hcz75_7 : w73.cell? ⟨gb196, 7, none⟩ = some (.int .u64 a2_7) := (blk_cell BK196.out 7).trans rfl; have hcz75_8 : w73.cell? ⟨gb196, 8, none⟩ = some (.int .u64 a2_8) := (blk_cell BK196.out 8).trans rfl; have hfz75_0 := blk_frozen BK196.out 0; have hfz75_1 := blk_frozen BK196.out 1; have hfz75_2 := blk_frozen BK196.out 2; have hfz75_3 := blk_frozen BK196.out 3; have hfz75_4 := blk_frozen BK196.out 4; have hfz75_5 := blk_frozen BK196.out 5; have hfz75_6 := blk_frozen BK196.out 6; have hfz75_7 := blk_frozen BK196.out 7; have hfz75_8 := blk_frozen BK196.out 8) | ((with_reducible refine gate_callee (f := 26) rfl ?_); refine goesL_ (some 41) rfl rfl Try.func26 (by kernel_rfl) rfl #[.agg #[.int .u32 a1_0, .int .u32 a1_1, .slice A1_2 l1_2.length c1_2, .int .u32 a1_3], .agg #[.int .u32 a2_0, .int .u32 a2_1, .int .u64 a2_2, .int .u64 a2_3, .int .u64 a2_4, .int .u64 a2_5, .int .u64 a2_6, .int .u64 a2_7, .int .u64 a2_8]] rfl (by (try simp only [List.map_toArray, List.map_cons, List.map_nil]); first | done | rfl | (simp only [List.length_drop, List.length_take]; rfl)) ?_; (with_reducible refine (denote_Fits.calls a1_0 a1_1 _ _ l1_2 a1_3 a2_0 a2_1 a2_2 a2_3 a2_4 a2_5 a2_6 a2_7 a2_8 true _ ?side1 ?side2 A56.out).mono ?_); (case side1 => repeat (first | exact (Kd.C_below HR1_2.out HB.out) | (with_reducible refine Kd.C_alloc ?_ _) | (with_reducible refine Kd.C_drewN ?_ _) | (with_reducible refine Kd.C_drew ?_))); (case side2 => exact HC1_2.out); rintro e w76 ⟨rfl, hb⟩; refine ⟨_, rfl, ?_⟩; have n0_ := Aside0.mk (Kd.N_below (by (with_reducible repeat (first | apply Kd.N_alloc | apply Kd.N_drewN | apply Kd.N_drew)); exact HO_204000.out) hb); have n1_ := Aside0.mk (blk_below (g := gb194) (o := .cells #[.slice A0_0 l0_0.length c0_0, .int .u32 a0_1] 25 (0, 0)) (by (with_reducible repeat (first | refine blk_drewN ?_ _ | refine blk_drew ?_ | refine blk_alloc ?_ _)); exact BK194.out) hb); have n2_ := Aside0.mk (blk_below (g := gb195) (o := .cells #[.int .u32 a1_0, .int .u32 a1_1, .slice A1_2 l1_2.length c1_2, .int .u32 a1_3] 40 (0, 0)) (by (with_reducible repeat (first | refine blk_drewN ?_ _ | refine blk_drew ?_ | refine blk_alloc ?_ _)); exact BK195.out) hb); have n3_ := Aside0.mk (blk_below (g := gb196) (o := .cells #[.int .u32 a2_0, .int .u32 a2_1, .int .u64 a2_2, .int .u64 a2_3, .int .u64 a2_4, .int .u64 a2_5, .int .u64 a2_6, .int .u64 a2_7, .int .u64 a2_8] 44 (0, 0)) (by (with_reducible repeat (first | refine blk_drewN ?_ _ | refine blk_drew ?_ | refine blk_alloc ?_ _)); exact BK196.out) hb); have n4_ := Aside0.mk (blk_below (g := gb203) (o := .cells #[.slice Ao29 t199.length co29, .int .u32 t202] 25 (0, 0)) (by (with_reducible repeat (first | refine blk_drewN ?_ _ | refine blk_drew ?_ | refine blk_alloc ?_ _)); exact BK203.out) hb); have n5_ := Aside0.mk (below_step (by repeat (first | (with_reducible first | exact HB.out | apply below_alloc | apply pw_below_drewN | apply below_drew1 | refine below_set ?_ GE194.out | refine below_set ?_ GE195.out | refine below_set ?_ GE196.out | refine below_set ?_ GE203.out) | exact HB.out)) hb); clear HO_204000; clear BK194; clear BK195; clear BK196; clear BK203; clear HB; have HO_204000 := n0_; have BK194 := n1_; have BK195 := n2_; have BK196 := n3_; have BK203 := n4_; have HB := n5_; clear n0_ n1_ n2_ n3_ n4_ n5_; (try clear hb); (try clear hb2); (try clear hk); (try clear hi); have hcz77_0 : w76.cell? ⟨gb195, 0, none⟩ = some (.int .u32 a1_0) := (blk_cell BK195.out 0).trans rfl; have hcz77_1 : w76.cell? ⟨gb195, 1, none⟩ = some (.int .u32 a1_1) := (blk_cell BK195.out 1).trans rfl; have hcz77_2 : w76.cell? ⟨gb195, 2, none⟩ = some (.slice A1_2 l1_2.length c1_2) := (blk_cell BK195.out 2).trans rfl; have hcz77_3 : w76.cell? ⟨gb195, 3, none⟩ = some (.int .u32 a1_3) := (blk_cell BK195.out 3).trans rfl; have hfz77_0 := blk_frozen BK195.out 0; have hfz77_1 := blk_frozen BK195.out 1; have hfz77_2 := blk_frozen BK195.out 2; have hfz77_3 := blk_frozen BK195.out 3) | (go_at_call 23; (with_reducible refine (hurdlelaw11_knows.calls  t212 _ A61.out).mono ?_); rintro e w78 ⟨rfl, hb⟩; have n0_ := Aside0.mk (Kd.N_below (by (with_reducible repeat (first | apply Kd.N_alloc | apply Kd.N_drewN | apply Kd.N_drew)); exact HO_204000.out) hb); have n1_ := Aside0.mk (blk_below (g := gb194) (o := .cells #[.slice A0_0 l0_0.length c0_0, .int .u32 a0_1] 25 (0, 0)) (by (with_reducible repeat (first | refine blk_drewN ?_ _ | refine blk_drew ?_ | refine blk_alloc ?_ _)); exact BK194.out) hb); have n2_ := Aside0.mk (blk_below (g := gb195) (o := .cells #[.int .u32 a1_0, .int .u32 a1_1, .slice A1_2 l1_2.length c1_2, .int .u32 a1_3] 40 (0, 0)) (by (with_reducible repeat (first | refine blk_drewN ?_ _ | refine blk_drew ?_ | refine blk_alloc ?_ _)); exact BK195.out) hb); have n3_ := Aside0.mk (blk_below (g := gb196) (o := .cells #[.int .u32 a2_0, .int .u32 a2_1, .int .u64 a2_2, .int .u64 a2_3, .int .u64 a2_4, .int .u64 a2_5, .int .u64 a2_6, .int .u64 a2_7, .int .u64 a2_8] 44 (0, 0)) (by (with_reducible repeat (first | refine blk_drewN ?_ _ | refine blk_drew ?_ | refine blk_alloc ?_ _)); exact BK196.out) hb); have n4_ := Aside0.mk (blk_below (g := gb203) (o := .cells #[.slice Ao29 t199.length co29, .int .u32 t202] 25 (0, 0)) (by (with_reducible repeat (first | refine blk_drewN ?_ _ | refine blk_drew ?_ | refine blk_alloc ?_ _)); exact BK203.out) hb); have n5_ := Aside0.mk (below_step (by repeat (first | (with_reducible first | exact HB.out | apply below_alloc | apply pw_below_drewN | apply below_drew1 | refine below_set ?_ GE194.out | refine below_set ?_ GE195.out | refine below_set ?_ GE196.out | refine below_set ?_ GE203.out) | exact HB.out)) hb); clear HO_204000; clear BK194; clear BK195; clear BK196; clear BK203; clear HB; have HO_204000 := n0_; have BK194 := n1_; have BK195 := n2_; have BK196 := n3_; have BK203 := n4_; have HB := n5_; clear n0_ n1_ n2_ n3_ n4_ n5_; (try clear hb); (try clear hb2); (try clear hk); (try clear hi)))
                  go_ret
                  exact ⟨by first | rfl | (simp [errW_none, errW_some] <;> rfl) | (simp [*, errW_none, errW_some] <;> rfl), by repeat (first | (with_reducible first | exact HB.out | apply below_alloc | apply pw_below_drewN | apply below_drew1 | refine below_set ?_ GE194.out | refine below_set ?_ GE195.out | refine below_set ?_ GE196.out | refine below_set ?_ GE203.out) | exact HB.out)⟩
                · rw [if_neg c60] at H
                  exact absurd ((Option.some.inj H).trans ht) Bool.false_ne_true
              · rw [if_neg c59] at H
                exact absurd ((Option.some.inj H).trans ht) Bool.false_ne_true
            · rw [if_neg c58] at H
              exact absurd ((Option.some.inj H).trans ht) Bool.false_ne_true
          · replace c57 := Bool.eq_false_iff.mpr c57
            subst c57
            have H1 : (if t207 = t209 then (if t208 = 0 then (if t210 = 0 then ((hurdlelaw11_knows.f).bind fun t213 => (some t213)) else (some false)) else (some false)) else (some false)) = some r := by rw [if_neg (show ¬ (false = true) by decide)] at H; exact H
            clear H
            have H := H1
            clear H1
            by_cases c127 : t207 = t209
            · rw [if_pos c127] at H
              have c127b0 : (t207 == t209) = true := beq_iff_eq.mpr c127
              have c127b1 : (t207 != t209) = false := bne_eq_false_iff_eq.mpr c127
              clear c127
              by_cases c128 : t208 = 0
              · rw [if_pos c128] at H
                have c128b0 : (t208 == 0) = true := beq_iff_eq.mpr c128
                have c128b1 : (t208 != 0) = false := bne_eq_false_iff_eq.mpr c128
                clear c128
                by_cases c129 : t210 = 0
                · rw [if_pos c129] at H
                  have c129b0 : (t210 == 0) = true := beq_iff_eq.mpr c129
                  have c129b1 : (t210 != 0) = false := bne_eq_false_iff_eq.mpr c129
                  clear c129
                  replace H := Option.bind_eq_some_iff.mp H
                  obtain ⟨t213, A1300, H⟩ := H
                  replace H : (some t213) = some r := H
                  have A130 := Aside0.mk A1300
                  clear A1300
                  obtain rfl := Option.some.inj H
                  have hnb131 := NB194_195.out
                  have hnc131 := NB195_194.out
                  have hnb132 := NB194_196.out
                  have hnc132 := NB196_194.out
                  have hnb133 := NB194_203.out
                  have hnc133 := NB203_194.out
                  have hcz134_0 : wc.cell? ⟨gb194, 0, none⟩ = some (.slice A0_0 l0_0.length c0_0) := (blk_cell BK194.out 0).trans rfl
                  have hcz134_1 : wc.cell? ⟨gb194, 1, none⟩ = some (.int .u32 a0_1) := (blk_cell BK194.out 1).trans rfl
                  have hfz134_0 := blk_frozen BK194.out 0
                  have hfz134_1 := blk_frozen BK194.out 1
                  have hnb135 := NB196_195.out
                  have hnc135 := NB195_196.out
                  have hnb136 := NB196_203.out
                  have hnc136 := NB203_196.out
                  have hcz137_0 : wc.cell? ⟨gb196, 0, none⟩ = some (.int .u32 a2_0) := (blk_cell BK196.out 0).trans rfl
                  have hcz137_1 : wc.cell? ⟨gb196, 1, none⟩ = some (.int .u32 a2_1) := (blk_cell BK196.out 1).trans rfl
                  have hcz137_2 : wc.cell? ⟨gb196, 2, none⟩ = some (.int .u64 a2_2) := (blk_cell BK196.out 2).trans rfl
                  have hcz137_3 : wc.cell? ⟨gb196, 3, none⟩ = some (.int .u64 a2_3) := (blk_cell BK196.out 3).trans rfl
                  have hcz137_4 : wc.cell? ⟨gb196, 4, none⟩ = some (.int .u64 a2_4) := (blk_cell BK196.out 4).trans rfl
                  have hcz137_5 : wc.cell? ⟨gb196, 5, none⟩ = some (.int .u64 a2_5) := (blk_cell BK196.out 5).trans rfl
                  have hcz137_6 : wc.cell? ⟨gb196, 6, none⟩ = some (.int .u64 a2_6) := (blk_cell BK196.out 6).trans rfl
                  have hcz137_7 : wc.cell? ⟨gb196, 7, none⟩ = some (.int .u64 a2_7) := (blk_cell BK196.out 7).trans rfl
                  have hcz137_8 : wc.cell? ⟨gb196, 8, none⟩ = some (.int .u64 a2_8) := (blk_cell BK196.out 8).trans rfl
                  have hfz137_0 := blk_frozen BK196.out 0
                  have hfz137_1 := blk_frozen BK196.out 1
                  have hfz137_2 := blk_frozen BK196.out 2
                  have hfz137_3 := blk_frozen BK196.out 3
                  have hfz137_4 := blk_frozen BK196.out 4
                  have hfz137_5 := blk_frozen BK196.out 5
                  have hfz137_6 := blk_frozen BK196.out 6
                  have hfz137_7 := blk_frozen BK196.out 7
                  have hfz137_8 := blk_frozen BK196.out 8
                  go_wp2_with (first | ((with_reducible refine gate_callee (f := 25) rfl ?_); refine goesL_ (some 30) rfl rfl Try.func25 (by kernel_rfl) rfl #[.agg #[.slice A0_0 l0_0.length c0_0, .int .u32 a0_1], .agg #[.int .u32 a2_0, .int .u32 a2_1, .int .u64 a2_2, .int .u64 a2_3, .int .u64 a2_4, .int .u64 a2_5, .int .u64 a2_6, .int .u64 a2_7, .int .u64 a2_8]] rfl (by (try simp only [List.map_toArray, List.map_cons, List.map_nil]); first | done | rfl | (simp only [List.length_drop, List.length_take]; rfl)) ?_; (with_reducible refine (denote_Judge.calls _ _ l0_0 a0_1 a2_0 a2_1 a2_2 a2_3 a2_4 a2_5 a2_6 a2_7 a2_8 t207 t208 _ ?side1 ?side2 A54.out).mono ?_); (case side1 => repeat (first | exact (Kd.C_below HR0_0.out HB.out) | (with_reducible refine Kd.C_alloc ?_ _) | (with_reducible refine Kd.C_drewN ?_ _) | (with_reducible refine Kd.C_drew ?_))); (case side2 => exact HC0_0.out); rintro e w138 ⟨rfl, hb⟩; refine ⟨_, rfl, ?_⟩; have n0_ := Aside0.mk (Kd.N_below (by (with_reducible repeat (first | apply Kd.N_alloc | apply Kd.N_drewN | apply Kd.N_drew)); exact HO_204000.out) hb); have n1_ := Aside0.mk (blk_below (g := gb194) (o := .cells #[.slice A0_0 l0_0.length c0_0, .int .u32 a0_1] 25 (0, 0)) (by (with_reducible repeat (first | refine blk_drewN ?_ _ | refine blk_drew ?_ | refine blk_alloc ?_ _)); exact BK194.out) hb); have n2_ := Aside0.mk (blk_below (g := gb195) (o := .cells #[.int .u32 a1_0, .int .u32 a1_1, .slice A1_2 l1_2.length c1_2, .int .u32 a1_3] 40 (0, 0)) (by (with_reducible repeat (first | refine blk_drewN ?_ _ | refine blk_drew ?_ | refine blk_alloc ?_ _)); exact BK195.out) hb); have n3_ := Aside0.mk (blk_below (g := gb196) (o := .cells #[.int .u32 a2_0, .int .u32 a2_1, .int .u64 a2_2, .int .u64 a2_3, .int .u64 a2_4, .int .u64 a2_5, .int .u64 a2_6, .int .u64 a2_7, .int .u64 a2_8] 44 (0, 0)) (by (with_reducible repeat (first | refine blk_drewN ?_ _ | refine blk_drew ?_ | refine blk_alloc ?_ _)); exact BK196.out) hb); have n4_ := Aside0.mk (blk_below (g := gb203) (o := .cells #[.slice Ao29 t199.length co29, .int .u32 t202] 25 (0, 0)) (by (with_reducible repeat (first | refine blk_drewN ?_ _ | refine blk_drew ?_ | refine blk_alloc ?_ _)); exact BK203.out) hb); have n5_ := Aside0.mk (below_step (by repeat (first | (with_reducible first | exact HB.out | apply below_alloc | apply pw_below_drewN | apply below_drew1 | refine below_set ?_ GE194.out | refine below_set ?_ GE195.out | refine below_set ?_ GE196.out | refine below_set ?_ GE203.out) | exact HB.out)) hb); clear HO_204000; clear BK194; clear BK195; clear BK196; clear BK203; clear HB; have HO_204000 := n0_; have BK194 := n1_; have BK195 := n2_; have BK196 := n3_; have BK203 := n4_; have HB := n5_; clear n0_ n1_ n2_ n3_ n4_ n5_; (try clear hb); (try clear hb2); (try clear hk); (try clear hi); have hnb139 := NB203_195.out; have hnc139 := NB195_203.out; have hcz140_0 : w138.cell? ⟨gb203, 0, none⟩ = some (.slice Ao29 t199.length co29) := (blk_cell BK203.out 0).trans rfl; have hcz140_1 : w138.cell? ⟨gb203, 1, none⟩ = some (.int .u32 t202) := (blk_cell BK203.out 1).trans rfl; have hfz140_0 := blk_frozen BK203.out 0; have hfz140_1 := blk_frozen BK203.out 1; have hcz141_0 : w138.cell? ⟨gb196, 0, none⟩ = some (.int .u32 a2_0) := (blk_cell BK196.out 0).trans rfl; have hcz141_1 : w138.cell? ⟨gb196, 1, none⟩ = some (.int .u32 a2_1) := (blk_cell BK196.out 1).trans rfl; have hcz141_2 : w138.cell? ⟨gb196, 2, none⟩ = some (.int .u64 a2_2) := (blk_cell BK196.out 2).trans rfl; have hcz141_3 : w138.cell? ⟨gb196, 3, none⟩ = some (.int .u64 a2_3) := (blk_cell BK196.out 3).trans rfl; have hcz141_4 : w138.cell? ⟨gb196, 4, none⟩ = some (.int .u64 a2_4) := (blk_cell BK196.out 4).trans rfl; have hcz141_5 : w138.cell? ⟨gb196, 5, none⟩ = some (.int .u64 a2_5) := (blk_cell BK196.out 5).trans rfl; have hcz141_6 : w138.cell? ⟨gb196, 6, none⟩ = some (.int .u64 a2_6) := (blk_cell BK196.out 6).trans rfl; have hcz141_7 : w138.cell? ⟨gb196, 7, none⟩ = some (.int .u64 a2_7) := (blk_cell BK196.out 7).trans rfl; have hcz141_8 : w138.cell? ⟨gb196, 8, none⟩ = some (.int .u64 a2_8) := (blk_cell BK196.out 8).trans rfl; have hfz141_0 := blk_frozen BK196.out 0; have hfz141_1 := blk_frozen BK196.out 1; have hfz141_2 := blk_frozen BK196.out 2; have hfz141_3 := blk_frozen BK196.out 3; have hfz141_4 := blk_frozen BK196.out 4; have hfz141_5 := blk_frozen BK196.out 5; have hfz141_6 := blk_frozen BK196.out 6; have hfz141_7 := blk_frozen BK196.out 7; have hfz141_8 := blk_frozen BK196.out 8) | ((with_reducible refine gate_callee (f := 25) rfl ?_); refine goesL_ (some 36) rfl rfl Try.func25 (by kernel_rfl) rfl #[.agg #[.slice Ao29 t199.length co29, .int .u32 t202], .agg #[.int .u32 a2_0, .int .u32 a2_1, .int .u64 a2_2, .int .u64 a2_3, .int .u64 a2_4, .int .u64 a2_5, .int .u64 a2_6, .int .u64 a2_7, .int .u64 a2_8]] rfl (by (try simp only [List.map_toArray, List.map_cons, List.map_nil]); first | done | rfl | (simp only [List.length_drop, List.length_take]; rfl)) ?_; (with_reducible refine (denote_Judge.calls _ _ t199 t202 a2_0 a2_1 a2_2 a2_3 a2_4 a2_5 a2_6 a2_7 a2_8 t209 t210 _ ?side1 ?side2 A55.out).mono ?_); (case side1 => repeat (first | exact (Kd.N_reads' HO_204000.out).2.2 | (with_reducible refine Kd.C_alloc ?_ _) | (with_reducible refine Kd.C_drewN ?_ _) | (with_reducible refine Kd.C_drew ?_))); (case side2 => exact (Kd.N_reads' HO_204000.out).2.1); rintro e w142 ⟨rfl, hb⟩; refine ⟨_, rfl, ?_⟩; have n0_ := Aside0.mk (Kd.N_below (by (with_reducible repeat (first | apply Kd.N_alloc | apply Kd.N_drewN | apply Kd.N_drew)); exact HO_204000.out) hb); have n1_ := Aside0.mk (blk_below (g := gb194) (o := .cells #[.slice A0_0 l0_0.length c0_0, .int .u32 a0_1] 25 (0, 0)) (by (with_reducible repeat (first | refine blk_drewN ?_ _ | refine blk_drew ?_ | refine blk_alloc ?_ _)); exact BK194.out) hb); have n2_ := Aside0.mk (blk_below (g := gb195) (o := .cells #[.int .u32 a1_0, .int .u32 a1_1, .slice A1_2 l1_2.length c1_2, .int .u32 a1_3] 40 (0, 0)) (by (with_reducible repeat (first | refine blk_drewN ?_ _ | refine blk_drew ?_ | refine blk_alloc ?_ _)); exact BK195.out) hb); have n3_ := Aside0.mk (blk_below (g := gb196) (o := .cells #[.int .u32 a2_0, .int .u32 a2_1, .int .u64 a2_2, .int .u64 a2_3, .int .u64 a2_4, .int .u64 a2_5, .int .u64 a2_6, .int .u64 a2_7, .int .u64 a2_8] 44 (0, 0)) (by (with_reducible repeat (first | refine blk_drewN ?_ _ | refine blk_drew ?_ | refine blk_alloc ?_ _)); exact BK196.out) hb); have n4_ := Aside0.mk (blk_below (g := gb203) (o := .cells #[.slice Ao29 t199.length co29, .int .u32 t202] 25 (0, 0)) (by (with_reducible repeat (first | refine blk_drewN ?_ _ | refine blk_drew ?_ | refine blk_alloc ?_ _)); exact BK203.out) hb); have n5_ := Aside0.mk (below_step (by repeat (first | (with_reducible first | exact HB.out | apply below_alloc | apply pw_below_drewN | apply below_drew1 | refine below_set ?_ GE194.out | refine below_set ?_ GE195.out | refine below_set ?_ GE196.out | refine below_set ?_ GE203.out) | exact HB.out)) hb); clear HO_204000; clear BK194; clear BK195; clear BK196; clear BK203; clear HB; have HO_204000 := n0_; have BK194 := n1_; have BK195 := n2_; have BK196 := n3_; have BK203 := n4_; have HB := n5_; clear n0_ n1_ n2_ n3_ n4_ n5_; (try clear hb); (try clear hb2); (try clear hk); (try clear hi); have hcz143_0 : w142.cell? ⟨gb195, 0, none⟩ = some (.int .u32 a1_0) := (blk_cell BK195.out 0).trans rfl; have hcz143_1 : w142.cell? ⟨gb195, 1, none⟩ = some (.int .u32 a1_1) := (blk_cell BK195.out 1).trans rfl; have hcz143_2 : w142.cell? ⟨gb195, 2, none⟩ = some (.slice A1_2 l1_2.length c1_2) := (blk_cell BK195.out 2).trans rfl; have hcz143_3 : w142.cell? ⟨gb195, 3, none⟩ = some (.int .u32 a1_3) := (blk_cell BK195.out 3).trans rfl; have hfz143_0 := blk_frozen BK195.out 0; have hfz143_1 := blk_frozen BK195.out 1; have hfz143_2 := blk_frozen BK195.out 2; have hfz143_3 := blk_frozen BK195.out 3; have hcz144_0 : w142.cell? ⟨gb196, 0, none⟩ = some (.int .u32 a2_0) := (blk_cell BK196.out 0).trans rfl; have hcz144_1 : w142.cell? ⟨gb196, 1, none⟩ = some (.int .u32 a2_1) := (blk_cell BK196.out 1).trans rfl; have hcz144_2 : w142.cell? ⟨gb196, 2, none⟩ = some (.int .u64 a2_2) := (blk_cell BK196.out 2).trans rfl; have hcz144_3 : w142.cell? ⟨gb196, 3, none⟩ = some (.int .u64 a2_3) := (blk_cell BK196.out 3).trans rfl; have hcz144_4 : w142.cell? ⟨gb196, 4, none⟩ = some (.int .u64 a2_4) := (blk_cell BK196.out 4).trans rfl; have hcz144_5 : w142.cell? ⟨gb196, 5, none⟩ = some (.int .u64 a2_5) := (blk_cell BK196.out 5).trans rfl; have hcz144_6 : w142.cell? ⟨gb196, 6, none⟩ = some (.int .u64 a2_6) := (blk_cell BK196.out 6).trans rfl; have hcz144_7 : w142.cell? ⟨gb196, 7, none⟩ = some (.int .u64 a2_7) := (blk_cell BK196.out 7).trans rfl; have hcz144_8 : w142.cell? ⟨gb196, 8, none⟩ = some (.int .u64 a2_8) := (blk_cell BK196.out 8).trans rfl; have hfz144_0 := blk_frozen BK196.out 0; have hfz144_1 := blk_frozen BK196.out 1; have hfz144_2 := blk_frozen BK196.out 2; have hfz144_3 := blk_frozen BK196.out 3; have hfz144_4 := blk_frozen BK196.out 4; have hfz144_5 := blk_frozen BK196.out 5; have hfz144_6 := blk_frozen BK196.out 6; have hfz144_7 := blk_frozen BK196.out 7; have hfz144_8 := blk_frozen BK196.out 8) | ((with_reducible refine gate_callee (f := 26) rfl ?_); refine goesL_ (some 41) rfl rfl Try.func26 (by kernel_rfl) rfl #[.agg #[.int .u32 a1_0, .int .u32 a1_1, .slice A1_2 l1_2.length c1_2, .int .u32 a1_3], .agg #[.int .u32 a2_0, .int .u32 a2_1, .int .u64 a2_2, .int .u64 a2_3, .int .u64 a2_4, .int .u64 a2_5, .int .u64 a2_6, .int .u64 a2_7, .int .u64 a2_8]] rfl (by (try simp only [List.map_toArray, List.map_cons, List.map_nil]); first | done | rfl | (simp only [List.length_drop, List.length_take]; rfl)) ?_; (with_reducible refine (denote_Fits.calls a1_0 a1_1 _ _ l1_2 a1_3 a2_0 a2_1 a2_2 a2_3 a2_4 a2_5 a2_6 a2_7 a2_8 false _ ?side1 ?side2 A56.out).mono ?_); (case side1 => repeat (first | exact (Kd.C_below HR1_2.out HB.out) | (with_reducible refine Kd.C_alloc ?_ _) | (with_reducible refine Kd.C_drewN ?_ _) | (with_reducible refine Kd.C_drew ?_))); (case side2 => exact HC1_2.out); rintro e w145 ⟨rfl, hb⟩; refine ⟨_, rfl, ?_⟩; have n0_ := Aside0.mk (Kd.N_below (by (with_reducible repeat (first | apply Kd.N_alloc | apply Kd.N_drewN | apply Kd.N_drew)); exact HO_204000.out) hb); have n1_ := Aside0.mk (blk_below (g := gb194) (o := .cells #[.slice A0_0 l0_0.length c0_0, .int .u32 a0_1] 25 (0, 0)) (by (with_reducible repeat (first | refine blk_drewN ?_ _ | refine blk_drew ?_ | refine blk_alloc ?_ _)); exact BK194.out) hb); have n2_ := Aside0.mk (blk_below (g := gb195) (o := .cells #[.int .u32 a1_0, .int .u32 a1_1, .slice A1_2 l1_2.length c1_2, .int .u32 a1_3] 40 (0, 0)) (by (with_reducible repeat (first | refine blk_drewN ?_ _ | refine blk_drew ?_ | refine blk_alloc ?_ _)); exact BK195.out) hb); have n3_ := Aside0.mk (blk_below (g := gb196) (o := .cells #[.int .u32 a2_0, .int .u32 a2_1, .int .u64 a2_2, .int .u64 a2_3, .int .u64 a2_4, .int .u64 a2_5, .int .u64 a2_6, .int .u64 a2_7, .int .u64 a2_8] 44 (0, 0)) (by (with_reducible repeat (first | refine blk_drewN ?_ _ | refine blk_drew ?_ | refine blk_alloc ?_ _)); exact BK196.out) hb); have n4_ := Aside0.mk (blk_below (g := gb203) (o := .cells #[.slice Ao29 t199.length co29, .int .u32 t202] 25 (0, 0)) (by (with_reducible repeat (first | refine blk_drewN ?_ _ | refine blk_drew ?_ | refine blk_alloc ?_ _)); exact BK203.out) hb); have n5_ := Aside0.mk (below_step (by repeat (first | (with_reducible first | exact HB.out | apply below_alloc | apply pw_below_drewN | apply below_drew1 | refine below_set ?_ GE194.out | refine below_set ?_ GE195.out | refine below_set ?_ GE196.out | refine below_set ?_ GE203.out) | exact HB.out)) hb); clear HO_204000; clear BK194; clear BK195; clear BK196; clear BK203; clear HB; have HO_204000 := n0_; have BK194 := n1_; have BK195 := n2_; have BK196 := n3_; have BK203 := n4_; have HB := n5_; clear n0_ n1_ n2_ n3_ n4_ n5_; (try clear hb); (try clear hb2); (try clear hk); (try clear hi)) | (go_at_call 23; (with_reducible refine (hurdlelaw11_knows.calls  t213 _ A130.out).mono ?_); rintro e w146 ⟨rfl, hb⟩; have n0_ := Aside0.mk (Kd.N_below (by (with_reducible repeat (first | apply Kd.N_alloc | apply Kd.N_drewN | apply Kd.N_drew)); exact HO_204000.out) hb); have n1_ := Aside0.mk (blk_below (g := gb194) (o := .cells #[.slice A0_0 l0_0.length c0_0, .int .u32 a0_1] 25 (0, 0)) (by (with_reducible repeat (first | refine blk_drewN ?_ _ | refine blk_drew ?_ | refine blk_alloc ?_ _)); exact BK194.out) hb); have n2_ := Aside0.mk (blk_below (g := gb195) (o := .cells #[.int .u32 a1_0, .int .u32 a1_1, .slice A1_2 l1_2.length c1_2, .int .u32 a1_3] 40 (0, 0)) (by (with_reducible repeat (first | refine blk_drewN ?_ _ | refine blk_drew ?_ | refine blk_alloc ?_ _)); exact BK195.out) hb); have n3_ := Aside0.mk (blk_below (g := gb196) (o := .cells #[.int .u32 a2_0, .int .u32 a2_1, .int .u64 a2_2, .int .u64 a2_3, .int .u64 a2_4, .int .u64 a2_5, .int .u64 a2_6, .int .u64 a2_7, .int .u64 a2_8] 44 (0, 0)) (by (with_reducible repeat (first | refine blk_drewN ?_ _ | refine blk_drew ?_ | refine blk_alloc ?_ _)); exact BK196.out) hb); have n4_ := Aside0.mk (blk_below (g := gb203) (o := .cells #[.slice Ao29 t199.length co29, .int .u32 t202] 25 (0, 0)) (by (with_reducible repeat (first | refine blk_drewN ?_ _ | refine blk_drew ?_ | refine blk_alloc ?_ _)); exact BK203.out) hb); have n5_ := Aside0.mk (below_step (by repeat (first | (with_reducible first | exact HB.out | apply below_alloc | apply pw_below_drewN | apply below_drew1 | refine below_set ?_ GE194.out | refine below_set ?_ GE195.out | refine below_set ?_ GE196.out | refine below_set ?_ GE203.out) | exact HB.out)) hb); clear HO_204000; clear BK194; clear BK195; clear BK196; clear BK203; clear HB; have HO_204000 := n0_; have BK194 := n1_; have BK195 := n2_; have BK196 := n3_; have BK203 := n4_; have HB := n5_; clear n0_ n1_ n2_ n3_ n4_ n5_; (try clear hb); (try clear hb2); (try clear hk); (try clear hi)))
                  go_ret
                  exact ⟨by first | rfl | (simp [errW_none, errW_some] <;> rfl) | (simp [*, errW_none, errW_some] <;> rfl), by repeat (first | (with_reducible first | exact HB.out | apply below_alloc | apply pw_below_drewN | apply below_drew1 | refine below_set ?_ GE194.out | refine below_set ?_ GE195.out | refine below_set ?_ GE196.out | refine below_set ?_ GE203.out) | exact HB.out)⟩
                · rw [if_neg c129] at H
                  exact absurd ((Option.some.inj H).trans ht) Bool.false_ne_true
              · rw [if_neg c128] at H
                exact absurd ((Option.some.inj H).trans ht) Bool.false_ne_true
            · rw [if_neg c127] at H
              exact absurd ((Option.some.inj H).trans ht) Bool.false_ne_true
end Go.Proofs.Ytekpbgmmogpbdaa.D
set_option linter.unusedVariables false
set_option linter.unusedSimpArgs false
set_option maxRecDepth 100000
namespace Go.Proofs.Ytekpbgmmogpbdaa.H
open Go.RowKit Go.Proofs.YtekpbgmmogpbdaaW.PrintWords Go.ChangeShapes Go.WideShapes
section
variable {H : Type} {enc : TypeId × Value → H} {P : Program} {w : World} {base : Nat} {spare : Nat → Bool} {held : Bool} {fuel : Nat} {t : TypeId} {cs : List Value} {x : DataW H × List MemPlace}
theorem trod_arr_ints {n : Nat} {e : TypeId} {k : IntKind} (ht : P.underlying t = some (.array n e)) (he : P.underlying e = some (.int k)) (hc : P.cellsOf e = 1) (hct : P.cellsOf t = n)
    (h : DataW.trod enc P w base spare held fuel t cs = some x) :
    ∃ xs : List Int, xs.length = n ∧ cs = nums k xs ∧ x.2 = [] ∧ ∀ i, i < n → (Lit.int k (xs.getD i 0)).wf = true := by
  obtain ⟨ys, m, _, rfl, hl, hly, hf⟩ := DataW.trod_array ht h
  rw [hct] at hl
  have key : ∀ i, i < n → ∃ z y, cs[i]? = some (.int k z) ∧ ys[i]? = some y ∧ y.2 = [] ∧ (Lit.int k z).wf = true := by
    intro i hi
    have h1 := hf i hi
    rw [hc, Nat.mul_one, List.getElem?_eq_getElem (show i < ys.length by omega)] at h1
    obtain ⟨z, h2, h3, h4⟩ := DataW.trod_int he h1
    refine ⟨z, ys[i]'(by omega), ?_, List.getElem?_eq_getElem (by omega), by rw [h3], h4⟩
    have h5 : (cs.drop i).take 1 = [cs[i]'(by omega)] := by
      rw [List.take_one, List.head?_drop, List.getElem?_eq_getElem (show i < cs.length by omega)]
      rfl
    rw [h5] at h2
    rw [List.getElem?_eq_getElem (show i < cs.length by omega)]
    simpa using h2
  refine ⟨cs.map intOf, by simpa using hl, ?_, ?_, ?_⟩
  · apply List.ext_getElem?
    intro i
    by_cases hi : i < n
    · obtain ⟨z, y, h1, _⟩ := key i hi
      simp [nums, h1, intOf]
    · rw [List.getElem?_eq_none (by omega), List.getElem?_eq_none (by simp [nums]; omega)]
  · show ys.flatMap (·.2) = []
    rw [List.flatMap_eq_nil_iff]
    intro y hy
    obtain ⟨i, hi, rfl⟩ := List.mem_iff_getElem.1 hy
    obtain ⟨z, y, _, h2, h3, _⟩ := key i (by omega)
    rw [List.getElem?_eq_getElem hi] at h2
    cases h2
    exact h3
  · intro i hi
    obtain ⟨z, y, h1, _, _, h4⟩ := key i hi
    rw [show (cs.map intOf).getD i 0 = z by simp [List.getD_eq_getElem?_getD, h1, intOf]]
    exact h4
end
end Go.Proofs.Ytekpbgmmogpbdaa.H
set_option linter.unusedVariables false
set_option linter.unusedSimpArgs false
set_option maxRecDepth 100000
namespace Go.Proofs.Ytekpbgmmogpbdaa.H
open Go.RowKit Go.Proofs.Ytekpbgmmogpbdaa.P Go.Proofs.YtekpbgmmogpbdaaW.PrintWords Go.ChangeShapes Go.WideShapes
section
variable {H : Type} {enc : TypeId × Value → H} {w : World} {base : Nat} {spare : Nat → Bool} {held : Bool} {fuel : Nat} {x : DataW H × List MemPlace}
theorem open_kd {α : Type} (d : Kd α) (Q : α → Prop) {t e : TypeId} (ht : Try.prog.underlying t = some (.slice e)) (hs : Try.prog.cellsOf e = d.sz) {cs : List Value}
    (el : ∀ (n : Nat) (cs : List Value) (x : DataW H × List MemPlace), cs.length = d.sz → DataW.trod enc Try.prog w base spare held n e cs = some x → ∃ a : α, d.K w a cs ∧ Q a)
    (h : DataW.trod enc Try.prog w base spare held fuel t cs = some x) :
    ∃ A c L, cs = [.slice A L.length c] ∧ L.length ≤ c ∧ d.C w A L.length L ∧ ∀ a ∈ L, Q a := by
  rcases DataW.trod_slice ht h with ⟨rfl, _⟩ | ⟨a, len, cap, elems, rest, n, _, rfl, _, hb, hl, hm, hlen, hel, _⟩
  · exact ⟨none, 0, [], rfl, Nat.le_refl _, ⟨rfl, by simp, fun h => absurd h (by simp)⟩, by simp⟩
  · have key : ∀ i, i < len → ∃ cs', w.cells? base (a.add (i * d.sz)) d.sz = some cs' ∧ ∃ z : α, d.K w z cs' ∧ Q z := by
      intro i hi
      have h1 := hel i hi
      rw [hs, List.getElem?_eq_getElem (show i < elems.length by omega)] at h1
      obtain ⟨cs', h2, h3⟩ := Option.bind_eq_some_iff.1 h1
      exact ⟨cs', h2, el n cs' _ (World.cells?_some h2).2.1 h3⟩
    have : ∃ L : List α, L.length = len ∧ ∀ i (hi : i < L.length), ∃ cs', w.cells? base (a.add (i * d.sz)) d.sz = some cs' ∧ d.K w L[i] cs' ∧ Q L[i] := by
      have : ∀ m, m ≤ len → ∃ L : List α, L.length = m ∧ ∀ i (hi : i < L.length), ∃ cs', w.cells? base (a.add (i * d.sz)) d.sz = some cs' ∧ d.K w L[i] cs' ∧ Q L[i] := by
        intro m
        induction m with
        | zero => intro _; exact ⟨[], rfl, fun i hi => absurd hi (by simp)⟩
        | succ m ih =>
          intro hm
          obtain ⟨L, hL, hp⟩ := ih (by omega)
          obtain ⟨cs', h1, z, h2, h3⟩ := key m (by omega)
          refine ⟨L ++ [z], by simp [hL], fun i hi => ?_⟩
          by_cases hlt : i < L.length
          · obtain ⟨c2, g1, g2, g3⟩ := hp i hlt
            exact ⟨c2, g1, by rw [List.getElem_append_left hlt]; exact g2, by rw [List.getElem_append_left hlt]; exact g3⟩
          · have e : i = m := by simp at hi; omega
            subst e
            have hz : (L ++ [z])[i] = z := by rw [List.getElem_append_right (by omega)]; simp [hL]
            exact ⟨cs', h1, by rw [hz]; exact h2, by rw [hz]; exact h3⟩
      exact this len (Nat.le_refl _)
    obtain ⟨L, hL, hp⟩ := this
    subst hL
    refine ⟨some a, cap, L, rfl, hl, ⟨rfl, ?_, fun _ => ⟨a, rfl, fun j p hj => ?_⟩⟩, fun z hz => ?_⟩
    · unfold maxLen at hm; omega
    · obtain ⟨hlt, rfl⟩ := List.getElem?_eq_some_iff.1 hj
      obtain ⟨cs', h1, h2, h3⟩ := hp j hlt
      obtain ⟨_, h5, h6⟩ := World.cells?_some h1
      refine ⟨cs', h5, h2, fun i u hu => ?_⟩
      have hi : i < d.sz := by rw [← h5]; exact (List.getElem?_eq_some_iff.1 hu).1
      have := h6 i hi
      rw [hu] at this
      rw [← Go.Proofs.YtekpbgmmogpbdaaW.PrintWords.add_add]
      exact this
    · obtain ⟨i, hi, rfl⟩ := List.mem_iff_getElem.1 hz
      obtain ⟨_, _, _, h⟩ := hp i hi
      exact h
theorem wf32 {n : Int} (h : (Lit.int .u32 n).wf = true) : u32P n := by have := bounds_u32 h; unfold u32P; omega
theorem wf64 {n : Int} (h : (Lit.int .u64 n).wf = true) : u64P n := by have := bounds_u64 h; unfold u64P; omega
theorem el_cond (n : Nat) (cs : List Value) (x : DataW H × List MemPlace) (hl : cs.length = 4) (h : DataW.trod enc Try.prog w base spare held n 61 cs = some x) : ∃ a : S61, k61.K w a cs ∧ condK a := by
  obtain ⟨xs, m, _, hx, hl2, hlx, hfi⟩ := DataW.trod_struct Try.underlying61 h
  have h1 : Try.prog.cellsOf 3 = 1 := by kernel_rfl
  have h2 : Try.prog.cellsOf 41 = 1 := by kernel_rfl
  match cs, hl with
  | [c0, c1, c2, c3], _ =>
    match xs, hlx with
    | [y0, y1, y2, y3], _ =>
      have f0 : DataW.trod enc Try.prog w base spare held m 3 ((List.drop 0 [c0, c1, c2, c3]).take (Try.prog.cellsOf 3)) = some y0 := hfi 0 _ rfl
      have f1 : DataW.trod enc Try.prog w base spare held m 3 ((List.drop 1 [c0, c1, c2, c3]).take (Try.prog.cellsOf 3)) = some y1 := hfi 1 _ rfl
      have f2 : DataW.trod enc Try.prog w base spare held m 41 ((List.drop 2 [c0, c1, c2, c3]).take (Try.prog.cellsOf 41)) = some y2 := hfi 2 _ rfl
      have f3 : DataW.trod enc Try.prog w base spare held m 41 ((List.drop 3 [c0, c1, c2, c3]).take (Try.prog.cellsOf 41)) = some y3 := hfi 3 _ rfl
      simp only [h1, h2, Value.cells, List.drop_zero, List.drop_succ_cons, List.take_succ_cons, List.take_zero] at f0 f1 f2 f3
      obtain ⟨x0, e0, g0, w0⟩ := DataW.trod_int Try.underlying3 f0
      obtain ⟨x1, e1, g1, w1⟩ := DataW.trod_int Try.underlying3 f1
      obtain ⟨x2, e2, g2, w2⟩ := DataW.trod_int Try.underlying41 f2
      obtain ⟨x3, e3, g3, w3⟩ := DataW.trod_int Try.underlying41 f3
      simp only [List.cons.injEq, and_true] at e0 e1 e2 e3
      subst e0 e1 e2 e3
      exact ⟨⟨x0, x1, x2, x3⟩, k61_mk w ⟨x0, x1, x2, x3⟩, wf64 w2, wf64 w3⟩
theorem el_rule (n : Nat) (cs : List Value) (x : DataW H × List MemPlace) (hl : cs.length = 4) (h : DataW.trod enc Try.prog w base spare held n 40 cs = some x) : ∃ a : S40, k40.K w a cs ∧ ruleK a := by
  obtain ⟨xs, m, _, hx, hl2, hlx, hfi⟩ := DataW.trod_struct Try.underlying40 h
  have h1 : Try.prog.cellsOf 23 = 1 := by kernel_rfl
  have h2 : Try.prog.cellsOf 38 = 1 := by kernel_rfl
  match cs, hl with
  | [c0, c1, c2, c3], _ =>
    match xs, hlx with
    | [y0, y1, y2, y3], _ =>
      have f0 : DataW.trod enc Try.prog w base spare held m 23 ((List.drop 0 [c0, c1, c2, c3]).take (Try.prog.cellsOf 23)) = some y0 := hfi 0 _ rfl
      have f1 : DataW.trod enc Try.prog w base spare held m 23 ((List.drop 1 [c0, c1, c2, c3]).take (Try.prog.cellsOf 23)) = some y1 := hfi 1 _ rfl
      have f2 : DataW.trod enc Try.prog w base spare held m 38 ((List.drop 2 [c0, c1, c2, c3]).take (Try.prog.cellsOf 38)) = some y2 := hfi 2 _ rfl
      have f3 : DataW.trod enc Try.prog w base spare held m 23 ((List.drop 3 [c0, c1, c2, c3]).take (Try.prog.cellsOf 23)) = some y3 := hfi 3 _ rfl
      simp only [h1, h2, Value.cells, List.drop_zero, List.drop_succ_cons, List.take_succ_cons, List.take_zero] at f0 f1 f2 f3
      obtain ⟨x0, e0, g0, w0⟩ := DataW.trod_int Try.underlying23 f0
      obtain ⟨x1, e1, g1, w1⟩ := DataW.trod_int Try.underlying23 f1
      obtain ⟨A, c, L, e2, hc, hr, hk⟩ := open_kd k61 condK Try.underlying38 (by kernel_rfl) el_cond f2
      obtain ⟨x3, e3, g3, w3⟩ := DataW.trod_int Try.underlying23 f3
      simp only [List.cons.injEq, and_true] at e0 e1 e2 e3
      subst e0 e1 e2 e3
      exact ⟨⟨x0, x1, L, x3⟩, k40_mk w ⟨x0, x1, L, x3⟩ hc hr, wf32 w0, wf32 w1, wf32 w3, hk⟩
theorem open_policy {r : Reach} {b0 : Nat} {v : Value} {d : DataW H} {ps : List MemPlace} (hval : Value.okWide Try.prog w r b0 25 v) (hd : DataW.Trod enc Try.prog w base spare held 25 v d ps) :
    ∃ (A : Option Addr) (c : Nat) (L : List S40) (df : Int), v = .agg #[.slice A L.length c, .int .u32 df] ∧ L.length ≤ c ∧ k40.C w A L.length L ∧ polK L df := by
  obtain ⟨cs, rfl, hsz⟩ := okWide_struct Try.underlying25 hval
  obtain ⟨fuel, hf⟩ := hd
  obtain ⟨xs, n, _, hx, hl, hlx, hfi⟩ := DataW.trod_struct Try.underlying25 hf
  have h9 : Try.prog.cellsOf 25 = 2 := by kernel_rfl
  have h1 : Try.prog.cellsOf 23 = 1 := by kernel_rfl
  have h2 : Try.prog.cellsOf 22 = 1 := by kernel_rfl
  have hc9 : cs.toList.length = 2 := by simpa [h9] using hsz
  obtain ⟨L, hL⟩ : ∃ L, cs.toList = L := ⟨_, rfl⟩
  have hcs : cs = L.toArray := by rw [← hL]
  rw [hL] at hc9
  subst hcs
  match L, hc9 with
  | [c0, c1], _ =>
    match xs, hlx with
    | [y0, y1], _ =>
      have f0 : DataW.trod enc Try.prog w base spare held n 22 ((List.drop 0 [c0, c1]).take (Try.prog.cellsOf 22)) = some y0 := hfi 0 _ rfl
      have f1 : DataW.trod enc Try.prog w base spare held n 23 ((List.drop 1 [c0, c1]).take (Try.prog.cellsOf 23)) = some y1 := hfi 1 _ rfl
      simp only [h1, h2, Value.cells, List.drop_zero, List.drop_succ_cons, List.take_succ_cons, List.take_zero] at f0 f1
      obtain ⟨A, c, L, e0, hc, hr, hk⟩ := open_kd k40 ruleK Try.underlying22 (by kernel_rfl) el_rule f0
      obtain ⟨df, e1, g1, w1⟩ := DataW.trod_int Try.underlying23 f1
      simp only [List.cons.injEq, and_true] at e0 e1
      subst e0 e1
      exact ⟨A, c, L, df, rfl, hc, hr, hk, wf32 w1⟩
theorem open_rule {r : Reach} {b0 : Nat} {v : Value} {d : DataW H} {ps : List MemPlace} (hval : Value.okWide Try.prog w r b0 40 v) (hd : DataW.Trod enc Try.prog w base spare held 40 v d ps) :
    ∃ (x0 x1 : Int) (A : Option Addr) (c : Nat) (L : List S61) (x3 : Int), v = .agg #[.int .u32 x0, .int .u32 x1, .slice A L.length c, .int .u32 x3] ∧ L.length ≤ c ∧ k61.C w A L.length L ∧ ruleK ⟨x0, x1, L, x3⟩ := by
  obtain ⟨cs, rfl, hsz⟩ := okWide_struct Try.underlying40 hval
  obtain ⟨fuel, hf⟩ := hd
  have h9 : Try.prog.cellsOf 40 = 4 := by kernel_rfl
  obtain ⟨a, ha, hk⟩ := el_rule fuel cs.toList _ (by simpa [h9] using hsz) hf
  obtain ⟨A2, c2, he, hl, hC⟩ := k40_open ha
  refine ⟨a.f0, a.f1, A2, c2, a.f2, a.f3, ?_, hl, hC, hk⟩
  have : cs = #[.int .u32 a.f0, .int .u32 a.f1, .slice A2 a.f2.length c2, .int .u32 a.f3] := by
    apply Array.toList_inj.1; rw [he]
  rw [this]
end
end Go.Proofs.Ytekpbgmmogpbdaa.H
set_option linter.unusedVariables false
set_option linter.unusedSimpArgs false
set_option maxRecDepth 100000
namespace Go.Proofs.Ytekpbgmmogpbdaa.H
open Go.RowKit Go.Proofs.YtekpbgmmogpbdaaW.PrintWords Go.ChangeShapes Go.WideShapes
section
variable {H : Type} {enc : TypeId × Value → H} {w : World} {base : Nat} {spare : Nat → Bool} {held : Bool}
theorem wf_bounds32 {n : Int} (h : (Lit.int .u32 n).wf = true) : 0 ≤ n ∧ n < 4294967296 := by have := bounds_u32 h; omega
theorem wf_bounds64 {n : Int} (h : (Lit.int .u64 n).wf = true) : 0 ≤ n ∧ n < 18446744073709551616 := by have := bounds_u64 h; omega
theorem open_data {r : Reach} {b0 : Nat} {v : Value} {d : DataW H} {ps : List MemPlace} (hval : Value.okWide Try.prog w r b0 44 v) (hd : DataW.Trod enc Try.prog w base spare held 44 v d ps) :
    ∃ x0 x1 x2 x3 x4 x5 x6 x7 x8 : Int, v = .agg #[.int .u32 x0, .int .u32 x1, .int .u64 x2, .int .u64 x3, .int .u64 x4, .int .u64 x5, .int .u64 x6, .int .u64 x7, .int .u64 x8] ∧ ps = [] ∧
      IsDat x0 x1 x2 [x3, x4, x5, x6, x7, x8] := by
  obtain ⟨cs, rfl, hsz⟩ := okWide_struct Try.underlying44 hval
  obtain ⟨fuel, hf⟩ := hd
  obtain ⟨xs, n, _, hx, hl, hlx, hfi⟩ := DataW.trod_struct Try.underlying44 hf
  simp only [Prod.mk.injEq] at hx
  have h9 : Try.prog.cellsOf 44 = 9 := by kernel_rfl
  have h1 : Try.prog.cellsOf 23 = 1 := by kernel_rfl
  have h2 : Try.prog.cellsOf 41 = 1 := by kernel_rfl
  have h6 : Try.prog.cellsOf 42 = 6 := by kernel_rfl
  have hc9 : cs.toList.length = 9 := by simpa [h9] using hsz
  obtain ⟨L, hL⟩ : ∃ L, cs.toList = L := ⟨_, rfl⟩
  have hcs : cs = L.toArray := by rw [← hL]
  rw [hL] at hc9
  subst hcs
  match L, hc9 with
  | [c0, c1, c2, c3, c4, c5, c6, c7, c8], _ =>
    match xs, hlx with
    | [y0, y1, y2, y3], _ =>
      have f0 : DataW.trod enc Try.prog w base spare held n 23 ((List.drop 0 [c0, c1, c2, c3, c4, c5, c6, c7, c8]).take (Try.prog.cellsOf 23)) = some y0 := hfi 0 _ rfl
      have f1 : DataW.trod enc Try.prog w base spare held n 23 ((List.drop 1 [c0, c1, c2, c3, c4, c5, c6, c7, c8]).take (Try.prog.cellsOf 23)) = some y1 := hfi 1 _ rfl
      have f2 : DataW.trod enc Try.prog w base spare held n 41 ((List.drop 2 [c0, c1, c2, c3, c4, c5, c6, c7, c8]).take (Try.prog.cellsOf 41)) = some y2 := hfi 2 _ rfl
      have f3 : DataW.trod enc Try.prog w base spare held n 42 ((List.drop 3 [c0, c1, c2, c3, c4, c5, c6, c7, c8]).take (Try.prog.cellsOf 42)) = some y3 := hfi 3 _ rfl
      simp only [h1, h2, h6, Value.cells, List.drop_zero, List.drop_succ_cons, List.take_succ_cons, List.take_zero, List.getElem?_cons_zero, List.getElem?_cons_succ] at f0 f1 f2 f3
      obtain ⟨x0, e0, g0, w0⟩ := DataW.trod_int Try.underlying23 f0
      obtain ⟨x1, e1, g1, w1⟩ := DataW.trod_int Try.underlying23 f1
      obtain ⟨x2, e2, g2, w2⟩ := DataW.trod_int Try.underlying41 f2
      obtain ⟨zs, hz, e3, g3, w3⟩ := trod_arr_ints Try.underlying42 Try.underlying41 h2 h6 f3
      match zs, hz with
      | [x3, x4, x5, x6, x7, x8], _ =>
        simp only [nums, List.map_cons, List.map_nil, List.cons.injEq, and_true] at e0 e1 e2 e3
        obtain ⟨rfl, rfl, rfl, rfl, rfl, rfl⟩ := e3
        subst e0 e1 e2
        refine ⟨x0, x1, x2, x3, x4, x5, x6, x7, x8, rfl, ?_, ⟨rfl, wf_bounds32 w0, wf_bounds32 w1, wf_bounds64 w2, fun k => by
          by_cases hk : k < 6
          · exact wf_bounds64 (w3 k hk)
          · rw [List.getD_eq_getElem?_getD, List.getElem?_eq_none (by simpa using hk)]; exact ⟨by decide, by decide⟩⟩⟩
        rw [hx.2]
        simp [g0, g1, g2, g3]
end
end Go.Proofs.Ytekpbgmmogpbdaa.H
set_option linter.unusedVariables false
set_option linter.unusedSimpArgs false
set_option maxRecDepth 100000
namespace Go.Proofs.Ytekpbgmmogpbdaa.H
open Go.RowKit Go.Proofs.YtekpbgmmogpbdaaW.PrintWords
open Go.Proofs.Ytekpbgmmogpbdaa.P (S61 S40 k61 k40)
theorem put_f (L : List S40) (df : Int) (i : Nat) (x : S40) (hl : L.length ≤ 1000) (hi : i ≤ L.length) :
    D.hurdlelaw11_put.f L df (i : Int) x.f0 x.f1 x.f2 x.f3 = some (L.take i ++ x :: L.drop i, df) := by
  unfold D.hurdlelaw11_put.f
  simp only [Option.bind_some, Int.toNat_natCast, List.nil_append, List.length_nil, List.length_take, List.length_append, List.length_cons, List.length_drop]
  rw [if_pos (by omega), if_pos (by omega), if_pos (by omega), if_pos (by omega), if_pos (by omega)]
  simp
theorem polOk_small {L : List S40} {df : Int} (h : polOk L df) : small L := ⟨by have := h.1; omega, fun x hx => by have := (h.2.1 x hx).2.2.2.1; omega⟩
theorem great_small {L : List S40} (h : greatB L = false) : small L := by
  obtain ⟨h1, h2⟩ := great_false h
  exact ⟨by omega, fun x hx => by have := h2 x hx; omega⟩
theorem judgeR_of {L : List S40} {df dn da : Int} {ags : List Int} (h : polB L df = true) : judgeR L df dn da ags = (judgeV L df dn da ags, 0) := by unfold judgeR judgeV; rw [if_pos h] <;> cases L.find? (fitX dn da ags) <;> rfl
theorem polK_put {L : List S40} {df : Int} {x : S40} (h : polK L df) (hx : ruleK x) (i : Nat) : polK (L.take i ++ x :: L.drop i) df := ⟨fun y hy => by
  rcases List.mem_append.1 hy with hy | hy
  · exact h.1 y (List.mem_of_mem_take hy)
  · rcases List.mem_cons.1 hy with rfl | hy
    · exact hx
    · exact h.1 y (List.mem_of_mem_drop hy), h.2⟩
theorem Judge_f {L : List S40} {df a0 a1 a2 a3 a4 a5 a6 a7 a8 : Int} (h : polOk L df) (hd : IsDat a0 a1 a2 [a3, a4, a5, a6, a7, a8]) : denote_Judge.f L df a0 a1 a2 a3 a4 a5 a6 a7 a8 = some (judgeV L df a0 a1 [a3, a4, a5, a6, a7, a8], 0) := by
  unfold denote_Judge.f
  rw [if_pos ⟨polOk_K h, polOk_small h, hd⟩, judgeR_of ((polOk_iff (polOk_K h)).2 h)]
theorem Fits_f {x : S40} {a0 a1 a2 a3 a4 a5 a6 a7 a8 : Int} (h : ruleK x) (hd : IsDat a0 a1 a2 [a3, a4, a5, a6, a7, a8]) : denote_Fits.f x.f0 x.f1 x.f2 x.f3 a0 a1 a2 a3 a4 a5 a6 a7 a8 = some (fitX a0 a1 [a3, a4, a5, a6, a7, a8] x) := by
  unfold denote_Fits.f
  rw [if_pos ⟨fun y hy => (h.2.2.2 y hy).1, hd⟩]
  rfl
theorem Right_f {L : List S40} {df : Int} (h : polK L df) : H.hurdleref10_Right.f L df = some (polB L df) := by
  unfold H.hurdleref10_Right.f
  rw [if_pos h]
theorem Great_f {L : List S40} {df : Int} (h : L.length ≤ 9223372036854775807) : H.hurdlelaw10_Great.f L df = some (greatB L) := by
  unfold H.hurdlelaw10_Great.f
  rw [if_pos h]
end Go.Proofs.Ytekpbgmmogpbdaa.H
set_option linter.unusedVariables false
set_option linter.unusedSimpArgs false
set_option maxRecDepth 100000
namespace Go.Proofs.Ytekpbgmmogpbdaa.H
open Go.RowKit Go.Proofs.YtekpbgmmogpbdaaW.PrintWords
open Go.Proofs.Ytekpbgmmogpbdaa.P (S61 S40 k61 k40)
theorem ahead_ev (L : List S40) (df : Int) (x : S40) (a0 a1 a2 a3 a4 a5 a6 a7 a8 : Int) (h : polK L df) (hx : ruleK x) (hd : IsDat a0 a1 a2 [a3, a4, a5, a6, a7, a8]) (hl : L.length ≤ 9223372036854775807) :
    Ev (fun k => D.hurdlelaw11_DenoteAhead.f k L df x.f0 x.f1 x.f2 x.f3 a0 a1 a2 a3 a4 a5 a6 a7 a8) true := by
  unfold D.hurdlelaw11_DenoteAhead.f
  rw [Great_f hl]
  simp only [Option.bind_some]
  by_cases hg : greatB L = true
  · exact Ev_pos hg (Ev.now _)
  · refine Ev_neg hg ?_
    obtain ⟨s1, s2⟩ := great_small (Bool.eq_false_iff.2 hg)
    have hp := put_f L df 0 x s1 (Nat.zero_le _)
    have hK2 : polK (x :: L) df := polK_put h hx 0
    simp only [List.take_zero, List.nil_append, List.drop_zero] at hp
    rw [show ((0 : Nat) : Int) = (0 : Int) from rfl] at hp
    rw [hp]
    simp only [Option.bind_some]
    rw [Right_f h]
    simp only [Option.bind_some]
    have hj : ∀ b : Bool, (b = false → polB L df = true ∧ polB (x :: L) df = true) → Ev (fun k => D.hurdlelaw11_DenoteAhead.j0 k b L df x.f0 x.f1 x.f2 x.f3 a0 a1 a2 a3 a4 a5 a6 a7 a8 (x :: L) df) true := by
      intro b hb
      cases b with
      | true => exact Ev.step (f := fun _ => some true) (fun k => by simp only [D.hurdlelaw11_DenoteAhead.j0, if_true, hurdlelaw11_knows.f, Option.bind_some]) (Ev.now _)
      | false =>
        obtain ⟨b1, b2⟩ := hb rfl
        have o1 := (polOk_iff h).1 b1
        have o2 := (polOk_iff hK2).1 b2
        refine Ev.step (f := fun _ => some true) (fun k => ?_) (Ev.now _)
        simp only [D.hurdlelaw11_DenoteAhead.j0, Bool.false_eq_true, if_false, Judge_f o1 hd, Judge_f o2 hd, Fits_f hx hd, Option.bind_some, hurdlelaw11_knows.f]
        by_cases hf : fitX a0 a1 [a3, a4, a5, a6, a7, a8] x = true
        · rw [if_pos hf, if_pos (by unfold judgeV; rw [List.find?_cons_of_pos hf]), if_pos trivial, if_pos trivial]
        · rw [if_neg hf, if_pos (by unfold judgeV; rw [List.find?_cons_of_neg hf]), if_pos trivial, if_pos trivial]
    by_cases hb1 : polB L df = true
    · refine Ev_pos hb1 ?_
      rw [Right_f hK2]
      simp only [Option.bind_some]
      exact hj _ (fun hb => ⟨hb1, by simpa using hb⟩)
    · exact Ev_neg hb1 (hj true (by simp))
theorem DenoteAhead_row (A : Option Addr) (c : Nat) (L : List S40) (df : Int) (r0 r1 : Int) (A2 : Option Addr) (c2 : Nat) (L2 : List S61) (r3 : Int) (a0 a1 a2 a3 a4 a5 a6 a7 a8 : Int) (W : World) (hc : L.length ≤ c) (hr : k40.C W A L.length L) (hk : polK L df) (hc2 : L2.length ≤ c2) (hr2 : k61.C W A2 L2.length L2) (hk2 : ruleK ⟨r0, r1, L2, r3⟩) (hd : IsDat a0 a1 a2 [a3, a4, a5, a6, a7, a8]) :
    Calls Try.prog 11 #[.agg #[.slice A L.length c, .int .u32 df], .agg #[.int .u32 r0, .int .u32 r1, .slice A2 L2.length c2, .int .u32 r3], .agg #[.int .u32 a0, .int .u32 a1, .int .u64 a2, .int .u64 a3, .int .u64 a4, .int .u64 a5, .int .u64 a6, .int .u64 a7, .int .u64 a8]] W fun e w' => e = .returned (.bool true) ∧ Below W.heap.size W w' := by
  obtain ⟨k, h⟩ := Ev.rounds (ahead_ev L df ⟨r0, r1, L2, r3⟩ a0 a1 a2 a3 a4 a5 a6 a7 a8 hk hk2 hd (C_len hr))
  exact (D.hurdlelaw11_DenoteAhead.calls k A c L df r0 r1 A2 c2 L2 r3 a0 a1 a2 a3 a4 a5 a6 a7 a8 true W hr hc hr2 hc2 h rfl).mono (fun e w' h => h)
end Go.Proofs.Ytekpbgmmogpbdaa.H
namespace Go.Proofs.Ytekpbgmmogpbdaa.denoteAhead
open Go.ChangeShapes Go.WideShapes Go.ChangeAt Go.RowKit
open Go.ChangeMaps (open_string shut_string)
set_option linter.unusedVariables false
theorem laidOut : laidOutB Try.prog = true := by kernel_rfl
theorem own : ownKnob Try.prog.godebug = none := by kernel_rfl
set_option maxRecDepth 100000 in
theorem lifted (os : Os) (started : os.Started) (H : Type) (enc : TypeId × Value → H) :
    ReturnsInHanded {} Try.checked os 11 .any (Rows.denoteAheadSpec.pre6 enc Try.prog Try.f11 Rows.denoteAheadRow.domain false) (Rows.denoteAheadSpec.post enc Try.prog Try.f11 false true false false) := by
  refine returnsInHanded_of_change_sized (C := Try.checked) own started (by kernel_rfl) Try.func11
    (ChangeSpec.witness6 (enc := enc) (C := Try.checked) false ⟨#[], #[.agg #[.slice none 0 0, .int .u32 0], .agg #[.int .u32 0, .int .u32 0, .slice none 0 0, .int .u32 0], .agg #[.int .u32 0, .int .u32 0, .int .u64 0, .int .u64 0, .int .u64 0, .int .u64 0, .int .u64 0, .int .u64 0, .int .u64 0]], []⟩ 8 (by kernel_rfl) (by kernel_rfl) (by kernel_rfl) (by kernel_rfl)) ?_
  intro W base args ds gs before hval0 hW hcnd hsz0 _
  have hsz : (DataW.weightsEach Try.prog (Try.f11.params.toList ++ Rows.denoteAheadSpec.plain.varTypes Try.prog) (ds ++ gs)).all (· ≤ reachBytes) = true := hsz0
  have hval : ∀ (j : Nat) t v, Try.f11.params[j]? = some t → args[j]? = some v → Value.okWide Try.prog W .any base t v := hval0
  have hW' := hW
  obtain ⟨p, q, hA0, hV, rfl, hfz, hnd⟩ := hW
  have hA : DataW.TrodAll enc Try.prog W 0 (fun _ => true) true Try.f11.params.toList args.toList ds p := hA0
  rw [Try.params11] at hA hval hsz
  obtain ⟨v0, vs0, d0, ds0, p0, q0, hargs, rfl, rfl, h0, r0⟩ := trodAll_cons hA
  obtain ⟨v1, vs1, d1, ds1, p1, q1, rfl, rfl, rfl, h1, r1⟩ := trodAll_cons r0
  obtain ⟨v2, vs2, d2, ds2, p2, q2, rfl, rfl, rfl, h2, r2⟩ := trodAll_cons r1
  obtain ⟨rfl, rfl, rfl⟩ := trodAll_nil r2
  obtain rfl : args = #[v0, v1, v2] := by cases args; simp_all
  obtain ⟨rfl, rfl⟩ := trodVars_none hV
  have k0 := h0
  have lt0 : ∀ x ∈ p0, x.block < W.heap.size := by obtain ⟨m, hm⟩ := k0; exact DataW.trod_lt m _ _ _ hm
  obtain ⟨A0, c0, L0, f0, rfl, hc0, hr0, b0⟩ := Go.Proofs.Ytekpbgmmogpbdaa.H.open_policy (hval 0 25 v0 rfl rfl) h0
  have k1 := h1
  have lt1 : ∀ x ∈ p1, x.block < W.heap.size := by obtain ⟨m, hm⟩ := k1; exact DataW.trod_lt m _ _ _ hm
  obtain ⟨r1_0, r1_1, A1, c1, L1, r1_3, rfl, hc1, hr1, b1⟩ := Go.Proofs.Ytekpbgmmogpbdaa.H.open_rule (hval 1 40 v1 rfl rfl) h1
  have k2 := h2
  obtain ⟨a2_0, a2_1, a2_2, a2_3, a2_4, a2_5, a2_6, a2_7, a2_8, rfl, hp2, b2⟩ := Go.Proofs.Ytekpbgmmogpbdaa.H.open_data (hval 2 44 v2 rfl rfl) h2
  have lt2 : ∀ x ∈ p2, x.block < W.heap.size := by rw [hp2]; simp
  clear hA0 hval0 hsz0 hsz
  refine (Go.Proofs.Ytekpbgmmogpbdaa.H.DenoteAhead_row A0 c0 L0 f0 r1_0 r1_1 A1 c1 L1 r1_3 a2_0 a2_1 a2_2 a2_3 a2_4 a2_5 a2_6 a2_7 a2_8 W hc0 hr0 b0 hc1 hr1 b1 b2).mono fun e W' ⟨he, bel⟩ => ?_
  subst he
  exact ⟨_, rfl, _, _, _, [], _, [], hW', trodAll_mk1 (shut_bool Try.underlying4 _), (trodAll_cons_mk (Below.trod laidOut (by kernel_rfl) (of_decide_eq_true (by kernel_rfl)) k0 bel lt0) (trodAll_cons_mk (Below.trod laidOut (by kernel_rfl) (of_decide_eq_true (by kernel_rfl)) k1 bel lt1) (trodAll_cons_mk (Below.trod laidOut (by kernel_rfl) (of_decide_eq_true (by kernel_rfl)) k2 bel lt2) trodAll_mk0))), rfl, bel.frame _, fun h => by cases h⟩
theorem over : Rows.denoteAheadRow.holds Try.pinned (OpenSpec.ofChange Rows.denoteAheadSpec) :=
  OpenClaim.holds_of_wide 11 Try.f11 rfl rfl rfl rfl rfl rfl rfl ⟨rfl, rfl, rfl, rfl, rfl⟩ rfl rfl rfl rfl rfl (by kernel_rfl) Try.func11 (by kernel_rfl)
    (of_decide_eq_true (by kernel_rfl)) (by unfold Func.isWrapper; first | (rw [if_pos (by decide +kernel)]; kernel_rfl) | (rw [if_neg (by decide +kernel)]; exact ⟨rfl, rfl⟩))
    (fun os started H enc _ => lifted os started H enc)
theorem proved : Rows.DenoteAheadSaid := over
#print axioms proved
end Go.Proofs.Ytekpbgmmogpbdaa.denoteAhead
namespace Go.Proofs.Ytekpbgmmogpbdaa
theorem denoteAhead_holds : Rows.DenoteAheadSaid := denoteAhead.proved
end Go.Proofs.Ytekpbgmmogpbdaa
