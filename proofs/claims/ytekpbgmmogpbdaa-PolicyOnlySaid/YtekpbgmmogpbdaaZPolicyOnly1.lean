/- What was read has just that text, and is right (any text of up to 25000 bytes). -/
import Derived.Test.YtekpbgmmogpbdaaRows
import Derived.ProofKit
import Derived.ShutString
import Derived.ChangeOld
import Derived.SizedLaws
import Derived.Test.YtekpbgmmogpbdaaZPolicyOnly0
namespace Go.Proofs.Ytekpbgmmogpbdaa.P
open Go.RowKit Go.Proofs.Ytekpbgmmogpbdaa.H Go.Proofs.YtekpbgmmogpbdaaW.PrintWords Go.Proofs.YtekpbgmmogpbdaaW.PrintLast Go.Proofs.YtekpbgmmogpbdaaW.PrintMore
attribute [local go_sem] max2_int min2_int max_two min_two max_three min_three max_four min_four
set_option linter.unusedVariables false
set_option linter.unusedSimpArgs false
theorem eqA61 (d : Nat) (w : World) (x0 y0 : Int) (x1 y1 : Int) (x2 y2 : Int) (x3 y3 : Int) :
    (Op.equalIn (d + 2) 61 (.agg #[.int .i64 x0, .int .i64 x1, .int .u64 x2, .int .u64 x3]) (.agg #[.int .i64 y0, .int .i64 y1, .int .u64 y2, .int .u64 y3])).run Try.prog w = .ok (x0 == y0 && (x1 == y1 && (x2 == y2 && (x3 == y3)))) w := by
  refine eqA_of Try.underlying61 (by kernel_rfl) ?_
  refine eqf_cons (by rfl) (by go_simp; rfl) (by go_simp; rfl) (by go_simp) ?_
  refine eqf_cons (by rfl) (by go_simp; rfl) (by go_simp; rfl) (by go_simp) ?_
  refine eqf_cons (by rfl) (by go_simp; rfl) (by go_simp; rfl) (by go_simp) ?_
  exact eqf_last (by rfl) (by go_simp; rfl) (by go_simp; rfl) (by go_simp)
end Go.Proofs.Ytekpbgmmogpbdaa.P
namespace Go.Proofs.Ytekpbgmmogpbdaa.P
open Go.RowKit Go.Proofs.Ytekpbgmmogpbdaa.H Go.Proofs.YtekpbgmmogpbdaaW.PrintWords Go.Proofs.YtekpbgmmogpbdaaW.PrintLast Go.Proofs.YtekpbgmmogpbdaaW.PrintMore
attribute [local go_sem] max2_int min2_int max_two min_two max_three min_three max_four min_four
set_option linter.unusedVariables false
set_option linter.unusedSimpArgs false
attribute [local go_sem high] eqA61
mutual
def hurdleref10_SameRule.j0 : Nat → Bool → Int → Int → List (S61) → Int → Int → Int → List (S61) → Int → Option (Bool)
  | 0, _, _, _, _, _, _, _, _, _ => none
  | k + 1, x33, x441000, x441001, x441002, x441003, x442000, x442001, x442002, x442003 => if x33 = true then (some false) else (hurdleref10_SameRule.l0 k 0 x441000 x441001 x441002 x441003 x442000 x442001 x442002 x442003)
def hurdleref10_SameRule.l0 : Nat → Int → Int → Int → List (S61) → Int → Int → Int → List (S61) → Int → Option (Bool)
  | 0, _, _, _, _, _, _, _, _, _ => none
  | k + 1, x5, x441000, x441001, x441002, x441003, x442000, x442001, x442002, x442003 => if x5 < (x441002.length : Int) then (if 0 ≤ x5 then (if x5 < (x442002.length : Int) then (if (!(((rd_T61 x441002 x5).f0) == ((rd_T61 x442002 x5).f0)) || (!(((rd_T61 x441002 x5).f1) == ((rd_T61 x442002 x5).f1)) || (!(((rd_T61 x441002 x5).f2) == ((rd_T61 x442002 x5).f2)) || (!(((rd_T61 x441002 x5).f3) == ((rd_T61 x442002 x5).f3)))))) = true then (some false) else (hurdleref10_SameRule.l0 k (wrap64 (x5 + 1)) x441000 x441001 x441002 x441003 x442000 x442001 x442002 x442003)) else (none)) else (none)) else (some true)
end
def hurdleref10_SameRule.f (k : Nat) (a0_0 : Int) (a0_1 : Int) (l0_2 : List (S61)) (a0_3 : Int) (a1_0 : Int) (a1_1 : Int) (l1_2 : List (S61)) (a1_3 : Int) : Option (Bool) := if a0_0 = a1_0 then (if a0_1 = a1_1 then (if a0_3 = a1_3 then (hurdleref10_SameRule.j0 k ((l0_2.length : Int) != (l1_2.length : Int)) a0_0 a0_1 l0_2 a0_3 a1_0 a1_1 l1_2 a1_3) else (hurdleref10_SameRule.j0 k true a0_0 a0_1 l0_2 a0_3 a1_0 a1_1 l1_2 a1_3)) else (hurdleref10_SameRule.j0 k true a0_0 a0_1 l0_2 a0_3 a1_0 a1_1 l1_2 a1_3)) else (hurdleref10_SameRule.j0 k true a0_0 a0_1 l0_2 a0_3 a1_0 a1_1 l1_2 a1_3)
set_option maxHeartbeats 8000000 in
set_option maxRecDepth 100000 in
theorem hurdleref10_SameRule.calls (k : Nat) (a0_0 : Int) (a0_1 : Int) (A0_2 : Option Addr) (c0_2 : Nat) (l0_2 : List (S61)) (a0_3 : Int) (a1_0 : Int) (a1_1 : Int) (A1_2 : Option Addr) (c1_2 : Nat) (l1_2 : List (S61)) (a1_3 : Int) (r : Bool) (w : World) (hr0_2 : Kd.C k61 w A0_2 l0_2.length l0_2) (hc0_2 : l0_2.length ≤ c0_2) (hr1_2 : Kd.C k61 w A1_2 l1_2.length l1_2) (hc1_2 : l1_2.length ≤ c1_2) (h : hurdleref10_SameRule.f k a0_0 a0_1 l0_2 a0_3 a1_0 a1_1 l1_2 a1_3 = some r) :
    Calls Try.prog 44 #[.agg #[.int .u32 a0_0, .int .u32 a0_1, .slice A0_2 l0_2.length c0_2, .int .u32 a0_3], .agg #[.int .u32 a1_0, .int .u32 a1_1, .slice A1_2 l1_2.length c1_2, .int .u32 a1_3]] w fun e w' => e = .returned (.bool r) ∧ Below w.heap.size w w' := by
  have hu40 := Try.underlying40
  have hu61 := Try.underlying61
  have HR0_2 := Aside0.mk hr0_2
  have HC0_2 := Aside0.mk hc0_2
  clear hr0_2 hc0_2
  have HR1_2 := Aside0.mk hr1_2
  have HC1_2 := Aside0.mk hc1_2
  clear hr1_2 hc1_2
  have HB := Aside0.mk (Below.refl w.heap.size w)
  have H : (if a0_0 = a1_0 then (if a0_1 = a1_1 then (if a0_3 = a1_3 then (hurdleref10_SameRule.j0 k ((l0_2.length : Int) != (l1_2.length : Int)) a0_0 a0_1 l0_2 a0_3 a1_0 a1_1 l1_2 a1_3) else (hurdleref10_SameRule.j0 k true a0_0 a0_1 l0_2 a0_3 a1_0 a1_1 l1_2 a1_3)) else (hurdleref10_SameRule.j0 k true a0_0 a0_1 l0_2 a0_3 a1_0 a1_1 l1_2 a1_3)) else (hurdleref10_SameRule.j0 k true a0_0 a0_1 l0_2 a0_3 a1_0 a1_1 l1_2 a1_3)) = some r := h
  clear h
  have HC3 := Aside0.mk H
  clear H
  go_enter Try.func44, Try.ntmps44
  go_upto_region 1 with (first | ((with_reducible refine gate_dst (N := 2) rfl ?_); (try (refine gate_guard (by rfl) ?_; dsimp only)); refine box_event ?hg (N := 2) ?hd (cs := #[.int .u32 a0_0, .int .u32 a0_1, .slice A0_2 l0_2.length c0_2, .int .u32 a0_3]) (t := 40) ?hr ?_; (case hd => rfl); (case hg => rfl); (case hr => first | (go_simp; done) | (go_simp; rfl)); intro gb440 hg w4 hbox hb; have n0_ := Aside0.mk (below_step (by repeat (first | (with_reducible first | exact HB.out | apply below_alloc | apply pw_below_drewN | apply below_drew1) | exact HB.out)) hb); have n1_ := Aside0.mk (hbox); have n2_ := Aside0.mk ((by rw [hg]; exact (below_size (by repeat (first | (with_reducible first | exact HB.out | apply below_alloc | apply pw_below_drewN | apply below_drew1) | exact HB.out))) : w.heap.size ≤ gb440)); have n3_ := Aside0.mk ((by rw [hg]; exact (below_size (by repeat (first | (with_reducible first | exact HB.out | apply below_alloc | apply pw_below_drewN | apply below_drew1) | exact HB.out))) : w.heap.size ≤ gb440)); clear HB; have HB := n0_; have BK440 := n1_; have GW440 := n2_; have GE440 := n3_; clear n0_ n1_ n2_ n3_; clear hb hbox hg) | ((with_reducible refine gate_dst (N := 3) rfl ?_); (try (refine gate_guard (by rfl) ?_; dsimp only)); refine box_event ?hg (N := 3) ?hd (cs := #[.int .u32 a1_0, .int .u32 a1_1, .slice A1_2 l1_2.length c1_2, .int .u32 a1_3]) (t := 40) ?hr ?_; (case hd => rfl); (case hg => rfl); (case hr => first | (go_simp; done) | (go_simp; rfl)); intro gb441 hg w5 hbox hb; have n0_ := Aside0.mk (blk_below (g := gb440) (o := .cells #[.int .u32 a0_0, .int .u32 a0_1, .slice A0_2 l0_2.length c0_2, .int .u32 a0_3] 40 (0, 0)) (by (with_reducible repeat (first | refine blk_drewN ?_ _ | refine blk_drew ?_ | refine blk_alloc ?_ _)); exact BK440.out) hb); have n1_ := Aside0.mk (below_step (by repeat (first | (with_reducible first | exact HB.out | apply below_alloc | apply pw_below_drewN | apply below_drew1 | refine below_set ?_ GE440.out) | exact HB.out)) hb); have n2_ := Aside0.mk (hbox); have n3_ := Aside0.mk ((by rw [hg]; exact (below_size (by repeat (first | (with_reducible first | exact HB.out | apply below_alloc | apply pw_below_drewN | apply below_drew1 | refine below_set ?_ GE440.out) | exact HB.out))) : w.heap.size ≤ gb441)); have n4_ := Aside0.mk ((by rw [hg]; exact (below_size (by repeat (first | (with_reducible first | exact HB.out | apply below_alloc | apply pw_below_drewN | apply below_drew1 | refine below_set ?_ GE440.out) | exact HB.out))) : w.heap.size ≤ gb441)); have n5_ := Aside0.mk ((by rw [hg]; exact Nat.ne_of_lt (blk_lt (g := gb440) (o := .cells #[.int .u32 a0_0, .int .u32 a0_1, .slice A0_2 l0_2.length c0_2, .int .u32 a0_3] 40 (0, 0)) (by (with_reducible repeat (first | refine blk_drewN ?_ _ | refine blk_drew ?_ | refine blk_alloc ?_ _)); exact BK440.out)) : gb440 ≠ gb441)); have n6_ := Aside0.mk ((by rw [hg]; exact Nat.ne_of_gt (blk_lt (g := gb440) (o := .cells #[.int .u32 a0_0, .int .u32 a0_1, .slice A0_2 l0_2.length c0_2, .int .u32 a0_3] 40 (0, 0)) (by (with_reducible repeat (first | refine blk_drewN ?_ _ | refine blk_drew ?_ | refine blk_alloc ?_ _)); exact BK440.out)) : gb441 ≠ gb440)); clear BK440; clear HB; have BK440 := n0_; have HB := n1_; have BK441 := n2_; have GW441 := n3_; have GE441 := n4_; have NB440_441 := n5_; have NB441_440 := n6_; clear n0_ n1_ n2_ n3_ n4_ n5_ n6_; clear hb hbox hg))
  repeat (go_quiet (first | ((with_reducible refine gate_dst (N := 2) rfl ?_); (try (refine gate_guard (by rfl) ?_; dsimp only)); refine box_event ?hg (N := 2) ?hd (cs := #[.int .u32 a0_0, .int .u32 a0_1, .slice A0_2 l0_2.length c0_2, .int .u32 a0_3]) (t := 40) ?hr ?_; (case hd => rfl); (case hg => rfl); (case hr => first | (go_simp; done) | (go_simp; rfl)); intro gb440 hg w4 hbox hb; have n0_ := Aside0.mk (below_step (by repeat (first | (with_reducible first | exact HB.out | apply below_alloc | apply pw_below_drewN | apply below_drew1) | exact HB.out)) hb); have n1_ := Aside0.mk (hbox); have n2_ := Aside0.mk ((by rw [hg]; exact (below_size (by repeat (first | (with_reducible first | exact HB.out | apply below_alloc | apply pw_below_drewN | apply below_drew1) | exact HB.out))) : w.heap.size ≤ gb440)); have n3_ := Aside0.mk ((by rw [hg]; exact (below_size (by repeat (first | (with_reducible first | exact HB.out | apply below_alloc | apply pw_below_drewN | apply below_drew1) | exact HB.out))) : w.heap.size ≤ gb440)); clear HB; have HB := n0_; have BK440 := n1_; have GW440 := n2_; have GE440 := n3_; clear n0_ n1_ n2_ n3_; clear hb hbox hg) | ((with_reducible refine gate_dst (N := 3) rfl ?_); (try (refine gate_guard (by rfl) ?_; dsimp only)); refine box_event ?hg (N := 3) ?hd (cs := #[.int .u32 a1_0, .int .u32 a1_1, .slice A1_2 l1_2.length c1_2, .int .u32 a1_3]) (t := 40) ?hr ?_; (case hd => rfl); (case hg => rfl); (case hr => first | (go_simp; done) | (go_simp; rfl)); intro gb441 hg w5 hbox hb; have n0_ := Aside0.mk (blk_below (g := gb440) (o := .cells #[.int .u32 a0_0, .int .u32 a0_1, .slice A0_2 l0_2.length c0_2, .int .u32 a0_3] 40 (0, 0)) (by (with_reducible repeat (first | refine blk_drewN ?_ _ | refine blk_drew ?_ | refine blk_alloc ?_ _)); exact BK440.out) hb); have n1_ := Aside0.mk (below_step (by repeat (first | (with_reducible first | exact HB.out | apply below_alloc | apply pw_below_drewN | apply below_drew1 | refine below_set ?_ GE440.out) | exact HB.out)) hb); have n2_ := Aside0.mk (hbox); have n3_ := Aside0.mk ((by rw [hg]; exact (below_size (by repeat (first | (with_reducible first | exact HB.out | apply below_alloc | apply pw_below_drewN | apply below_drew1 | refine below_set ?_ GE440.out) | exact HB.out))) : w.heap.size ≤ gb441)); have n4_ := Aside0.mk ((by rw [hg]; exact (below_size (by repeat (first | (with_reducible first | exact HB.out | apply below_alloc | apply pw_below_drewN | apply below_drew1 | refine below_set ?_ GE440.out) | exact HB.out))) : w.heap.size ≤ gb441)); have n5_ := Aside0.mk ((by rw [hg]; exact Nat.ne_of_lt (blk_lt (g := gb440) (o := .cells #[.int .u32 a0_0, .int .u32 a0_1, .slice A0_2 l0_2.length c0_2, .int .u32 a0_3] 40 (0, 0)) (by (with_reducible repeat (first | refine blk_drewN ?_ _ | refine blk_drew ?_ | refine blk_alloc ?_ _)); exact BK440.out)) : gb440 ≠ gb441)); have n6_ := Aside0.mk ((by rw [hg]; exact Nat.ne_of_gt (blk_lt (g := gb440) (o := .cells #[.int .u32 a0_0, .int .u32 a0_1, .slice A0_2 l0_2.length c0_2, .int .u32 a0_3] 40 (0, 0)) (by (with_reducible repeat (first | refine blk_drewN ?_ _ | refine blk_drew ?_ | refine blk_alloc ?_ _)); exact BK440.out)) : gb441 ≠ gb440)); clear BK440; clear HB; have BK440 := n0_; have HB := n1_; have BK441 := n2_; have GW441 := n3_; have GE441 := n4_; have NB440_441 := n5_; have NB441_440 := n6_; clear n0_ n1_ n2_ n3_ n4_ n5_ n6_; clear hb hbox hg)); go_upto_region 1 with (first | ((with_reducible refine gate_dst (N := 2) rfl ?_); (try (refine gate_guard (by rfl) ?_; dsimp only)); refine box_event ?hg (N := 2) ?hd (cs := #[.int .u32 a0_0, .int .u32 a0_1, .slice A0_2 l0_2.length c0_2, .int .u32 a0_3]) (t := 40) ?hr ?_; (case hd => rfl); (case hg => rfl); (case hr => first | (go_simp; done) | (go_simp; rfl)); intro gb440 hg w4 hbox hb; have n0_ := Aside0.mk (below_step (by repeat (first | (with_reducible first | exact HB.out | apply below_alloc | apply pw_below_drewN | apply below_drew1) | exact HB.out)) hb); have n1_ := Aside0.mk (hbox); have n2_ := Aside0.mk ((by rw [hg]; exact (below_size (by repeat (first | (with_reducible first | exact HB.out | apply below_alloc | apply pw_below_drewN | apply below_drew1) | exact HB.out))) : w.heap.size ≤ gb440)); have n3_ := Aside0.mk ((by rw [hg]; exact (below_size (by repeat (first | (with_reducible first | exact HB.out | apply below_alloc | apply pw_below_drewN | apply below_drew1) | exact HB.out))) : w.heap.size ≤ gb440)); clear HB; have HB := n0_; have BK440 := n1_; have GW440 := n2_; have GE440 := n3_; clear n0_ n1_ n2_ n3_; clear hb hbox hg) | ((with_reducible refine gate_dst (N := 3) rfl ?_); (try (refine gate_guard (by rfl) ?_; dsimp only)); refine box_event ?hg (N := 3) ?hd (cs := #[.int .u32 a1_0, .int .u32 a1_1, .slice A1_2 l1_2.length c1_2, .int .u32 a1_3]) (t := 40) ?hr ?_; (case hd => rfl); (case hg => rfl); (case hr => first | (go_simp; done) | (go_simp; rfl)); intro gb441 hg w5 hbox hb; have n0_ := Aside0.mk (blk_below (g := gb440) (o := .cells #[.int .u32 a0_0, .int .u32 a0_1, .slice A0_2 l0_2.length c0_2, .int .u32 a0_3] 40 (0, 0)) (by (with_reducible repeat (first | refine blk_drewN ?_ _ | refine blk_drew ?_ | refine blk_alloc ?_ _)); exact BK440.out) hb); have n1_ := Aside0.mk (below_step (by repeat (first | (with_reducible first | exact HB.out | apply below_alloc | apply pw_below_drewN | apply below_drew1 | refine below_set ?_ GE440.out) | exact HB.out)) hb); have n2_ := Aside0.mk (hbox); have n3_ := Aside0.mk ((by rw [hg]; exact (below_size (by repeat (first | (with_reducible first | exact HB.out | apply below_alloc | apply pw_below_drewN | apply below_drew1 | refine below_set ?_ GE440.out) | exact HB.out))) : w.heap.size ≤ gb441)); have n4_ := Aside0.mk ((by rw [hg]; exact (below_size (by repeat (first | (with_reducible first | exact HB.out | apply below_alloc | apply pw_below_drewN | apply below_drew1 | refine below_set ?_ GE440.out) | exact HB.out))) : w.heap.size ≤ gb441)); have n5_ := Aside0.mk ((by rw [hg]; exact Nat.ne_of_lt (blk_lt (g := gb440) (o := .cells #[.int .u32 a0_0, .int .u32 a0_1, .slice A0_2 l0_2.length c0_2, .int .u32 a0_3] 40 (0, 0)) (by (with_reducible repeat (first | refine blk_drewN ?_ _ | refine blk_drew ?_ | refine blk_alloc ?_ _)); exact BK440.out)) : gb440 ≠ gb441)); have n6_ := Aside0.mk ((by rw [hg]; exact Nat.ne_of_gt (blk_lt (g := gb440) (o := .cells #[.int .u32 a0_0, .int .u32 a0_1, .slice A0_2 l0_2.length c0_2, .int .u32 a0_3] 40 (0, 0)) (by (with_reducible repeat (first | refine blk_drewN ?_ _ | refine blk_drew ?_ | refine blk_alloc ?_ _)); exact BK440.out)) : gb441 ≠ gb440)); clear BK440; clear HB; have BK440 := n0_; have HB := n1_; have BK441 := n2_; have GW441 := n3_; have GE441 := n4_; have NB440_441 := n5_; have NB441_440 := n6_; clear n0_ n1_ n2_ n3_ n4_ n5_ n6_; clear hb hbox hg)))
  (try simp only [Act.put, List.setIfInBounds_toArray, List.set_cons_zero, List.set_cons_succ])
  go_cut [33] (fun v33 wc => ∃ (kq : Nat) (x33_2 : Bool), v33 = .bool x33_2 ∧ Aside0 (hurdleref10_SameRule.j0 kq x33_2 a0_0 a0_1 l0_2 a0_3 a1_0 a1_1 l1_2 a1_3 = some r) ∧ Aside0 (kq ≤ k) ∧ Aside0 (wc.heap[gb440]? = some (.cells #[.int .u32 a0_0, .int .u32 a0_1, (.slice A0_2 l0_2.length c0_2), .int .u32 a0_3] 40 (0, 0))) ∧ Aside0 (wc.heap[gb441]? = some (.cells #[.int .u32 a1_0, .int .u32 a1_1, (.slice A1_2 l1_2.length c1_2), .int .u32 a1_3] 40 (0, 0))) ∧ Aside0 (Below w.heap.size w wc))
  case first =>
    have H := HC3.out
    clear HC3
    by_cases c6 : a0_0 = a1_0
    · rw [if_pos c6] at H
      have c6b0 : (a0_0 == a1_0) = true := beq_iff_eq.mpr c6
      have c6b1 : (a0_0 != a1_0) = false := bne_eq_false_iff_eq.mpr c6
      clear c6
      (first | rw [c6b0] | (simp only [i64_w, i32_w]; rw [c6b0]) | skip)
      by_cases c7 : a0_1 = a1_1
      · rw [if_pos c7] at H
        have c7b0 : (a0_1 == a1_1) = true := beq_iff_eq.mpr c7
        have c7b1 : (a0_1 != a1_1) = false := bne_eq_false_iff_eq.mpr c7
        clear c7
        by_cases c8 : a0_3 = a1_3
        · rw [if_pos c8] at H
          have c8b0 : (a0_3 == a1_3) = true := beq_iff_eq.mpr c8
          have c8b1 : (a0_3 != a1_3) = false := bne_eq_false_iff_eq.mpr c8
          clear c8
          have H' := Aside0.mk H
          clear H
          have hnb9 := NB440_441.out
          have hnc9 := NB441_440.out
          have hcz10_0 : w5.cell? ⟨gb440, 0, none⟩ = some (.int .u32 a0_0) := (blk_cell BK440.out 0).trans rfl
          have hcz10_1 : w5.cell? ⟨gb440, 1, none⟩ = some (.int .u32 a0_1) := (blk_cell BK440.out 1).trans rfl
          have hcz10_2 : w5.cell? ⟨gb440, 2, none⟩ = some (.slice A0_2 l0_2.length c0_2) := (blk_cell BK440.out 2).trans rfl
          have hcz10_3 : w5.cell? ⟨gb440, 3, none⟩ = some (.int .u32 a0_3) := (blk_cell BK440.out 3).trans rfl
          have hfz10_0 := blk_frozen BK440.out 0
          have hfz10_1 := blk_frozen BK440.out 1
          have hfz10_2 := blk_frozen BK440.out 2
          have hfz10_3 := blk_frozen BK440.out 3
          have hcz11_0 : w5.cell? ⟨gb441, 0, none⟩ = some (.int .u32 a1_0) := (blk_cell BK441.out 0).trans rfl
          have hcz11_1 : w5.cell? ⟨gb441, 1, none⟩ = some (.int .u32 a1_1) := (blk_cell BK441.out 1).trans rfl
          have hcz11_2 : w5.cell? ⟨gb441, 2, none⟩ = some (.slice A1_2 l1_2.length c1_2) := (blk_cell BK441.out 2).trans rfl
          have hcz11_3 : w5.cell? ⟨gb441, 3, none⟩ = some (.int .u32 a1_3) := (blk_cell BK441.out 3).trans rfl
          have hfz11_0 := blk_frozen BK441.out 0
          have hfz11_1 := blk_frozen BK441.out 1
          have hfz11_2 := blk_frozen BK441.out 2
          have hfz11_3 := blk_frozen BK441.out 3
          go_wp2
          repeat (go_quiet (fail); try go_wp2)
          go_meet
          case rel => exact ⟨_, (((l0_2.length : Int) != (l1_2.length : Int))), (by first | rfl | (simp; done) | (simp [*]; done)), H', ⟨by first | omega | exact Nat.le_refl _⟩, ⟨by (with_reducible repeat (first | refine blk_drewN ?_ _ | refine blk_drew ?_ | refine blk_alloc ?_ _)); exact BK440.out⟩, ⟨by (with_reducible repeat (first | refine blk_drewN ?_ _ | refine blk_drew ?_ | refine blk_alloc ?_ _)); exact BK441.out⟩, ⟨by repeat (first | (with_reducible first | exact HB.out | apply below_alloc | apply pw_below_drewN | apply below_drew1 | refine below_set ?_ GE440.out | refine below_set ?_ GE441.out) | exact HB.out)⟩⟩
        · rw [if_neg c8] at H
          have c8b0 : (a0_3 == a1_3) = false := beq_eq_false_iff_ne.mpr c8
          have c8b1 : (a0_3 != a1_3) = true := bne_iff_ne.mpr c8
          have H' := Aside0.mk H
          clear H
          have hnb12 := NB440_441.out
          have hnc12 := NB441_440.out
          have hcz13_0 : w5.cell? ⟨gb440, 0, none⟩ = some (.int .u32 a0_0) := (blk_cell BK440.out 0).trans rfl
          have hcz13_1 : w5.cell? ⟨gb440, 1, none⟩ = some (.int .u32 a0_1) := (blk_cell BK440.out 1).trans rfl
          have hcz13_2 : w5.cell? ⟨gb440, 2, none⟩ = some (.slice A0_2 l0_2.length c0_2) := (blk_cell BK440.out 2).trans rfl
          have hcz13_3 : w5.cell? ⟨gb440, 3, none⟩ = some (.int .u32 a0_3) := (blk_cell BK440.out 3).trans rfl
          have hfz13_0 := blk_frozen BK440.out 0
          have hfz13_1 := blk_frozen BK440.out 1
          have hfz13_2 := blk_frozen BK440.out 2
          have hfz13_3 := blk_frozen BK440.out 3
          have hcz14_0 : w5.cell? ⟨gb441, 0, none⟩ = some (.int .u32 a1_0) := (blk_cell BK441.out 0).trans rfl
          have hcz14_1 : w5.cell? ⟨gb441, 1, none⟩ = some (.int .u32 a1_1) := (blk_cell BK441.out 1).trans rfl
          have hcz14_2 : w5.cell? ⟨gb441, 2, none⟩ = some (.slice A1_2 l1_2.length c1_2) := (blk_cell BK441.out 2).trans rfl
          have hcz14_3 : w5.cell? ⟨gb441, 3, none⟩ = some (.int .u32 a1_3) := (blk_cell BK441.out 3).trans rfl
          have hfz14_0 := blk_frozen BK441.out 0
          have hfz14_1 := blk_frozen BK441.out 1
          have hfz14_2 := blk_frozen BK441.out 2
          have hfz14_3 := blk_frozen BK441.out 3
          go_wp2
          repeat (go_quiet (fail); try go_wp2)
          go_meet
          case rel => exact ⟨_, (true), (by first | rfl | (simp; done) | (simp [*]; done)), H', ⟨by first | omega | exact Nat.le_refl _⟩, ⟨by (with_reducible repeat (first | refine blk_drewN ?_ _ | refine blk_drew ?_ | refine blk_alloc ?_ _)); exact BK440.out⟩, ⟨by (with_reducible repeat (first | refine blk_drewN ?_ _ | refine blk_drew ?_ | refine blk_alloc ?_ _)); exact BK441.out⟩, ⟨by repeat (first | (with_reducible first | exact HB.out | apply below_alloc | apply pw_below_drewN | apply below_drew1 | refine below_set ?_ GE440.out | refine below_set ?_ GE441.out) | exact HB.out)⟩⟩
      · rw [if_neg c7] at H
        have c7b0 : (a0_1 == a1_1) = false := beq_eq_false_iff_ne.mpr c7
        have c7b1 : (a0_1 != a1_1) = true := bne_iff_ne.mpr c7
        have H' := Aside0.mk H
        clear H
        have hnb15 := NB440_441.out
        have hnc15 := NB441_440.out
        have hcz16_0 : w5.cell? ⟨gb440, 0, none⟩ = some (.int .u32 a0_0) := (blk_cell BK440.out 0).trans rfl
        have hcz16_1 : w5.cell? ⟨gb440, 1, none⟩ = some (.int .u32 a0_1) := (blk_cell BK440.out 1).trans rfl
        have hcz16_2 : w5.cell? ⟨gb440, 2, none⟩ = some (.slice A0_2 l0_2.length c0_2) := (blk_cell BK440.out 2).trans rfl
        have hcz16_3 : w5.cell? ⟨gb440, 3, none⟩ = some (.int .u32 a0_3) := (blk_cell BK440.out 3).trans rfl
        have hfz16_0 := blk_frozen BK440.out 0
        have hfz16_1 := blk_frozen BK440.out 1
        have hfz16_2 := blk_frozen BK440.out 2
        have hfz16_3 := blk_frozen BK440.out 3
        have hcz17_0 : w5.cell? ⟨gb441, 0, none⟩ = some (.int .u32 a1_0) := (blk_cell BK441.out 0).trans rfl
        have hcz17_1 : w5.cell? ⟨gb441, 1, none⟩ = some (.int .u32 a1_1) := (blk_cell BK441.out 1).trans rfl
        have hcz17_2 : w5.cell? ⟨gb441, 2, none⟩ = some (.slice A1_2 l1_2.length c1_2) := (blk_cell BK441.out 2).trans rfl
        have hcz17_3 : w5.cell? ⟨gb441, 3, none⟩ = some (.int .u32 a1_3) := (blk_cell BK441.out 3).trans rfl
        have hfz17_0 := blk_frozen BK441.out 0
        have hfz17_1 := blk_frozen BK441.out 1
        have hfz17_2 := blk_frozen BK441.out 2
        have hfz17_3 := blk_frozen BK441.out 3
        go_wp2
        repeat (go_quiet (fail); try go_wp2)
        go_meet
        case rel => exact ⟨_, (true), (by first | rfl | (simp; done) | (simp [*]; done)), H', ⟨by first | omega | exact Nat.le_refl _⟩, ⟨by (with_reducible repeat (first | refine blk_drewN ?_ _ | refine blk_drew ?_ | refine blk_alloc ?_ _)); exact BK440.out⟩, ⟨by (with_reducible repeat (first | refine blk_drewN ?_ _ | refine blk_drew ?_ | refine blk_alloc ?_ _)); exact BK441.out⟩, ⟨by repeat (first | (with_reducible first | exact HB.out | apply below_alloc | apply pw_below_drewN | apply below_drew1 | refine below_set ?_ GE440.out | refine below_set ?_ GE441.out) | exact HB.out)⟩⟩
    · rw [if_neg c6] at H
      have c6b0 : (a0_0 == a1_0) = false := beq_eq_false_iff_ne.mpr c6
      have c6b1 : (a0_0 != a1_0) = true := bne_iff_ne.mpr c6
      (first | rw [c6b0] | (simp only [i64_w, i32_w]; rw [c6b0]) | skip)
      have H' := Aside0.mk H
      clear H
      have hnb18 := NB440_441.out
      have hnc18 := NB441_440.out
      have hcz19_0 : w5.cell? ⟨gb440, 0, none⟩ = some (.int .u32 a0_0) := (blk_cell BK440.out 0).trans rfl
      have hcz19_1 : w5.cell? ⟨gb440, 1, none⟩ = some (.int .u32 a0_1) := (blk_cell BK440.out 1).trans rfl
      have hcz19_2 : w5.cell? ⟨gb440, 2, none⟩ = some (.slice A0_2 l0_2.length c0_2) := (blk_cell BK440.out 2).trans rfl
      have hcz19_3 : w5.cell? ⟨gb440, 3, none⟩ = some (.int .u32 a0_3) := (blk_cell BK440.out 3).trans rfl
      have hfz19_0 := blk_frozen BK440.out 0
      have hfz19_1 := blk_frozen BK440.out 1
      have hfz19_2 := blk_frozen BK440.out 2
      have hfz19_3 := blk_frozen BK440.out 3
      have hcz20_0 : w5.cell? ⟨gb441, 0, none⟩ = some (.int .u32 a1_0) := (blk_cell BK441.out 0).trans rfl
      have hcz20_1 : w5.cell? ⟨gb441, 1, none⟩ = some (.int .u32 a1_1) := (blk_cell BK441.out 1).trans rfl
      have hcz20_2 : w5.cell? ⟨gb441, 2, none⟩ = some (.slice A1_2 l1_2.length c1_2) := (blk_cell BK441.out 2).trans rfl
      have hcz20_3 : w5.cell? ⟨gb441, 3, none⟩ = some (.int .u32 a1_3) := (blk_cell BK441.out 3).trans rfl
      have hfz20_0 := blk_frozen BK441.out 0
      have hfz20_1 := blk_frozen BK441.out 1
      have hfz20_2 := blk_frozen BK441.out 2
      have hfz20_3 := blk_frozen BK441.out 3
      go_wp2
      repeat (go_quiet (fail); try go_wp2)
      go_meet
      case rel => exact ⟨_, (true), (by first | rfl | (simp; done) | (simp [*]; done)), H', ⟨by first | omega | exact Nat.le_refl _⟩, ⟨by (with_reducible repeat (first | refine blk_drewN ?_ _ | refine blk_drew ?_ | refine blk_alloc ?_ _)); exact BK440.out⟩, ⟨by (with_reducible repeat (first | refine blk_drewN ?_ _ | refine blk_drew ?_ | refine blk_alloc ?_ _)); exact BK441.out⟩, ⟨by repeat (first | (with_reducible first | exact HB.out | apply below_alloc | apply pw_below_drewN | apply below_drew1 | refine below_set ?_ GE440.out | refine below_set ?_ GE441.out) | exact HB.out)⟩⟩
  case rest =>
    clear HC3
    try clear c1
    try clear p2
    try clear c4
    try clear c6
    try clear c6b0
    try clear c6b1
    try clear c7
    try clear c7b0
    try clear c7b1
    try clear c8
    try clear c8b0
    try clear c8b1
    try clear c9
    try clear c12
    try clear c15
    try clear c18
    try clear hcz10_0
    try clear hcz10_1
    try clear hcz10_2
    try clear hcz10_3
    try clear hcz11_0
    try clear hcz11_1
    try clear hcz11_2
    try clear hcz11_3
    try clear hcz13_0
    try clear hcz13_1
    try clear hcz13_2
    try clear hcz13_3
    try clear hcz14_0
    try clear hcz14_1
    try clear hcz14_2
    try clear hcz14_3
    try clear hcz16_0
    try clear hcz16_1
    try clear hcz16_2
    try clear hcz16_3
    try clear hcz17_0
    try clear hcz17_1
    try clear hcz17_2
    try clear hcz17_3
    try clear hcz19_0
    try clear hcz19_1
    try clear hcz19_2
    try clear hcz19_3
    try clear hcz20_0
    try clear hcz20_1
    try clear hcz20_2
    try clear hcz20_3
    try clear hfz10_0
    try clear hfz10_1
    try clear hfz10_2
    try clear hfz10_3
    try clear hfz11_0
    try clear hfz11_1
    try clear hfz11_2
    try clear hfz11_3
    try clear hfz13_0
    try clear hfz13_1
    try clear hfz13_2
    try clear hfz13_3
    try clear hfz14_0
    try clear hfz14_1
    try clear hfz14_2
    try clear hfz14_3
    try clear hfz16_0
    try clear hfz16_1
    try clear hfz16_2
    try clear hfz16_3
    try clear hfz17_0
    try clear hfz17_1
    try clear hfz17_2
    try clear hfz17_3
    try clear hfz19_0
    try clear hfz19_1
    try clear hfz19_2
    try clear hfz19_3
    try clear hfz20_0
    try clear hfz20_1
    try clear hfz20_2
    try clear hfz20_3
    obtain ⟨kq, x33_2, rfl, HA, HJ2, BK440, BK441, HB⟩ := hcut
    cases kq with
    | zero => exact absurd HA.out (by simp [hurdleref10_SameRule.j0])
    | succ kj2 =>
      have H := HA.out
      clear HA
      simp only [hurdleref10_SameRule.j0] at H
      by_cases c21 : x33_2 = true
      · subst c21
        have H1 : (some false) = some r := by rw [if_pos rfl] at H; exact H
        clear H
        have H := H1
        clear H1
        obtain rfl := Option.some.inj H
        go_wp2
        repeat (go_quiet (fail); try go_wp2)
        go_ret
        exact ⟨by first | rfl | (simp [errW_none, errW_some] <;> rfl) | (simp [*, errW_none, errW_some] <;> rfl), by repeat (first | (with_reducible first | exact HB.out | apply below_alloc | apply pw_below_drewN | apply below_drew1 | refine below_set ?_ GE440.out | refine below_set ?_ GE441.out) | exact HB.out)⟩
      · replace c21 := Bool.eq_false_iff.mpr c21
        subst c21
        have H1 : (hurdleref10_SameRule.l0 kj2 0 a0_0 a0_1 l0_2 a0_3 a1_0 a1_1 l1_2 a1_3) = some r := by rw [if_neg (show ¬ (false = true) by decide)] at H; exact H
        clear H
        have H := H1
        clear H1
        have H' := Aside0.mk H
        clear H
        go_wp2
        repeat (go_quiet (fail); try go_wp2)
        go_loopg [5] kj2 (fun kq v5 w' => ∃ (x5_2 : Int), v5 = .int .i64 x5_2 ∧ Aside0 (hurdleref10_SameRule.l0 kq x5_2 a0_0 a0_1 l0_2 a0_3 a1_0 a1_1 l1_2 a1_3 = some r) ∧ Aside0 (kq ≤ kj2) ∧ Aside0 (w'.heap[gb440]? = some (.cells #[.int .u32 a0_0, .int .u32 a0_1, (.slice A0_2 l0_2.length c0_2), .int .u32 a0_3] 40 (0, 0))) ∧ Aside0 (w'.heap[gb441]? = some (.cells #[.int .u32 a1_0, .int .u32 a1_1, (.slice A1_2 l1_2.length c1_2), .int .u32 a1_3] 40 (0, 0))) ∧ Aside0 (Below w.heap.size w w'))
        case atStart => exact ⟨(0), (by first | rfl | (simp; done) | (simp [*]; done)), H', ⟨Nat.le_refl _⟩, ⟨by (with_reducible repeat (first | refine blk_drewN ?_ _ | refine blk_drew ?_ | refine blk_alloc ?_ _)); exact BK440.out⟩, ⟨by (with_reducible repeat (first | refine blk_drewN ?_ _ | refine blk_drew ?_ | refine blk_alloc ?_ _)); exact BK441.out⟩, ⟨by repeat (first | (with_reducible first | exact HB.out | apply below_alloc | apply pw_below_drewN | apply below_drew1 | refine below_set ?_ GE440.out | refine below_set ?_ GE441.out) | exact HB.out)⟩⟩
        case round =>
          clear H'
          try clear c1
          try clear c2
          try clear p2
          try clear c4
          try clear c6
          try clear c6b0
          try clear c6b1
          try clear c7
          try clear c7b0
          try clear c7b1
          try clear c8
          try clear c8b0
          try clear c8b1
          try clear c9
          try clear c12
          try clear c15
          try clear c18
          try clear c21
          try clear hcz10_0
          try clear hcz10_1
          try clear hcz10_2
          try clear hcz10_3
          try clear hcz11_0
          try clear hcz11_1
          try clear hcz11_2
          try clear hcz11_3
          try clear hcz13_0
          try clear hcz13_1
          try clear hcz13_2
          try clear hcz13_3
          try clear hcz14_0
          try clear hcz14_1
          try clear hcz14_2
          try clear hcz14_3
          try clear hcz16_0
          try clear hcz16_1
          try clear hcz16_2
          try clear hcz16_3
          try clear hcz17_0
          try clear hcz17_1
          try clear hcz17_2
          try clear hcz17_3
          try clear hcz19_0
          try clear hcz19_1
          try clear hcz19_2
          try clear hcz19_3
          try clear hcz20_0
          try clear hcz20_1
          try clear hcz20_2
          try clear hcz20_3
          try clear hfz10_0
          try clear hfz10_1
          try clear hfz10_2
          try clear hfz10_3
          try clear hfz11_0
          try clear hfz11_1
          try clear hfz11_2
          try clear hfz11_3
          try clear hfz13_0
          try clear hfz13_1
          try clear hfz13_2
          try clear hfz13_3
          try clear hfz14_0
          try clear hfz14_1
          try clear hfz14_2
          try clear hfz14_3
          try clear hfz16_0
          try clear hfz16_1
          try clear hfz16_2
          try clear hfz16_3
          try clear hfz17_0
          try clear hfz17_1
          try clear hfz17_2
          try clear hfz17_3
          try clear hfz19_0
          try clear hfz19_1
          try clear hfz19_2
          try clear hfz19_3
          try clear hfz20_0
          try clear hfz20_1
          try clear hfz20_2
          try clear hfz20_3
          try clear p2
          obtain ⟨x5_2, rfl, HA, HK2, BK440, BK441, HB⟩ := hrel
          cases gk with
          | zero => exact absurd HA.out (by simp [hurdleref10_SameRule.l0])
          | succ k2 =>
            have H := HA.out
            clear HA
            simp only [hurdleref10_SameRule.l0] at H
            by_cases c22 : x5_2 < (l0_2.length : Int)
            · rw [if_pos c22] at H
              have c22b0 : decide (x5_2 < (l0_2.length : Int)) = true := decide_eq_true c22
              clear c22
              by_cases c23 : 0 ≤ x5_2
              · rw [if_pos c23] at H
                have c23b0 : decide (0 ≤ x5_2) = true := decide_eq_true c23
                clear c23
                by_cases c24 : x5_2 < (l1_2.length : Int)
                · rw [if_pos c24] at H
                  have c24b0 : decide (x5_2 < (l1_2.length : Int)) = true := decide_eq_true c24
                  clear c24
                  by_cases c25 : (!(((rd_T61 l0_2 x5_2).f0) == ((rd_T61 l1_2 x5_2).f0)) || (!(((rd_T61 l0_2 x5_2).f1) == ((rd_T61 l1_2 x5_2).f1)) || (!(((rd_T61 l0_2 x5_2).f2) == ((rd_T61 l1_2 x5_2).f2)) || (!(((rd_T61 l0_2 x5_2).f3) == ((rd_T61 l1_2 x5_2).f3)))))) = true
                  · rw [if_pos c25] at H
                    have c25b0 : (!(((rd_T61 l0_2 x5_2).f0) == ((rd_T61 l1_2 x5_2).f0)) || (!(((rd_T61 l0_2 x5_2).f1) == ((rd_T61 l1_2 x5_2).f1)) || (!(((rd_T61 l0_2 x5_2).f2) == ((rd_T61 l1_2 x5_2).f2)) || (!(((rd_T61 l0_2 x5_2).f3) == ((rd_T61 l1_2 x5_2).f3)))))) = true := c25
                    clear c25
                    obtain rfl := Option.some.inj H
                    have hnb26 := NB440_441.out
                    have hnc26 := NB441_440.out
                    have hcz27_0 : wr.cell? ⟨gb440, 0, none⟩ = some (.int .u32 a0_0) := (blk_cell BK440.out 0).trans rfl
                    have hcz27_1 : wr.cell? ⟨gb440, 1, none⟩ = some (.int .u32 a0_1) := (blk_cell BK440.out 1).trans rfl
                    have hcz27_2 : wr.cell? ⟨gb440, 2, none⟩ = some (.slice A0_2 l0_2.length c0_2) := (blk_cell BK440.out 2).trans rfl
                    have hcz27_3 : wr.cell? ⟨gb440, 3, none⟩ = some (.int .u32 a0_3) := (blk_cell BK440.out 3).trans rfl
                    have hfz27_0 := blk_frozen BK440.out 0
                    have hfz27_1 := blk_frozen BK440.out 1
                    have hfz27_2 := blk_frozen BK440.out 2
                    have hfz27_3 := blk_frozen BK440.out 3
                    have p442 : 0 ≤ (x5_2 : Int) := of_decide_eq_true (by first | (with_reducible assumption) | assumption)
                    have q442 : x5_2 < (l0_2.length : Int) := of_decide_eq_true (by first | (with_reducible assumption) | assumption)
                    obtain ⟨ad442, e442, hx442_0, hx442_1, hx442_2, hx442_3⟩ := at_T61 HR0_2.out x5_2 p442 q442
                    cases e442
                    replace hx442_0 := (HB.out.cell (World.block_lt_of_cell? w _ hx442_0)).trans hx442_0
                    replace hx442_1 := (HB.out.cell (World.block_lt_of_cell? w _ hx442_1)).trans hx442_1
                    replace hx442_2 := (HB.out.cell (World.block_lt_of_cell? w _ hx442_2)).trans hx442_2
                    replace hx442_3 := (HB.out.cell (World.block_lt_of_cell? w _ hx442_3)).trans hx442_3
                    replace p442 := eq_true p442
                    replace q442 := eq_true q442
                    have hcz28_0 : wr.cell? ⟨gb441, 0, none⟩ = some (.int .u32 a1_0) := (blk_cell BK441.out 0).trans rfl
                    have hcz28_1 : wr.cell? ⟨gb441, 1, none⟩ = some (.int .u32 a1_1) := (blk_cell BK441.out 1).trans rfl
                    have hcz28_2 : wr.cell? ⟨gb441, 2, none⟩ = some (.slice A1_2 l1_2.length c1_2) := (blk_cell BK441.out 2).trans rfl
                    have hcz28_3 : wr.cell? ⟨gb441, 3, none⟩ = some (.int .u32 a1_3) := (blk_cell BK441.out 3).trans rfl
                    have hfz28_0 := blk_frozen BK441.out 0
                    have hfz28_1 := blk_frozen BK441.out 1
                    have hfz28_2 := blk_frozen BK441.out 2
                    have hfz28_3 := blk_frozen BK441.out 3
                    have p443 : 0 ≤ (x5_2 : Int) := of_decide_eq_true (by first | (with_reducible assumption) | assumption)
                    have q443 : x5_2 < (l1_2.length : Int) := of_decide_eq_true (by first | (with_reducible assumption) | assumption)
                    obtain ⟨ad443, e443, hx443_0, hx443_1, hx443_2, hx443_3⟩ := at_T61 HR1_2.out x5_2 p443 q443
                    cases e443
                    replace hx443_0 := (HB.out.cell (World.block_lt_of_cell? w _ hx443_0)).trans hx443_0
                    replace hx443_1 := (HB.out.cell (World.block_lt_of_cell? w _ hx443_1)).trans hx443_1
                    replace hx443_2 := (HB.out.cell (World.block_lt_of_cell? w _ hx443_2)).trans hx443_2
                    replace hx443_3 := (HB.out.cell (World.block_lt_of_cell? w _ hx443_3)).trans hx443_3
                    replace p443 := eq_true p443
                    replace q443 := eq_true q443
                    go_wp2
                    repeat (go_quiet (fail); try go_wp2)
                    go_ret
                    exact ⟨by first | rfl | (simp [errW_none, errW_some] <;> rfl) | (simp [*, errW_none, errW_some] <;> rfl), by repeat (first | (with_reducible first | exact HB.out | apply below_alloc | apply pw_below_drewN | apply below_drew1 | refine below_set ?_ GE440.out | refine below_set ?_ GE441.out) | exact HB.out)⟩
                  · rw [if_neg c25] at H
                    have c25b0 : (!(((rd_T61 l0_2 x5_2).f0) == ((rd_T61 l1_2 x5_2).f0)) || (!(((rd_T61 l0_2 x5_2).f1) == ((rd_T61 l1_2 x5_2).f1)) || (!(((rd_T61 l0_2 x5_2).f2) == ((rd_T61 l1_2 x5_2).f2)) || (!(((rd_T61 l0_2 x5_2).f3) == ((rd_T61 l1_2 x5_2).f3)))))) = false := by simpa using c25
                    clear c25
                    have H' := Aside0.mk H
                    clear H
                    have hnb29 := NB440_441.out
                    have hnc29 := NB441_440.out
                    have hcz30_0 : wr.cell? ⟨gb440, 0, none⟩ = some (.int .u32 a0_0) := (blk_cell BK440.out 0).trans rfl
                    have hcz30_1 : wr.cell? ⟨gb440, 1, none⟩ = some (.int .u32 a0_1) := (blk_cell BK440.out 1).trans rfl
                    have hcz30_2 : wr.cell? ⟨gb440, 2, none⟩ = some (.slice A0_2 l0_2.length c0_2) := (blk_cell BK440.out 2).trans rfl
                    have hcz30_3 : wr.cell? ⟨gb440, 3, none⟩ = some (.int .u32 a0_3) := (blk_cell BK440.out 3).trans rfl
                    have hfz30_0 := blk_frozen BK440.out 0
                    have hfz30_1 := blk_frozen BK440.out 1
                    have hfz30_2 := blk_frozen BK440.out 2
                    have hfz30_3 := blk_frozen BK440.out 3
                    have p442 : 0 ≤ (x5_2 : Int) := of_decide_eq_true (by first | (with_reducible assumption) | assumption)
                    have q442 : x5_2 < (l0_2.length : Int) := of_decide_eq_true (by first | (with_reducible assumption) | assumption)
                    obtain ⟨ad442, e442, hx442_0, hx442_1, hx442_2, hx442_3⟩ := at_T61 HR0_2.out x5_2 p442 q442
                    cases e442
                    replace hx442_0 := (HB.out.cell (World.block_lt_of_cell? w _ hx442_0)).trans hx442_0
                    replace hx442_1 := (HB.out.cell (World.block_lt_of_cell? w _ hx442_1)).trans hx442_1
                    replace hx442_2 := (HB.out.cell (World.block_lt_of_cell? w _ hx442_2)).trans hx442_2
                    replace hx442_3 := (HB.out.cell (World.block_lt_of_cell? w _ hx442_3)).trans hx442_3
                    replace p442 := eq_true p442
                    replace q442 := eq_true q442
                    have hcz31_0 : wr.cell? ⟨gb441, 0, none⟩ = some (.int .u32 a1_0) := (blk_cell BK441.out 0).trans rfl
                    have hcz31_1 : wr.cell? ⟨gb441, 1, none⟩ = some (.int .u32 a1_1) := (blk_cell BK441.out 1).trans rfl
                    have hcz31_2 : wr.cell? ⟨gb441, 2, none⟩ = some (.slice A1_2 l1_2.length c1_2) := (blk_cell BK441.out 2).trans rfl
                    have hcz31_3 : wr.cell? ⟨gb441, 3, none⟩ = some (.int .u32 a1_3) := (blk_cell BK441.out 3).trans rfl
                    have hfz31_0 := blk_frozen BK441.out 0
                    have hfz31_1 := blk_frozen BK441.out 1
                    have hfz31_2 := blk_frozen BK441.out 2
                    have hfz31_3 := blk_frozen BK441.out 3
                    have p443 : 0 ≤ (x5_2 : Int) := of_decide_eq_true (by first | (with_reducible assumption) | assumption)
                    have q443 : x5_2 < (l1_2.length : Int) := of_decide_eq_true (by first | (with_reducible assumption) | assumption)
                    obtain ⟨ad443, e443, hx443_0, hx443_1, hx443_2, hx443_3⟩ := at_T61 HR1_2.out x5_2 p443 q443
                    cases e443
                    replace hx443_0 := (HB.out.cell (World.block_lt_of_cell? w _ hx443_0)).trans hx443_0
                    replace hx443_1 := (HB.out.cell (World.block_lt_of_cell? w _ hx443_1)).trans hx443_1
                    replace hx443_2 := (HB.out.cell (World.block_lt_of_cell? w _ hx443_2)).trans hx443_2
                    replace hx443_3 := (HB.out.cell (World.block_lt_of_cell? w _ hx443_3)).trans hx443_3
                    replace p443 := eq_true p443
                    replace q443 := eq_true q443
                    go_wp2
                    repeat (go_quiet (fail); try go_wp2)
                    go_roundg k2
                    case measure => have := HJ2.out; have := HK2.out; omega
                    case rel => exact ⟨(wrap64 (x5_2 + 1)), (by first | rfl | (simp; done) | (simp [*]; done)), H', ⟨by have := HJ2.out; have := HK2.out; omega⟩, ⟨by (with_reducible repeat (first | refine blk_drewN ?_ _ | refine blk_drew ?_ | refine blk_alloc ?_ _)); exact BK440.out⟩, ⟨by (with_reducible repeat (first | refine blk_drewN ?_ _ | refine blk_drew ?_ | refine blk_alloc ?_ _)); exact BK441.out⟩, ⟨by repeat (first | (with_reducible first | exact HB.out | apply below_alloc | apply pw_below_drewN | apply below_drew1 | refine below_set ?_ GE440.out | refine below_set ?_ GE441.out) | exact HB.out)⟩⟩
                · rw [if_neg c24] at H
                  exact absurd H (by simp)
              · rw [if_neg c23] at H
                exact absurd H (by simp)
            · rw [if_neg c22] at H
              have c22b0 : decide (x5_2 < (l0_2.length : Int)) = false := decide_eq_false c22
              clear c22
              obtain rfl := Option.some.inj H
              have hnb32 := NB440_441.out
              have hnc32 := NB441_440.out
              have hcz33_0 : wr.cell? ⟨gb440, 0, none⟩ = some (.int .u32 a0_0) := (blk_cell BK440.out 0).trans rfl
              have hcz33_1 : wr.cell? ⟨gb440, 1, none⟩ = some (.int .u32 a0_1) := (blk_cell BK440.out 1).trans rfl
              have hcz33_2 : wr.cell? ⟨gb440, 2, none⟩ = some (.slice A0_2 l0_2.length c0_2) := (blk_cell BK440.out 2).trans rfl
              have hcz33_3 : wr.cell? ⟨gb440, 3, none⟩ = some (.int .u32 a0_3) := (blk_cell BK440.out 3).trans rfl
              have hfz33_0 := blk_frozen BK440.out 0
              have hfz33_1 := blk_frozen BK440.out 1
              have hfz33_2 := blk_frozen BK440.out 2
              have hfz33_3 := blk_frozen BK440.out 3
              go_wp2
              repeat (go_quiet (fail); try go_wp2)
              go_ret
              exact ⟨by first | rfl | (simp [errW_none, errW_some] <;> rfl) | (simp [*, errW_none, errW_some] <;> rfl), by repeat (first | (with_reducible first | exact HB.out | apply below_alloc | apply pw_below_drewN | apply below_drew1 | refine below_set ?_ GE440.out | refine below_set ?_ GE441.out) | exact HB.out)⟩
end Go.Proofs.Ytekpbgmmogpbdaa.P
namespace Go.Proofs.Ytekpbgmmogpbdaa.P
open Go.RowKit Go.Proofs.Ytekpbgmmogpbdaa.H Go.Proofs.YtekpbgmmogpbdaaW.PrintWords Go.Proofs.YtekpbgmmogpbdaaW.PrintLast Go.Proofs.YtekpbgmmogpbdaaW.PrintMore
attribute [local go_sem] max2_int min2_int max_two min_two max_three min_three max_four min_four
set_option linter.unusedVariables false
set_option linter.unusedSimpArgs false
mutual
def hurdleref10_Same.j0 : Nat → Bool → List (S40) → Int → List (S40) → Int → Option (Bool)
  | 0, _, _, _, _, _ => none
  | k + 1, x19, x445000, x445001, x446000, x446001 => if x19 = true then (some false) else (hurdleref10_Same.l0 k 0 x445000 x445001 x446000 x446001)
def hurdleref10_Same.l0 : Nat → Int → List (S40) → Int → List (S40) → Int → Option (Bool)
  | 0, _, _, _, _, _ => none
  | k + 1, x5, x445000, x445001, x446000, x446001 => if x5 < (x445000.length : Int) then (if 0 ≤ x5 then (if x5 < (x446000.length : Int) then ((hurdleref10_SameRule.f k ((rd_T40 x445000 x5).f0) ((rd_T40 x445000 x5).f1) ((rd_T40 x445000 x5).f2) ((rd_T40 x445000 x5).f3) ((rd_T40 x446000 x5).f0) ((rd_T40 x446000 x5).f1) ((rd_T40 x446000 x5).f2) ((rd_T40 x446000 x5).f3)).bind fun t448 => (if t448 = true then (hurdleref10_Same.l0 k (wrap64 (x5 + 1)) x445000 x445001 x446000 x446001) else (some false))) else (none)) else (none)) else (some true)
end
def hurdleref10_Same.f (k : Nat) (l0_0 : List (S40)) (a0_1 : Int) (l1_0 : List (S40)) (a1_1 : Int) : Option (Bool) := if a0_1 = a1_1 then (hurdleref10_Same.j0 k ((l0_0.length : Int) != (l1_0.length : Int)) l0_0 a0_1 l1_0 a1_1) else (hurdleref10_Same.j0 k true l0_0 a0_1 l1_0 a1_1)
def hurdleref10_Same.T6 : Bool × List (List Nat × List Nat) := (true, [([], []), ([0], [0]), ([], []), ([1, 2], [1, 2]), ([3], [3]), ([], []), ([5], [5]), ([], []), ([6, 7], [6, 7]), ([8], [8]), ([4, 9], [4, 9]), ([10], [10])])
def hurdleref10_Same.B6 : List Nat := [0, 1, 0, 7, 15, 0, 32, 0, 224, 480, 1023, 2047]
theorem hurdleref10_Same.tab6 : rtab .any (opsOf Try.f22 6) = hurdleref10_Same.T6 := by kernel_rfl
theorem hurdleref10_Same.bits6 : waitsOk hurdleref10_Same.T6.2 hurdleref10_Same.B6 = true := by kernel_rfl
set_option maxHeartbeats 8000000 in
set_option maxRecDepth 100000 in
theorem hurdleref10_Same.calls (k : Nat) (A0_0 : Option Addr) (c0_0 : Nat) (l0_0 : List (S40)) (a0_1 : Int) (A1_0 : Option Addr) (c1_0 : Nat) (l1_0 : List (S40)) (a1_1 : Int) (r : Bool) (w : World) (hr0_0 : Kd.C k40 w A0_0 l0_0.length l0_0) (hc0_0 : l0_0.length ≤ c0_0) (hr1_0 : Kd.C k40 w A1_0 l1_0.length l1_0) (hc1_0 : l1_0.length ≤ c1_0) (h : hurdleref10_Same.f k l0_0 a0_1 l1_0 a1_1 = some r) :
    Calls Try.prog 22 #[.agg #[.slice A0_0 l0_0.length c0_0, .int .u32 a0_1], .agg #[.slice A1_0 l1_0.length c1_0, .int .u32 a1_1]] w fun e w' => e = .returned (.bool r) ∧ Below w.heap.size w w' := by
  have hu25 := Try.underlying25
  have hu40 := Try.underlying40
  have HR0_0 := Aside0.mk hr0_0
  have HC0_0 := Aside0.mk hc0_0
  clear hr0_0 hc0_0
  have HR1_0 := Aside0.mk hr1_0
  have HC1_0 := Aside0.mk hc1_0
  clear hr1_0 hc1_0
  have HB := Aside0.mk (Below.refl w.heap.size w)
  have H : (if a0_1 = a1_1 then (hurdleref10_Same.j0 k ((l0_0.length : Int) != (l1_0.length : Int)) l0_0 a0_1 l1_0 a1_1) else (hurdleref10_Same.j0 k true l0_0 a0_1 l1_0 a1_1)) = some r := h
  clear h
  have HC3 := Aside0.mk H
  clear H
  go_enter Try.func22, Try.ntmps22
  go_upto_region 1 with (first | ((with_reducible refine gate_dst (N := 2) rfl ?_); (try (refine gate_guard (by rfl) ?_; dsimp only)); refine box_event ?hg (N := 2) ?hd (cs := #[.slice A0_0 l0_0.length c0_0, .int .u32 a0_1]) (t := 25) ?hr ?_; (case hd => rfl); (case hg => rfl); (case hr => first | (go_simp; done) | (go_simp; rfl)); intro gb444 hg w4 hbox hb; have n0_ := Aside0.mk (below_step (by repeat (first | (with_reducible first | exact HB.out | apply below_alloc | apply pw_below_drewN | apply below_drew1) | exact HB.out)) hb); have n1_ := Aside0.mk (hbox); have n2_ := Aside0.mk ((by rw [hg]; exact (below_size (by repeat (first | (with_reducible first | exact HB.out | apply below_alloc | apply pw_below_drewN | apply below_drew1) | exact HB.out))) : w.heap.size ≤ gb444)); have n3_ := Aside0.mk ((by rw [hg]; exact (below_size (by repeat (first | (with_reducible first | exact HB.out | apply below_alloc | apply pw_below_drewN | apply below_drew1) | exact HB.out))) : w.heap.size ≤ gb444)); clear HB; have HB := n0_; have BK444 := n1_; have GW444 := n2_; have GE444 := n3_; clear n0_ n1_ n2_ n3_; clear hb hbox hg) | ((with_reducible refine gate_dst (N := 3) rfl ?_); (try (refine gate_guard (by rfl) ?_; dsimp only)); refine box_event ?hg (N := 3) ?hd (cs := #[.slice A1_0 l1_0.length c1_0, .int .u32 a1_1]) (t := 25) ?hr ?_; (case hd => rfl); (case hg => rfl); (case hr => first | (go_simp; done) | (go_simp; rfl)); intro gb445 hg w5 hbox hb; have n0_ := Aside0.mk (blk_below (g := gb444) (o := .cells #[.slice A0_0 l0_0.length c0_0, .int .u32 a0_1] 25 (0, 0)) (by (with_reducible repeat (first | refine blk_drewN ?_ _ | refine blk_drew ?_ | refine blk_alloc ?_ _)); exact BK444.out) hb); have n1_ := Aside0.mk (below_step (by repeat (first | (with_reducible first | exact HB.out | apply below_alloc | apply pw_below_drewN | apply below_drew1 | refine below_set ?_ GE444.out) | exact HB.out)) hb); have n2_ := Aside0.mk (hbox); have n3_ := Aside0.mk ((by rw [hg]; exact (below_size (by repeat (first | (with_reducible first | exact HB.out | apply below_alloc | apply pw_below_drewN | apply below_drew1 | refine below_set ?_ GE444.out) | exact HB.out))) : w.heap.size ≤ gb445)); have n4_ := Aside0.mk ((by rw [hg]; exact (below_size (by repeat (first | (with_reducible first | exact HB.out | apply below_alloc | apply pw_below_drewN | apply below_drew1 | refine below_set ?_ GE444.out) | exact HB.out))) : w.heap.size ≤ gb445)); have n5_ := Aside0.mk ((by rw [hg]; exact Nat.ne_of_lt (blk_lt (g := gb444) (o := .cells #[.slice A0_0 l0_0.length c0_0, .int .u32 a0_1] 25 (0, 0)) (by (with_reducible repeat (first | refine blk_drewN ?_ _ | refine blk_drew ?_ | refine blk_alloc ?_ _)); exact BK444.out)) : gb444 ≠ gb445)); have n6_ := Aside0.mk ((by rw [hg]; exact Nat.ne_of_gt (blk_lt (g := gb444) (o := .cells #[.slice A0_0 l0_0.length c0_0, .int .u32 a0_1] 25 (0, 0)) (by (with_reducible repeat (first | refine blk_drewN ?_ _ | refine blk_drew ?_ | refine blk_alloc ?_ _)); exact BK444.out)) : gb445 ≠ gb444)); clear BK444; clear HB; have BK444 := n0_; have HB := n1_; have BK445 := n2_; have GW445 := n3_; have GE445 := n4_; have NB444_445 := n5_; have NB445_444 := n6_; clear n0_ n1_ n2_ n3_ n4_ n5_ n6_; clear hb hbox hg))
  (try simp only [Act.put, List.setIfInBounds_toArray, List.set_cons_zero, List.set_cons_succ])
  go_cut [19] (fun v19 wc => ∃ (kq : Nat) (x19_2 : Bool), v19 = .bool x19_2 ∧ Aside0 (hurdleref10_Same.j0 kq x19_2 l0_0 a0_1 l1_0 a1_1 = some r) ∧ Aside0 (kq ≤ k) ∧ Aside0 (wc.heap[gb444]? = some (.cells #[(.slice A0_0 l0_0.length c0_0), .int .u32 a0_1] 25 (0, 0))) ∧ Aside0 (wc.heap[gb445]? = some (.cells #[(.slice A1_0 l1_0.length c1_0), .int .u32 a1_1] 25 (0, 0))) ∧ Aside0 (Below w.heap.size w wc))
  case first =>
    have H := HC3.out
    clear HC3
    by_cases c6 : a0_1 = a1_1
    · rw [if_pos c6] at H
      have c6b0 : (a0_1 == a1_1) = true := beq_iff_eq.mpr c6
      have c6b1 : (a0_1 != a1_1) = false := bne_eq_false_iff_eq.mpr c6
      clear c6
      (first | rw [c6b0] | (simp only [i64_w, i32_w]; rw [c6b0]) | skip)
      have H' := Aside0.mk H
      clear H
      have hnb7 := NB444_445.out
      have hnc7 := NB445_444.out
      have hcz8_0 : w5.cell? ⟨gb444, 0, none⟩ = some (.slice A0_0 l0_0.length c0_0) := (blk_cell BK444.out 0).trans rfl
      have hcz8_1 : w5.cell? ⟨gb444, 1, none⟩ = some (.int .u32 a0_1) := (blk_cell BK444.out 1).trans rfl
      have hfz8_0 := blk_frozen BK444.out 0
      have hfz8_1 := blk_frozen BK444.out 1
      have hcz9_0 : w5.cell? ⟨gb445, 0, none⟩ = some (.slice A1_0 l1_0.length c1_0) := (blk_cell BK445.out 0).trans rfl
      have hcz9_1 : w5.cell? ⟨gb445, 1, none⟩ = some (.int .u32 a1_1) := (blk_cell BK445.out 1).trans rfl
      have hfz9_0 := blk_frozen BK445.out 0
      have hfz9_1 := blk_frozen BK445.out 1
      go_wp2
      go_meet
      case rel => exact ⟨_, (((l0_0.length : Int) != (l1_0.length : Int))), (by first | rfl | (simp; done) | (simp [*]; done)), H', ⟨by first | omega | exact Nat.le_refl _⟩, ⟨by (with_reducible repeat (first | refine blk_drewN ?_ _ | refine blk_drew ?_ | refine blk_alloc ?_ _)); exact BK444.out⟩, ⟨by (with_reducible repeat (first | refine blk_drewN ?_ _ | refine blk_drew ?_ | refine blk_alloc ?_ _)); exact BK445.out⟩, ⟨by repeat (first | (with_reducible first | exact HB.out | apply below_alloc | apply pw_below_drewN | apply below_drew1 | refine below_set ?_ GE444.out | refine below_set ?_ GE445.out) | exact HB.out)⟩⟩
    · rw [if_neg c6] at H
      have c6b0 : (a0_1 == a1_1) = false := beq_eq_false_iff_ne.mpr c6
      have c6b1 : (a0_1 != a1_1) = true := bne_iff_ne.mpr c6
      (first | rw [c6b0] | (simp only [i64_w, i32_w]; rw [c6b0]) | skip)
      have H' := Aside0.mk H
      clear H
      have hnb10 := NB444_445.out
      have hnc10 := NB445_444.out
      have hcz11_0 : w5.cell? ⟨gb444, 0, none⟩ = some (.slice A0_0 l0_0.length c0_0) := (blk_cell BK444.out 0).trans rfl
      have hcz11_1 : w5.cell? ⟨gb444, 1, none⟩ = some (.int .u32 a0_1) := (blk_cell BK444.out 1).trans rfl
      have hfz11_0 := blk_frozen BK444.out 0
      have hfz11_1 := blk_frozen BK444.out 1
      have hcz12_0 : w5.cell? ⟨gb445, 0, none⟩ = some (.slice A1_0 l1_0.length c1_0) := (blk_cell BK445.out 0).trans rfl
      have hcz12_1 : w5.cell? ⟨gb445, 1, none⟩ = some (.int .u32 a1_1) := (blk_cell BK445.out 1).trans rfl
      have hfz12_0 := blk_frozen BK445.out 0
      have hfz12_1 := blk_frozen BK445.out 1
      go_wp2
      go_meet
      case rel => exact ⟨_, (true), (by first | rfl | (simp; done) | (simp [*]; done)), H', ⟨by first | omega | exact Nat.le_refl _⟩, ⟨by (with_reducible repeat (first | refine blk_drewN ?_ _ | refine blk_drew ?_ | refine blk_alloc ?_ _)); exact BK444.out⟩, ⟨by (with_reducible repeat (first | refine blk_drewN ?_ _ | refine blk_drew ?_ | refine blk_alloc ?_ _)); exact BK445.out⟩, ⟨by repeat (first | (with_reducible first | exact HB.out | apply below_alloc | apply pw_below_drewN | apply below_drew1 | refine below_set ?_ GE444.out | refine below_set ?_ GE445.out) | exact HB.out)⟩⟩
  case rest =>
    clear HC3
    try clear c1
    try clear c2
    try clear p2
    try clear c6
    try clear c6b0
    try clear c6b1
    try clear c7
    try clear c10
    try clear hcz11_0
    try clear hcz11_1
    try clear hcz12_0
    try clear hcz12_1
    try clear hcz8_0
    try clear hcz8_1
    try clear hcz9_0
    try clear hcz9_1
    try clear hfz11_0
    try clear hfz11_1
    try clear hfz12_0
    try clear hfz12_1
    try clear hfz8_0
    try clear hfz8_1
    try clear hfz9_0
    try clear hfz9_1
    obtain ⟨kq, x19_2, rfl, HA, HJ2, BK444, BK445, HB⟩ := hcut
    cases kq with
    | zero => exact absurd HA.out (by simp [hurdleref10_Same.j0])
    | succ kj2 =>
      have H := HA.out
      clear HA
      simp only [hurdleref10_Same.j0] at H
      by_cases c13 : x19_2 = true
      · subst c13
        have H1 : (some false) = some r := by rw [if_pos rfl] at H; exact H
        clear H
        have H := H1
        clear H1
        obtain rfl := Option.some.inj H
        go_wp2
        go_ret
        exact ⟨by first | rfl | (simp [errW_none, errW_some] <;> rfl) | (simp [*, errW_none, errW_some] <;> rfl), by repeat (first | (with_reducible first | exact HB.out | apply below_alloc | apply pw_below_drewN | apply below_drew1 | refine below_set ?_ GE444.out | refine below_set ?_ GE445.out) | exact HB.out)⟩
      · replace c13 := Bool.eq_false_iff.mpr c13
        subst c13
        have H1 : (hurdleref10_Same.l0 kj2 0 l0_0 a0_1 l1_0 a1_1) = some r := by rw [if_neg (show ¬ (false = true) by decide)] at H; exact H
        clear H
        have H := H1
        clear H1
        have H' := Aside0.mk H
        clear H
        go_wp2
        go_loopg [5] kj2 (fun kq v5 w' => ∃ (x5_2 : Int), v5 = .int .i64 x5_2 ∧ Aside0 (hurdleref10_Same.l0 kq x5_2 l0_0 a0_1 l1_0 a1_1 = some r) ∧ Aside0 (kq ≤ kj2) ∧ Aside0 (w'.heap[gb444]? = some (.cells #[(.slice A0_0 l0_0.length c0_0), .int .u32 a0_1] 25 (0, 0))) ∧ Aside0 (w'.heap[gb445]? = some (.cells #[(.slice A1_0 l1_0.length c1_0), .int .u32 a1_1] 25 (0, 0))) ∧ Aside0 (Below w.heap.size w w'))
        case atStart => exact ⟨(0), (by first | rfl | (simp; done) | (simp [*]; done)), H', ⟨Nat.le_refl _⟩, ⟨by (with_reducible repeat (first | refine blk_drewN ?_ _ | refine blk_drew ?_ | refine blk_alloc ?_ _)); exact BK444.out⟩, ⟨by (with_reducible repeat (first | refine blk_drewN ?_ _ | refine blk_drew ?_ | refine blk_alloc ?_ _)); exact BK445.out⟩, ⟨by repeat (first | (with_reducible first | exact HB.out | apply below_alloc | apply pw_below_drewN | apply below_drew1 | refine below_set ?_ GE444.out | refine below_set ?_ GE445.out) | exact HB.out)⟩⟩
        case round =>
          clear H'
          try clear c1
          try clear c2
          try clear p2
          try clear c6
          try clear c6b0
          try clear c6b1
          try clear c7
          try clear c10
          try clear c13
          try clear hcz11_0
          try clear hcz11_1
          try clear hcz12_0
          try clear hcz12_1
          try clear hcz8_0
          try clear hcz8_1
          try clear hcz9_0
          try clear hcz9_1
          try clear hfz11_0
          try clear hfz11_1
          try clear hfz12_0
          try clear hfz12_1
          try clear hfz8_0
          try clear hfz8_1
          try clear hfz9_0
          try clear hfz9_1
          try clear p2
          obtain ⟨x5_2, rfl, HA, HK2, BK444, BK445, HB⟩ := hrel
          cases gk with
          | zero => exact absurd HA.out (by simp [hurdleref10_Same.l0])
          | succ k2 =>
            have H := HA.out
            clear HA
            simp only [hurdleref10_Same.l0] at H
            by_cases c14 : x5_2 < (l0_0.length : Int)
            · rw [if_pos c14] at H
              have c14b0 : decide (x5_2 < (l0_0.length : Int)) = true := decide_eq_true c14
              clear c14
              by_cases c15 : 0 ≤ x5_2
              · rw [if_pos c15] at H
                have c15b0 : decide (0 ≤ x5_2) = true := decide_eq_true c15
                clear c15
                by_cases c16 : x5_2 < (l1_0.length : Int)
                · rw [if_pos c16] at H
                  have c16b0 : decide (x5_2 < (l1_0.length : Int)) = true := decide_eq_true c16
                  clear c16
                  replace H := Option.bind_eq_some_iff.mp H
                  obtain ⟨t448, A170, H⟩ := H
                  replace H : (if t448 = true then (hurdleref10_Same.l0 k2 (wrap64 (x5_2 + 1)) l0_0 a0_1 l1_0 a1_1) else (some false)) = some r := H
                  have A17 := Aside0.mk A170
                  clear A170
                  by_cases c18 : t448 = true
                  · subst c18
                    have H1 : (hurdleref10_Same.l0 k2 (wrap64 (x5_2 + 1)) l0_0 a0_1 l1_0 a1_1) = some r := by rw [if_pos rfl] at H; exact H
                    clear H
                    have H := H1
                    clear H1
                    have H' := Aside0.mk H
                    clear H
                    have hnb19 := NB444_445.out
                    have hnc19 := NB445_444.out
                    have hcz20_0 : wr.cell? ⟨gb444, 0, none⟩ = some (.slice A0_0 l0_0.length c0_0) := (blk_cell BK444.out 0).trans rfl
                    have hcz20_1 : wr.cell? ⟨gb444, 1, none⟩ = some (.int .u32 a0_1) := (blk_cell BK444.out 1).trans rfl
                    have hfz20_0 := blk_frozen BK444.out 0
                    have hfz20_1 := blk_frozen BK444.out 1
                    try go_wp2
                    have n0_ := Aside0.mk (blk_drew BK444.out)
                    have n1_ := Aside0.mk (blk_drew BK445.out)
                    have n2_ := Aside0.mk (below_drew1 HB.out)
                    clear BK444
                    clear BK445
                    clear HB
                    have BK444 := n0_
                    have BK445 := n1_
                    have HB := n2_
                    clear n0_ n1_ n2_
                    have p446 : 0 ≤ (x5_2 : Int) := of_decide_eq_true (by first | (with_reducible assumption) | assumption)
                    have q446 : x5_2 < (l0_0.length : Int) := of_decide_eq_true (by first | (with_reducible assumption) | assumption)
                    obtain ⟨ad446, A446_2, c446_2, e446, hx446_0, hx446_1, hx446_2, hx446_3, hl446_2, hi446_2⟩ := at_T40 HR0_0.out x5_2 p446 q446
                    have hw446_3 := hx446_3
                    have hw446_2 := hx446_2
                    have hw446_1 := hx446_1
                    have hw446_0 := hx446_0
                    cases e446
                    replace hx446_0 := (HB.out.cell (World.block_lt_of_cell? w _ hx446_0)).trans hx446_0
                    replace hx446_1 := (HB.out.cell (World.block_lt_of_cell? w _ hx446_1)).trans hx446_1
                    replace hx446_2 := (HB.out.cell (World.block_lt_of_cell? w _ hx446_2)).trans hx446_2
                    replace hx446_3 := (HB.out.cell (World.block_lt_of_cell? w _ hx446_3)).trans hx446_3
                    have HR446_2 := Aside0.mk hi446_2
                    have HC446_2 := Aside0.mk hl446_2
                    clear hi446_2 hl446_2
                    replace p446 := eq_true p446
                    replace q446 := eq_true q446
                    have p447 : 0 ≤ (x5_2 : Int) := of_decide_eq_true (by first | (with_reducible assumption) | assumption)
                    have q447 : x5_2 < (l1_0.length : Int) := of_decide_eq_true (by first | (with_reducible assumption) | assumption)
                    obtain ⟨ad447, A447_2, c447_2, e447, hx447_0, hx447_1, hx447_2, hx447_3, hl447_2, hi447_2⟩ := at_T40 HR1_0.out x5_2 p447 q447
                    have hw447_3 := hx447_3
                    have hw447_2 := hx447_2
                    have hw447_1 := hx447_1
                    have hw447_0 := hx447_0
                    cases e447
                    replace hx447_0 := (HB.out.cell (World.block_lt_of_cell? w _ hx447_0)).trans hx447_0
                    replace hx447_1 := (HB.out.cell (World.block_lt_of_cell? w _ hx447_1)).trans hx447_1
                    replace hx447_2 := (HB.out.cell (World.block_lt_of_cell? w _ hx447_2)).trans hx447_2
                    replace hx447_3 := (HB.out.cell (World.block_lt_of_cell? w _ hx447_3)).trans hx447_3
                    have HR447_2 := Aside0.mk hi447_2
                    have HC447_2 := Aside0.mk hl447_2
                    clear hi447_2 hl447_2
                    replace p447 := eq_true p447
                    replace q447 := eq_true q447
                    refine start_ (n := 12) (S := fun w' => w'.cell? ⟨gb444, 0, none⟩ = some (.slice (some ad446) l0_0.length c0_0) ∧ w'.cell? ⟨gb444, 1, none⟩ = some (.int .u32 a0_1) ∧ w'.cell? ⟨gb445, 0, none⟩ = some (.slice (some ad447) l1_0.length c1_0) ∧ w'.cell? ⟨gb445, 1, none⟩ = some (.int .u32 a1_1) ∧ w'.cell? (ad446.add ((x5_2).toNat * 4)) = some (.int .u32 ((rd_T40 l0_0 x5_2).f0)) ∧ w'.cell? ⟨(ad446.add ((x5_2).toNat * 4)).block, (ad446.add ((x5_2).toNat * 4)).off + 1, none⟩ = some (.int .u32 ((rd_T40 l0_0 x5_2).f1)) ∧ w'.cell? ⟨(ad446.add ((x5_2).toNat * 4)).block, (ad446.add ((x5_2).toNat * 4)).off + 2, none⟩ = some (.slice A446_2 ((rd_T40 l0_0 x5_2).f2).length c446_2) ∧ w'.cell? ⟨(ad446.add ((x5_2).toNat * 4)).block, (ad446.add ((x5_2).toNat * 4)).off + 3, none⟩ = some (.int .u32 ((rd_T40 l0_0 x5_2).f3)) ∧ w'.cell? (ad447.add ((x5_2).toNat * 4)) = some (.int .u32 ((rd_T40 l1_0 x5_2).f0)) ∧ w'.cell? ⟨(ad447.add ((x5_2).toNat * 4)).block, (ad447.add ((x5_2).toNat * 4)).off + 1, none⟩ = some (.int .u32 ((rd_T40 l1_0 x5_2).f1)) ∧ w'.cell? ⟨(ad447.add ((x5_2).toNat * 4)).block, (ad447.add ((x5_2).toNat * 4)).off + 2, none⟩ = some (.slice A447_2 ((rd_T40 l1_0 x5_2).f2).length c447_2) ∧ w'.cell? ⟨(ad447.add ((x5_2).toNat * 4)).block, (ad447.add ((x5_2).toNat * 4)).off + 3, none⟩ = some (.int .u32 ((rd_T40 l1_0 x5_2).f3))) (ds := []) #[false, false, false, false, false, false, false, false, false, false, false, false] (by kernel_rfl) rfl rfl ⟨(blk_cell BK444.out 0).trans rfl, (blk_cell BK444.out 1).trans rfl, (blk_cell BK445.out 0).trans rfl, (blk_cell BK445.out 1).trans rfl, ((HB.out.cell (World.block_lt_of_cell? w _ hw446_0)).trans hw446_0), ((HB.out.cell (World.block_lt_of_cell? w _ hw446_1)).trans hw446_1), ((HB.out.cell (World.block_lt_of_cell? w _ hw446_2)).trans hw446_2), ((HB.out.cell (World.block_lt_of_cell? w _ hw446_3)).trans hw446_3), ((HB.out.cell (World.block_lt_of_cell? w _ hw447_0)).trans hw447_0), ((HB.out.cell (World.block_lt_of_cell? w _ hw447_1)).trans hw447_1), ((HB.out.cell (World.block_lt_of_cell? w _ hw447_2)).trans hw447_2), ((HB.out.cell (World.block_lt_of_cell? w _ hw447_3)).trans hw447_3)⟩ (fun hHeld => ?_); refine with_tabW hurdleref10_Same.tab6 hurdleref10_Same.bits6 (fun HT_ HW_ => ?_)
                    generalize wr.drew = w21 at BK444 BK445 HB HR446_2 HR447_2 hx446_0 hx446_1 hx446_2 hx446_3 hx447_0 hx447_1 hx447_2 hx447_3 hHeld ⊢
                    refine pure_ (i := 0) (N := some 27) (v := ?_) (a' := ?_) #[true, false, false, false, false, false, false, false, false, false, false, false] rfl rfl (any_of HT_.out (by kernel_rfl)) (fun _ _ _ h => h) (Or.inl ⟨by rfl, ?_⟩) ?_ ?_
                    rotate_left
                    · intro w'
                      go_simp
                      with_reducible rfl
                    rotate_left
                    · simp only [Act.put, List.setIfInBounds_toArray, List.set_cons_zero, List.set_cons_succ, i64_w, i32_w]
                      rfl
                    refine pure_ (i := 2) (N := some 29) (v := ?_) (a' := ?_) #[true, false, true, false, false, false, false, false, false, false, false, false] rfl rfl (any_of HT_.out (by kernel_rfl)) (fun _ _ _ h => h) (Or.inl ⟨by rfl, ?_⟩) ?_ ?_
                    rotate_left
                    · intro w'
                      go_simp
                      with_reducible rfl
                    rotate_left
                    · simp only [Act.put, List.setIfInBounds_toArray, List.set_cons_zero, List.set_cons_succ, i64_w, i32_w]
                      rfl
                    refine pure_ (i := 5) (N := some 32) (v := ?_) (a' := ?_) #[true, false, true, false, false, true, false, false, false, false, false, false] rfl rfl (any_of HT_.out (by kernel_rfl)) (fun _ _ _ h => h) (Or.inl ⟨by rfl, ?_⟩) ?_ ?_
                    rotate_left
                    · intro w'
                      go_simp
                      with_reducible rfl
                    rotate_left
                    · simp only [Act.put, List.setIfInBounds_toArray, List.set_cons_zero, List.set_cons_succ, i64_w, i32_w]
                      rfl
                    refine pure_ (i := 7) (N := some 34) (v := ?_) (a' := ?_) #[true, false, true, false, false, true, false, true, false, false, false, false] rfl rfl (any_of HT_.out (by kernel_rfl)) (fun _ _ _ h => h) (Or.inl ⟨by rfl, ?_⟩) ?_ ?_
                    rotate_left
                    · intro w'
                      go_simp
                      with_reducible rfl
                    rotate_left
                    · simp only [Act.put, List.setIfInBounds_toArray, List.set_cons_zero, List.set_cons_succ, i64_w, i32_w]
                      rfl
                    refine take_ (i := 1) (N := some 28) (v := ?_) (a' := ?_) #[true, true, true, false, false, true, false, true, false, false, false, false] rfl rfl (take_ofW HT_.out HW_.out (by kernel_rfl)) (fun _ _ _ h => h) (Or.inl ⟨by rfl, ?_⟩) hHeld ?_ ?_
                    rotate_left
                    · rintro w' ⟨s0, s1, s2, s3, s4, s5, s6, s7, s8, s9, s10, s11⟩
                      go_simp
                      with_reducible rfl
                    rotate_left
                    · simp only [Act.put, List.setIfInBounds_toArray, List.set_cons_zero, List.set_cons_succ, i64_w, i32_w]
                      rfl
                    refine pure_ (i := 3) (N := some 30) (v := ?_) (a' := ?_) #[true, true, true, true, false, true, false, true, false, false, false, false] rfl rfl (any_of HT_.out (by kernel_rfl)) (fun _ _ _ h => h) (Or.inl ⟨by rfl, ?_⟩) ?_ ?_
                    rotate_left
                    · intro w'
                      go_simp
                      with_reducible rfl
                    rotate_left
                    · simp only [Act.put, List.setIfInBounds_toArray, List.set_cons_zero, List.set_cons_succ, i64_w, i32_w]
                      rfl
                    refine take_ (i := 4) (N := some 31) (v := ?_) (a' := ?_) #[true, true, true, true, true, true, false, true, false, false, false, false] rfl rfl (take_ofW HT_.out HW_.out (by kernel_rfl)) (fun _ _ _ h => h) (Or.inl ⟨by rfl, ?_⟩) hHeld ?_ ?_
                    rotate_left
                    · rintro w' ⟨s0, s1, s2, s3, s4, s5, s6, s7, s8, s9, s10, s11⟩
                      go_simp
                      with_reducible rfl
                    rotate_left
                    · simp only [Act.put, List.setIfInBounds_toArray, List.set_cons_zero, List.set_cons_succ, i64_w, i32_w]
                      rfl
                    refine take_ (i := 6) (N := some 33) (v := ?_) (a' := ?_) #[true, true, true, true, true, true, true, true, false, false, false, false] rfl rfl (take_ofW HT_.out HW_.out (by kernel_rfl)) (fun _ _ _ h => h) (Or.inl ⟨by rfl, ?_⟩) hHeld ?_ ?_
                    rotate_left
                    · rintro w' ⟨s0, s1, s2, s3, s4, s5, s6, s7, s8, s9, s10, s11⟩
                      go_simp
                      with_reducible rfl
                    rotate_left
                    · simp only [Act.put, List.setIfInBounds_toArray, List.set_cons_zero, List.set_cons_succ, i64_w, i32_w]
                      rfl
                    refine pure_ (i := 8) (N := some 35) (v := ?_) (a' := ?_) #[true, true, true, true, true, true, true, true, true, false, false, false] rfl rfl (any_of HT_.out (by kernel_rfl)) (fun _ _ _ h => h) (Or.inl ⟨by rfl, ?_⟩) ?_ ?_
                    rotate_left
                    · intro w'
                      go_simp
                      with_reducible rfl
                    rotate_left
                    · simp only [Act.put, List.setIfInBounds_toArray, List.set_cons_zero, List.set_cons_succ, i64_w, i32_w]
                      rfl
                    refine take_ (i := 9) (N := some 36) (v := ?_) (a' := ?_) #[true, true, true, true, true, true, true, true, true, true, false, false] rfl rfl (take_ofW HT_.out HW_.out (by kernel_rfl)) (fun _ _ _ h => h) (Or.inl ⟨by rfl, ?_⟩) hHeld ?_ ?_
                    rotate_left
                    · rintro w' ⟨s0, s1, s2, s3, s4, s5, s6, s7, s8, s9, s10, s11⟩
                      go_simp
                      with_reducible rfl
                    rotate_left
                    · simp only [Act.put, List.setIfInBounds_toArray, List.set_cons_zero, List.set_cons_succ, i64_w, i32_w]
                      rfl
                    refine one_ (i := 10) (N := some 37) #[true, true, true, true, true, true, true, true, true, true, true, false] rfl rfl (one_of HT_.out (by kernel_rfl)) (by decide) (fun K hK => ?_)
                    refine goes_ Try.func44 (by kernel_rfl) rfl #[.agg #[.int .u32 ((rd_T40 l0_0 x5_2).f0), .int .u32 ((rd_T40 l0_0 x5_2).f1), .slice A446_2 ((rd_T40 l0_0 x5_2).f2).length c446_2, .int .u32 ((rd_T40 l0_0 x5_2).f3)], .agg #[.int .u32 ((rd_T40 l1_0 x5_2).f0), .int .u32 ((rd_T40 l1_0 x5_2).f1), .slice A447_2 ((rd_T40 l1_0 x5_2).f2).length c447_2, .int .u32 ((rd_T40 l1_0 x5_2).f3)]] (by rfl) rfl rfl (by (try simp only [List.map_toArray, List.map_cons, List.map_nil]); first | done | rfl | (simp only [List.length_drop, List.length_take]; rfl)) ?_
                    with_reducible refine (hurdleref10_SameRule.calls k2 ((rd_T40 l0_0 x5_2).f0) ((rd_T40 l0_0 x5_2).f1) _ _ ((rd_T40 l0_0 x5_2).f2) ((rd_T40 l0_0 x5_2).f3) ((rd_T40 l1_0 x5_2).f0) ((rd_T40 l1_0 x5_2).f1) _ _ ((rd_T40 l1_0 x5_2).f2) ((rd_T40 l1_0 x5_2).f3) true _ ?side1 ?side2 ?side3 ?side4 A17.out).mono ?_
                    (case side1 => repeat (first | exact (Kd.C_below HR446_2.out HB.out) | (with_reducible refine Kd.C_alloc ?_ _) | (with_reducible refine Kd.C_drewN ?_ _) | (with_reducible refine Kd.C_drew ?_)))
                    (case side2 => exact HC446_2.out)
                    (case side3 => repeat (first | exact (Kd.C_below HR447_2.out HB.out) | (with_reducible refine Kd.C_alloc ?_ _) | (with_reducible refine Kd.C_drewN ?_ _) | (with_reducible refine Kd.C_drew ?_)))
                    (case side4 => exact HC447_2.out)
                    rintro e w22 ⟨rfl, hb⟩
                    refine ⟨_, rfl, ?_⟩
                    have n0_ := Aside0.mk (blk_below (g := gb444) (o := .cells #[.slice (some ad446) l0_0.length c0_0, .int .u32 a0_1] 25 (0, 0)) (by (with_reducible repeat (first | refine blk_drewN ?_ _ | refine blk_drew ?_ | refine blk_alloc ?_ _)); exact BK444.out) hb)
                    have n1_ := Aside0.mk (blk_below (g := gb445) (o := .cells #[.slice (some ad447) l1_0.length c1_0, .int .u32 a1_1] 25 (0, 0)) (by (with_reducible repeat (first | refine blk_drewN ?_ _ | refine blk_drew ?_ | refine blk_alloc ?_ _)); exact BK445.out) hb)
                    have n2_ := Aside0.mk (below_step (by repeat (first | (with_reducible first | exact HB.out | apply below_alloc | apply pw_below_drewN | apply below_drew1 | refine below_set ?_ GE444.out | refine below_set ?_ GE445.out) | exact HB.out)) hb)
                    clear BK444
                    clear BK445
                    clear HB
                    have BK444 := n0_
                    have BK445 := n1_
                    have HB := n2_
                    clear n0_ n1_ n2_
                    (try clear hb)
                    (try clear hb2)
                    (try clear hk)
                    (try clear hi)
                    refine hK.out _ _ ⟨(blk_cell BK444.out 0).trans rfl, (blk_cell BK444.out 1).trans rfl, (blk_cell BK445.out 0).trans rfl, (blk_cell BK445.out 1).trans rfl, ((HB.out.cell (World.block_lt_of_cell? w _ hw446_0)).trans hw446_0), ((HB.out.cell (World.block_lt_of_cell? w _ hw446_1)).trans hw446_1), ((HB.out.cell (World.block_lt_of_cell? w _ hw446_2)).trans hw446_2), ((HB.out.cell (World.block_lt_of_cell? w _ hw446_3)).trans hw446_3), ((HB.out.cell (World.block_lt_of_cell? w _ hw447_0)).trans hw447_0), ((HB.out.cell (World.block_lt_of_cell? w _ hw447_1)).trans hw447_1), ((HB.out.cell (World.block_lt_of_cell? w _ hw447_2)).trans hw447_2), ((HB.out.cell (World.block_lt_of_cell? w _ hw447_3)).trans hw447_3)⟩ (fun hHeld => ?_)
                    clear hK K
                    refine norm_ (a' := ?_) ?_ ?_
                    rotate_left
                    · show Act.put _ (some 37) _ = _
                      simp only [Act.put, List.setIfInBounds_toArray, List.set_cons_zero, List.set_cons_succ, i64_w, i32_w]
                      rfl
                    refine pure_ (i := 11) (N := some 38) (v := ?_) (a' := ?_) #[true, true, true, true, true, true, true, true, true, true, true, true] rfl rfl (any_of HT_.out (by kernel_rfl)) (fun _ _ _ h => h) (Or.inl ⟨by rfl, ?_⟩) ?_ ?_
                    rotate_left
                    · intro w'
                      go_simp
                      with_reducible rfl
                    rotate_left
                    · simp only [Act.put, List.setIfInBounds_toArray, List.set_cons_zero, List.set_cons_succ, i64_w, i32_w]
                      rfl
                    refine done_ (done_of HT_.out (by kernel_rfl)) ?_
                    try go_wp2
                    go_roundg k2
                    case measure => have := HJ2.out; have := HK2.out; omega
                    case rel => exact ⟨(wrap64 (x5_2 + 1)), (by first | rfl | (simp; done) | (simp [*]; done)), H', ⟨by have := HJ2.out; have := HK2.out; omega⟩, ⟨by (with_reducible repeat (first | refine blk_drewN ?_ _ | refine blk_drew ?_ | refine blk_alloc ?_ _)); exact BK444.out⟩, ⟨by (with_reducible repeat (first | refine blk_drewN ?_ _ | refine blk_drew ?_ | refine blk_alloc ?_ _)); exact BK445.out⟩, ⟨by repeat (first | (with_reducible first | exact HB.out | apply below_alloc | apply pw_below_drewN | apply below_drew1 | refine below_set ?_ GE444.out | refine below_set ?_ GE445.out) | exact HB.out)⟩⟩
                  · replace c18 := Bool.eq_false_iff.mpr c18
                    subst c18
                    have H1 : (some false) = some r := by rw [if_neg (show ¬ (false = true) by decide)] at H; exact H
                    clear H
                    have H := H1
                    clear H1
                    obtain rfl := Option.some.inj H
                    have hnb23 := NB444_445.out
                    have hnc23 := NB445_444.out
                    have hcz24_0 : wr.cell? ⟨gb444, 0, none⟩ = some (.slice A0_0 l0_0.length c0_0) := (blk_cell BK444.out 0).trans rfl
                    have hcz24_1 : wr.cell? ⟨gb444, 1, none⟩ = some (.int .u32 a0_1) := (blk_cell BK444.out 1).trans rfl
                    have hfz24_0 := blk_frozen BK444.out 0
                    have hfz24_1 := blk_frozen BK444.out 1
                    try go_wp2
                    have n0_ := Aside0.mk (blk_drew BK444.out)
                    have n1_ := Aside0.mk (blk_drew BK445.out)
                    have n2_ := Aside0.mk (below_drew1 HB.out)
                    clear BK444
                    clear BK445
                    clear HB
                    have BK444 := n0_
                    have BK445 := n1_
                    have HB := n2_
                    clear n0_ n1_ n2_
                    have p446 : 0 ≤ (x5_2 : Int) := of_decide_eq_true (by first | (with_reducible assumption) | assumption)
                    have q446 : x5_2 < (l0_0.length : Int) := of_decide_eq_true (by first | (with_reducible assumption) | assumption)
                    obtain ⟨ad446, A446_2, c446_2, e446, hx446_0, hx446_1, hx446_2, hx446_3, hl446_2, hi446_2⟩ := at_T40 HR0_0.out x5_2 p446 q446
                    have hw446_3 := hx446_3
                    have hw446_2 := hx446_2
                    have hw446_1 := hx446_1
                    have hw446_0 := hx446_0
                    cases e446
                    replace hx446_0 := (HB.out.cell (World.block_lt_of_cell? w _ hx446_0)).trans hx446_0
                    replace hx446_1 := (HB.out.cell (World.block_lt_of_cell? w _ hx446_1)).trans hx446_1
                    replace hx446_2 := (HB.out.cell (World.block_lt_of_cell? w _ hx446_2)).trans hx446_2
                    replace hx446_3 := (HB.out.cell (World.block_lt_of_cell? w _ hx446_3)).trans hx446_3
                    have HR446_2 := Aside0.mk hi446_2
                    have HC446_2 := Aside0.mk hl446_2
                    clear hi446_2 hl446_2
                    replace p446 := eq_true p446
                    replace q446 := eq_true q446
                    have p447 : 0 ≤ (x5_2 : Int) := of_decide_eq_true (by first | (with_reducible assumption) | assumption)
                    have q447 : x5_2 < (l1_0.length : Int) := of_decide_eq_true (by first | (with_reducible assumption) | assumption)
                    obtain ⟨ad447, A447_2, c447_2, e447, hx447_0, hx447_1, hx447_2, hx447_3, hl447_2, hi447_2⟩ := at_T40 HR1_0.out x5_2 p447 q447
                    have hw447_3 := hx447_3
                    have hw447_2 := hx447_2
                    have hw447_1 := hx447_1
                    have hw447_0 := hx447_0
                    cases e447
                    replace hx447_0 := (HB.out.cell (World.block_lt_of_cell? w _ hx447_0)).trans hx447_0
                    replace hx447_1 := (HB.out.cell (World.block_lt_of_cell? w _ hx447_1)).trans hx447_1
                    replace hx447_2 := (HB.out.cell (World.block_lt_of_cell? w _ hx447_2)).trans hx447_2
                    replace hx447_3 := (HB.out.cell (World.block_lt_of_cell? w _ hx447_3)).trans hx447_3
                    have HR447_2 := Aside0.mk hi447_2
                    have HC447_2 := Aside0.mk hl447_2
                    clear hi447_2 hl447_2
                    replace p447 := eq_true p447
                    replace q447 := eq_true q447
                    refine start_ (n := 12) (S := fun w' => w'.cell? ⟨gb444, 0, none⟩ = some (.slice (some ad446) l0_0.length c0_0) ∧ w'.cell? ⟨gb444, 1, none⟩ = some (.int .u32 a0_1) ∧ w'.cell? ⟨gb445, 0, none⟩ = some (.slice (some ad447) l1_0.length c1_0) ∧ w'.cell? ⟨gb445, 1, none⟩ = some (.int .u32 a1_1) ∧ w'.cell? (ad446.add ((x5_2).toNat * 4)) = some (.int .u32 ((rd_T40 l0_0 x5_2).f0)) ∧ w'.cell? ⟨(ad446.add ((x5_2).toNat * 4)).block, (ad446.add ((x5_2).toNat * 4)).off + 1, none⟩ = some (.int .u32 ((rd_T40 l0_0 x5_2).f1)) ∧ w'.cell? ⟨(ad446.add ((x5_2).toNat * 4)).block, (ad446.add ((x5_2).toNat * 4)).off + 2, none⟩ = some (.slice A446_2 ((rd_T40 l0_0 x5_2).f2).length c446_2) ∧ w'.cell? ⟨(ad446.add ((x5_2).toNat * 4)).block, (ad446.add ((x5_2).toNat * 4)).off + 3, none⟩ = some (.int .u32 ((rd_T40 l0_0 x5_2).f3)) ∧ w'.cell? (ad447.add ((x5_2).toNat * 4)) = some (.int .u32 ((rd_T40 l1_0 x5_2).f0)) ∧ w'.cell? ⟨(ad447.add ((x5_2).toNat * 4)).block, (ad447.add ((x5_2).toNat * 4)).off + 1, none⟩ = some (.int .u32 ((rd_T40 l1_0 x5_2).f1)) ∧ w'.cell? ⟨(ad447.add ((x5_2).toNat * 4)).block, (ad447.add ((x5_2).toNat * 4)).off + 2, none⟩ = some (.slice A447_2 ((rd_T40 l1_0 x5_2).f2).length c447_2) ∧ w'.cell? ⟨(ad447.add ((x5_2).toNat * 4)).block, (ad447.add ((x5_2).toNat * 4)).off + 3, none⟩ = some (.int .u32 ((rd_T40 l1_0 x5_2).f3))) (ds := []) #[false, false, false, false, false, false, false, false, false, false, false, false] (by kernel_rfl) rfl rfl ⟨(blk_cell BK444.out 0).trans rfl, (blk_cell BK444.out 1).trans rfl, (blk_cell BK445.out 0).trans rfl, (blk_cell BK445.out 1).trans rfl, ((HB.out.cell (World.block_lt_of_cell? w _ hw446_0)).trans hw446_0), ((HB.out.cell (World.block_lt_of_cell? w _ hw446_1)).trans hw446_1), ((HB.out.cell (World.block_lt_of_cell? w _ hw446_2)).trans hw446_2), ((HB.out.cell (World.block_lt_of_cell? w _ hw446_3)).trans hw446_3), ((HB.out.cell (World.block_lt_of_cell? w _ hw447_0)).trans hw447_0), ((HB.out.cell (World.block_lt_of_cell? w _ hw447_1)).trans hw447_1), ((HB.out.cell (World.block_lt_of_cell? w _ hw447_2)).trans hw447_2), ((HB.out.cell (World.block_lt_of_cell? w _ hw447_3)).trans hw447_3)⟩ (fun hHeld => ?_); refine with_tabW hurdleref10_Same.tab6 hurdleref10_Same.bits6 (fun HT_ HW_ => ?_)
                    generalize wr.drew = w25 at BK444 BK445 HB HR446_2 HR447_2 hx446_0 hx446_1 hx446_2 hx446_3 hx447_0 hx447_1 hx447_2 hx447_3 hHeld ⊢
                    refine pure_ (i := 0) (N := some 27) (v := ?_) (a' := ?_) #[true, false, false, false, false, false, false, false, false, false, false, false] rfl rfl (any_of HT_.out (by kernel_rfl)) (fun _ _ _ h => h) (Or.inl ⟨by rfl, ?_⟩) ?_ ?_
                    rotate_left
                    · intro w'
                      go_simp
                      with_reducible rfl
                    rotate_left
                    · simp only [Act.put, List.setIfInBounds_toArray, List.set_cons_zero, List.set_cons_succ, i64_w, i32_w]
                      rfl
                    refine pure_ (i := 2) (N := some 29) (v := ?_) (a' := ?_) #[true, false, true, false, false, false, false, false, false, false, false, false] rfl rfl (any_of HT_.out (by kernel_rfl)) (fun _ _ _ h => h) (Or.inl ⟨by rfl, ?_⟩) ?_ ?_
                    rotate_left
                    · intro w'
                      go_simp
                      with_reducible rfl
                    rotate_left
                    · simp only [Act.put, List.setIfInBounds_toArray, List.set_cons_zero, List.set_cons_succ, i64_w, i32_w]
                      rfl
                    refine pure_ (i := 5) (N := some 32) (v := ?_) (a' := ?_) #[true, false, true, false, false, true, false, false, false, false, false, false] rfl rfl (any_of HT_.out (by kernel_rfl)) (fun _ _ _ h => h) (Or.inl ⟨by rfl, ?_⟩) ?_ ?_
                    rotate_left
                    · intro w'
                      go_simp
                      with_reducible rfl
                    rotate_left
                    · simp only [Act.put, List.setIfInBounds_toArray, List.set_cons_zero, List.set_cons_succ, i64_w, i32_w]
                      rfl
                    refine pure_ (i := 7) (N := some 34) (v := ?_) (a' := ?_) #[true, false, true, false, false, true, false, true, false, false, false, false] rfl rfl (any_of HT_.out (by kernel_rfl)) (fun _ _ _ h => h) (Or.inl ⟨by rfl, ?_⟩) ?_ ?_
                    rotate_left
                    · intro w'
                      go_simp
                      with_reducible rfl
                    rotate_left
                    · simp only [Act.put, List.setIfInBounds_toArray, List.set_cons_zero, List.set_cons_succ, i64_w, i32_w]
                      rfl
                    refine take_ (i := 1) (N := some 28) (v := ?_) (a' := ?_) #[true, true, true, false, false, true, false, true, false, false, false, false] rfl rfl (take_ofW HT_.out HW_.out (by kernel_rfl)) (fun _ _ _ h => h) (Or.inl ⟨by rfl, ?_⟩) hHeld ?_ ?_
                    rotate_left
                    · rintro w' ⟨s0, s1, s2, s3, s4, s5, s6, s7, s8, s9, s10, s11⟩
                      go_simp
                      with_reducible rfl
                    rotate_left
                    · simp only [Act.put, List.setIfInBounds_toArray, List.set_cons_zero, List.set_cons_succ, i64_w, i32_w]
                      rfl
                    refine pure_ (i := 3) (N := some 30) (v := ?_) (a' := ?_) #[true, true, true, true, false, true, false, true, false, false, false, false] rfl rfl (any_of HT_.out (by kernel_rfl)) (fun _ _ _ h => h) (Or.inl ⟨by rfl, ?_⟩) ?_ ?_
                    rotate_left
                    · intro w'
                      go_simp
                      with_reducible rfl
                    rotate_left
                    · simp only [Act.put, List.setIfInBounds_toArray, List.set_cons_zero, List.set_cons_succ, i64_w, i32_w]
                      rfl
                    refine take_ (i := 4) (N := some 31) (v := ?_) (a' := ?_) #[true, true, true, true, true, true, false, true, false, false, false, false] rfl rfl (take_ofW HT_.out HW_.out (by kernel_rfl)) (fun _ _ _ h => h) (Or.inl ⟨by rfl, ?_⟩) hHeld ?_ ?_
                    rotate_left
                    · rintro w' ⟨s0, s1, s2, s3, s4, s5, s6, s7, s8, s9, s10, s11⟩
                      go_simp
                      with_reducible rfl
                    rotate_left
                    · simp only [Act.put, List.setIfInBounds_toArray, List.set_cons_zero, List.set_cons_succ, i64_w, i32_w]
                      rfl
                    refine take_ (i := 6) (N := some 33) (v := ?_) (a' := ?_) #[true, true, true, true, true, true, true, true, false, false, false, false] rfl rfl (take_ofW HT_.out HW_.out (by kernel_rfl)) (fun _ _ _ h => h) (Or.inl ⟨by rfl, ?_⟩) hHeld ?_ ?_
                    rotate_left
                    · rintro w' ⟨s0, s1, s2, s3, s4, s5, s6, s7, s8, s9, s10, s11⟩
                      go_simp
                      with_reducible rfl
                    rotate_left
                    · simp only [Act.put, List.setIfInBounds_toArray, List.set_cons_zero, List.set_cons_succ, i64_w, i32_w]
                      rfl
                    refine pure_ (i := 8) (N := some 35) (v := ?_) (a' := ?_) #[true, true, true, true, true, true, true, true, true, false, false, false] rfl rfl (any_of HT_.out (by kernel_rfl)) (fun _ _ _ h => h) (Or.inl ⟨by rfl, ?_⟩) ?_ ?_
                    rotate_left
                    · intro w'
                      go_simp
                      with_reducible rfl
                    rotate_left
                    · simp only [Act.put, List.setIfInBounds_toArray, List.set_cons_zero, List.set_cons_succ, i64_w, i32_w]
                      rfl
                    refine take_ (i := 9) (N := some 36) (v := ?_) (a' := ?_) #[true, true, true, true, true, true, true, true, true, true, false, false] rfl rfl (take_ofW HT_.out HW_.out (by kernel_rfl)) (fun _ _ _ h => h) (Or.inl ⟨by rfl, ?_⟩) hHeld ?_ ?_
                    rotate_left
                    · rintro w' ⟨s0, s1, s2, s3, s4, s5, s6, s7, s8, s9, s10, s11⟩
                      go_simp
                      with_reducible rfl
                    rotate_left
                    · simp only [Act.put, List.setIfInBounds_toArray, List.set_cons_zero, List.set_cons_succ, i64_w, i32_w]
                      rfl
                    refine one_ (i := 10) (N := some 37) #[true, true, true, true, true, true, true, true, true, true, true, false] rfl rfl (one_of HT_.out (by kernel_rfl)) (by decide) (fun K hK => ?_)
                    refine goes_ Try.func44 (by kernel_rfl) rfl #[.agg #[.int .u32 ((rd_T40 l0_0 x5_2).f0), .int .u32 ((rd_T40 l0_0 x5_2).f1), .slice A446_2 ((rd_T40 l0_0 x5_2).f2).length c446_2, .int .u32 ((rd_T40 l0_0 x5_2).f3)], .agg #[.int .u32 ((rd_T40 l1_0 x5_2).f0), .int .u32 ((rd_T40 l1_0 x5_2).f1), .slice A447_2 ((rd_T40 l1_0 x5_2).f2).length c447_2, .int .u32 ((rd_T40 l1_0 x5_2).f3)]] (by rfl) rfl rfl (by (try simp only [List.map_toArray, List.map_cons, List.map_nil]); first | done | rfl | (simp only [List.length_drop, List.length_take]; rfl)) ?_
                    with_reducible refine (hurdleref10_SameRule.calls k2 ((rd_T40 l0_0 x5_2).f0) ((rd_T40 l0_0 x5_2).f1) _ _ ((rd_T40 l0_0 x5_2).f2) ((rd_T40 l0_0 x5_2).f3) ((rd_T40 l1_0 x5_2).f0) ((rd_T40 l1_0 x5_2).f1) _ _ ((rd_T40 l1_0 x5_2).f2) ((rd_T40 l1_0 x5_2).f3) false _ ?side1 ?side2 ?side3 ?side4 A17.out).mono ?_
                    (case side1 => repeat (first | exact (Kd.C_below HR446_2.out HB.out) | (with_reducible refine Kd.C_alloc ?_ _) | (with_reducible refine Kd.C_drewN ?_ _) | (with_reducible refine Kd.C_drew ?_)))
                    (case side2 => exact HC446_2.out)
                    (case side3 => repeat (first | exact (Kd.C_below HR447_2.out HB.out) | (with_reducible refine Kd.C_alloc ?_ _) | (with_reducible refine Kd.C_drewN ?_ _) | (with_reducible refine Kd.C_drew ?_)))
                    (case side4 => exact HC447_2.out)
                    rintro e w26 ⟨rfl, hb⟩
                    refine ⟨_, rfl, ?_⟩
                    have n0_ := Aside0.mk (blk_below (g := gb444) (o := .cells #[.slice (some ad446) l0_0.length c0_0, .int .u32 a0_1] 25 (0, 0)) (by (with_reducible repeat (first | refine blk_drewN ?_ _ | refine blk_drew ?_ | refine blk_alloc ?_ _)); exact BK444.out) hb)
                    have n1_ := Aside0.mk (blk_below (g := gb445) (o := .cells #[.slice (some ad447) l1_0.length c1_0, .int .u32 a1_1] 25 (0, 0)) (by (with_reducible repeat (first | refine blk_drewN ?_ _ | refine blk_drew ?_ | refine blk_alloc ?_ _)); exact BK445.out) hb)
                    have n2_ := Aside0.mk (below_step (by repeat (first | (with_reducible first | exact HB.out | apply below_alloc | apply pw_below_drewN | apply below_drew1 | refine below_set ?_ GE444.out | refine below_set ?_ GE445.out) | exact HB.out)) hb)
                    clear BK444
                    clear BK445
                    clear HB
                    have BK444 := n0_
                    have BK445 := n1_
                    have HB := n2_
                    clear n0_ n1_ n2_
                    (try clear hb)
                    (try clear hb2)
                    (try clear hk)
                    (try clear hi)
                    refine hK.out _ _ ⟨(blk_cell BK444.out 0).trans rfl, (blk_cell BK444.out 1).trans rfl, (blk_cell BK445.out 0).trans rfl, (blk_cell BK445.out 1).trans rfl, ((HB.out.cell (World.block_lt_of_cell? w _ hw446_0)).trans hw446_0), ((HB.out.cell (World.block_lt_of_cell? w _ hw446_1)).trans hw446_1), ((HB.out.cell (World.block_lt_of_cell? w _ hw446_2)).trans hw446_2), ((HB.out.cell (World.block_lt_of_cell? w _ hw446_3)).trans hw446_3), ((HB.out.cell (World.block_lt_of_cell? w _ hw447_0)).trans hw447_0), ((HB.out.cell (World.block_lt_of_cell? w _ hw447_1)).trans hw447_1), ((HB.out.cell (World.block_lt_of_cell? w _ hw447_2)).trans hw447_2), ((HB.out.cell (World.block_lt_of_cell? w _ hw447_3)).trans hw447_3)⟩ (fun hHeld => ?_)
                    clear hK K
                    refine norm_ (a' := ?_) ?_ ?_
                    rotate_left
                    · show Act.put _ (some 37) _ = _
                      simp only [Act.put, List.setIfInBounds_toArray, List.set_cons_zero, List.set_cons_succ, i64_w, i32_w]
                      rfl
                    refine pure_ (i := 11) (N := some 38) (v := ?_) (a' := ?_) #[true, true, true, true, true, true, true, true, true, true, true, true] rfl rfl (any_of HT_.out (by kernel_rfl)) (fun _ _ _ h => h) (Or.inl ⟨by rfl, ?_⟩) ?_ ?_
                    rotate_left
                    · intro w'
                      go_simp
                      with_reducible rfl
                    rotate_left
                    · simp only [Act.put, List.setIfInBounds_toArray, List.set_cons_zero, List.set_cons_succ, i64_w, i32_w]
                      rfl
                    refine done_ (done_of HT_.out (by kernel_rfl)) ?_
                    try go_wp2
                    go_ret
                    exact ⟨by first | rfl | (simp [errW_none, errW_some] <;> rfl) | (simp [*, errW_none, errW_some] <;> rfl), by repeat (first | (with_reducible first | exact HB.out | apply below_alloc | apply pw_below_drewN | apply below_drew1 | refine below_set ?_ GE444.out | refine below_set ?_ GE445.out) | exact HB.out)⟩
                · rw [if_neg c16] at H
                  exact absurd H (by simp)
              · rw [if_neg c15] at H
                exact absurd H (by simp)
            · rw [if_neg c14] at H
              have c14b0 : decide (x5_2 < (l0_0.length : Int)) = false := decide_eq_false c14
              clear c14
              obtain rfl := Option.some.inj H
              have hnb27 := NB444_445.out
              have hnc27 := NB445_444.out
              have hcz28_0 : wr.cell? ⟨gb444, 0, none⟩ = some (.slice A0_0 l0_0.length c0_0) := (blk_cell BK444.out 0).trans rfl
              have hcz28_1 : wr.cell? ⟨gb444, 1, none⟩ = some (.int .u32 a0_1) := (blk_cell BK444.out 1).trans rfl
              have hfz28_0 := blk_frozen BK444.out 0
              have hfz28_1 := blk_frozen BK444.out 1
              go_wp2
              go_ret
              exact ⟨by first | rfl | (simp [errW_none, errW_some] <;> rfl) | (simp [*, errW_none, errW_some] <;> rfl), by repeat (first | (with_reducible first | exact HB.out | apply below_alloc | apply pw_below_drewN | apply below_drew1 | refine below_set ?_ GE444.out | refine below_set ?_ GE445.out) | exact HB.out)⟩
end Go.Proofs.Ytekpbgmmogpbdaa.P
namespace Go.Proofs.Ytekpbgmmogpbdaa.P
open Go.RowKit Go.Proofs.Ytekpbgmmogpbdaa.H Go.Proofs.YtekpbgmmogpbdaaW.PrintWords Go.Proofs.YtekpbgmmogpbdaaW.PrintLast Go.Proofs.YtekpbgmmogpbdaaW.PrintMore
attribute [local go_sem] max2_int min2_int max_two min_two max_three min_three max_four min_four
set_option linter.unusedVariables false
set_option linter.unusedSimpArgs false
def hurdlelaw10_PolicyOnly.f (k : Nat) (a0 : ByteArray) : Option (Bool) := if (a0.size : Int) > 25000 then ((hurdlelaw10_knows.f k).bind fun t482 => (some t482)) else ((policy_Parse.f a0).bind fun bt483 => (if bt483.2.2.2 = 0 then ((policy_Print.f k bt483.1 bt483.2.1).bind fun bt490 => (if bt490.1.toList = a0.toList then (if bt490.2 = 0 then ((policy_Right.f k bt483.1 bt483.2.1).bind fun t492 => (if t492 = true then ((hurdlelaw10_knows.f k).bind fun t493 => (some t493)) else (some false))) else (some false)) else (some false))) else ((hurdleref10_Same.f k bt483.1 bt483.2.1 ([] : List (S40)) 0).bind fun t494 => (if t494 = true then ((hurdlelaw10_knows.f k).bind fun t495 => (some t495)) else (some false)))))
set_option maxHeartbeats 8000000 in
set_option maxRecDepth 100000 in
theorem hurdlelaw10_PolicyOnly.calls (k : Nat) (a0 : ByteArray) (r : Bool) (w : World) (h : hurdlelaw10_PolicyOnly.f k a0 = some r) :
    Calls Try.prog 6 #[.string a0] w fun e w' => e = .returned (.bool r) ∧ Below w.heap.size w w' := by
  have hu25 := Try.underlying25
  have HB := Aside0.mk (Below.refl w.heap.size w)
  have H : (if (a0.size : Int) > 25000 then ((hurdlelaw10_knows.f k).bind fun t482 => (some t482)) else ((policy_Parse.f a0).bind fun bt483 => (if bt483.2.2.2 = 0 then ((policy_Print.f k bt483.1 bt483.2.1).bind fun bt490 => (if bt490.1.toList = a0.toList then (if bt490.2 = 0 then ((policy_Right.f k bt483.1 bt483.2.1).bind fun t492 => (if t492 = true then ((hurdlelaw10_knows.f k).bind fun t493 => (some t493)) else (some false))) else (some false)) else (some false))) else ((hurdleref10_Same.f k bt483.1 bt483.2.1 ([] : List (S40)) 0).bind fun t494 => (if t494 = true then ((hurdlelaw10_knows.f k).bind fun t495 => (some t495)) else (some false)))))) = some r := h
  clear h
  by_cases c2 : (a0.size : Int) > 25000
  · rw [if_pos c2] at H
    have c2b0 : decide (25000 < (a0.size : Int)) = true := decide_eq_true c2
    have c2b1 : decide (25000 < a0.size) = true := decide_eq_true (by omega)
    clear c2
    replace H := Option.bind_eq_some_iff.mp H
    obtain ⟨t482, A30, H⟩ := H
    replace H : (some t482) = some r := H
    have A3 := Aside0.mk A30
    clear A30
    obtain rfl := Option.some.inj H
    go_enter Try.func6, Try.ntmps6
    go_wp2_with (first | ((with_reducible refine gate_callee (f := 15) rfl ?_); refine goesL_ (some 11) rfl rfl Try.func15 (by kernel_rfl) rfl #[] rfl (by (try simp only [List.map_toArray, List.map_cons, List.map_nil]); first | done | rfl | (simp only [List.length_drop, List.length_take]; rfl)) ?_; (with_reducible refine (hurdlelaw10_knows.calls k  t482 _ A3.out).mono ?_); rintro e w4 ⟨rfl, hb⟩; refine ⟨_, rfl, ?_⟩; have n0_ := Aside0.mk (below_step (by repeat (first | (with_reducible first | exact HB.out | apply below_alloc | apply pw_below_drewN | apply below_drew1) | exact HB.out)) hb); clear HB; have HB := n0_; clear n0_; (try clear hb); (try clear hb2); (try clear hk); (try clear hi)))
    go_ret
    exact ⟨by first | rfl | (simp [errW_none, errW_some] <;> rfl) | (simp [*, errW_none, errW_some] <;> rfl), by repeat (first | (with_reducible first | exact HB.out | apply below_alloc | apply pw_below_drewN | apply below_drew1) | exact HB.out)⟩
  · rw [if_neg c2] at H
    have c2b0 : decide (25000 < (a0.size : Int)) = false := decide_eq_false c2
    have c2b1 : decide (25000 < a0.size) = false := decide_eq_false (by omega)
    clear c2
    replace H := Option.bind_eq_some_iff.mp H
    obtain ⟨⟨t483, t486, t487, t488⟩, A50, H⟩ := H
    replace H : (if t488 = 0 then ((policy_Print.f k t483 t486).bind fun bt490 => (if bt490.1.toList = a0.toList then (if bt490.2 = 0 then ((policy_Right.f k t483 t486).bind fun t492 => (if t492 = true then ((hurdlelaw10_knows.f k).bind fun t493 => (some t493)) else (some false))) else (some false)) else (some false))) else ((hurdleref10_Same.f k t483 t486 ([] : List (S40)) 0).bind fun t494 => (if t494 = true then ((hurdlelaw10_knows.f k).bind fun t495 => (some t495)) else (some false)))) = some r := H
    have A5 := Aside0.mk A50
    clear A50
    by_cases c6 : t488 = 0
    · rw [if_pos c6] at H
      have c6b0 : (t488 == 0) = true := beq_iff_eq.mpr c6
      have c6b1 : (t488 != 0) = false := bne_eq_false_iff_eq.mpr c6
      clear c6
      replace H := Option.bind_eq_some_iff.mp H
      obtain ⟨⟨t490, t491⟩, A70, H⟩ := H
      replace H : (if t490.toList = a0.toList then (if t491 = 0 then ((policy_Right.f k t483 t486).bind fun t492 => (if t492 = true then ((hurdlelaw10_knows.f k).bind fun t493 => (some t493)) else (some false))) else (some false)) else (some false)) = some r := H
      have A7 := Aside0.mk A70
      clear A70
      by_cases c8 : t490.toList = a0.toList
      · rw [if_pos c8] at H
        have c8b0 : (t490.toList == a0.toList) = true := beq_iff_eq.mpr c8
        have c8b1 : (t490.toList != a0.toList) = false := bne_eq_false_iff_eq.mpr c8
        clear c8
        by_cases c9 : t491 = 0
        · rw [if_pos c9] at H
          have c9b0 : (t491 == 0) = true := beq_iff_eq.mpr c9
          have c9b1 : (t491 != 0) = false := bne_eq_false_iff_eq.mpr c9
          clear c9
          replace H := Option.bind_eq_some_iff.mp H
          obtain ⟨t492, A100, H⟩ := H
          replace H : (if t492 = true then ((hurdlelaw10_knows.f k).bind fun t493 => (some t493)) else (some false)) = some r := H
          have A10 := Aside0.mk A100
          clear A100
          by_cases c11 : t492 = true
          · subst c11
            have H1 : ((hurdlelaw10_knows.f k).bind fun t493 => (some t493)) = some r := by rw [if_pos rfl] at H; exact H
            clear H
            have H := H1
            clear H1
            replace H := Option.bind_eq_some_iff.mp H
            obtain ⟨t493, A120, H⟩ := H
            replace H : (some t493) = some r := H
            have A12 := Aside0.mk A120
            clear A120
            obtain rfl := Option.some.inj H
            go_enter Try.func6, Try.ntmps6
            go_wp2_with (first | ((with_reducible refine gate_callee (f := 20) rfl ?_); refine goesL_ (some 14) rfl rfl Try.func20 (by kernel_rfl) rfl #[.string a0] rfl (by (try simp only [List.map_toArray, List.map_cons, List.map_nil]); first | done | rfl | (simp only [List.length_drop, List.length_take]; rfl)) ?_; (with_reducible refine (policy_Parse.calls a0 t483 t486 t487 t488 _ A5.out).mono ?_); rintro e w13 ⟨v484, rfl, ho0, hb⟩; refine ⟨_, rfl, ?_⟩; have n0_ := Aside0.mk (Kd.S_lower ho0 (below_size (by repeat (first | (with_reducible first | exact HB.out | apply below_alloc | apply pw_below_drewN | apply below_drew1) | exact HB.out)))); have n1_ := Aside0.mk (below_step (by repeat (first | (with_reducible first | exact HB.out | apply below_alloc | apply pw_below_drewN | apply below_drew1) | exact HB.out)) hb); clear HB; have HO485 := n0_; have HB := n1_; clear n0_ n1_; (try clear hb); (try clear hb2); (try clear hk); (try clear hi); (try clear ho0)) | ((with_reducible refine gate_dst (N := 3) rfl ?_); refine box_event ?hg (N := 3) ?hd (cs := #[.slice none 0 0, .int .u32 0]) (t := 25) ?hr ?_; (case hd => rfl); (case hg => rfl); (case hr => first | (go_simp; done) | (go_simp; rfl)); intro gb489 hg w14 hbox hb; have n0_ := Aside0.mk (Kd.S_below (by (with_reducible repeat (first | apply Kd.S_alloc | apply Kd.S_drewN | apply Kd.S_drew)); exact HO485.out) hb); have n1_ := Aside0.mk (below_step (by repeat (first | (with_reducible first | exact HB.out | apply below_alloc | apply pw_below_drewN | apply below_drew1) | exact HB.out)) hb); have n2_ := Aside0.mk (hbox); have n3_ := Aside0.mk ((by rw [hg]; exact (below_size (by repeat (first | (with_reducible first | exact HB.out | apply below_alloc | apply pw_below_drewN | apply below_drew1) | exact HB.out))) : w.heap.size ≤ gb489)); have n4_ := Aside0.mk ((by rw [hg]; exact (below_size (by repeat (first | (with_reducible first | exact HB.out | apply below_alloc | apply pw_below_drewN | apply below_drew1) | exact HB.out))) : w.heap.size ≤ gb489)); clear HO485; clear HB; have HO485 := n0_; have HB := n1_; have BK489 := n2_; have GW489 := n3_; have GE489 := n4_; clear n0_ n1_ n2_ n3_ n4_; clear hb hbox hg; obtain ⟨Ao15, co15, eo15⟩ := Kd.S_slice HO485.out; subst eo15; have hcz16_0 : w14.cell? ⟨gb489, 0, none⟩ = some (.slice none 0 0) := (blk_cell BK489.out 0).trans rfl; have hcz16_1 : w14.cell? ⟨gb489, 1, none⟩ = some (.int .u32 0) := (blk_cell BK489.out 1).trans rfl; have hfz16_0 := blk_frozen BK489.out 0; have hfz16_1 := blk_frozen BK489.out 1) | ((with_reducible refine gate_callee (f := 16) rfl ?_); refine goesL_ (some 28) rfl rfl Try.func16 (by kernel_rfl) rfl #[.agg #[.slice Ao15 t483.length co15, .int .u32 t486]] rfl (by (try simp only [List.map_toArray, List.map_cons, List.map_nil]); first | done | rfl | (simp only [List.length_drop, List.length_take]; rfl)) ?_; (with_reducible refine (policy_Print.calls k _ _ t483 t486 t490 t491 _ ?side1 ?side2 A7.out).mono ?_); (case side1 => refine (Kd.S_reads' (e := 40) (base := w.heap.size) (ok := fun k_ => True) (n := t483.length) (c := co15) ?_).2.2; exact (by (with_reducible repeat (first | apply Kd.S_alloc | apply Kd.S_drewN | apply Kd.S_drew)); exact (Kd.S_mono (Kd.S_far (p := ⟨gb489, 1, none⟩) (Kd.S_far (p := ⟨gb489, 0, none⟩) (Kd.S_types HO485.out BK489.out (by decide)) (fun _ hk => hk.2) (.slice Ao15 t483.length co15)) (fun _ hk => hk.2) (.int .u32 t486)) (fun _ h_ => h_.1)))); (case side2 => exact (Kd.S_reads' HO485.out).2.1); rintro e w17 ⟨rfl, hb⟩; refine ⟨_, rfl, ?_⟩; have n0_ := Aside0.mk (Kd.S_below (by (with_reducible repeat (first | apply Kd.S_alloc | apply Kd.S_drewN | apply Kd.S_drew)); exact (Kd.S_mono (Kd.S_far (p := ⟨gb489, 1, none⟩) (Kd.S_far (p := ⟨gb489, 0, none⟩) (Kd.S_types HO485.out BK489.out (by decide)) (fun _ hk => hk.2) (.slice Ao15 t483.length co15)) (fun _ hk => hk.2) (.int .u32 t486)) (fun _ h_ => h_.1))) hb); have n1_ := Aside0.mk (blk_below (g := gb489) (o := .cells #[.slice Ao15 t483.length co15, .int .u32 t486] 25 (0, 0)) (by (with_reducible repeat (first | refine blk_drewN ?_ _ | refine blk_drew ?_ | refine blk_alloc ?_ _)); refine blk_put (cs := #[.slice Ao15 t483.length co15, .int .u32 0]) ?_ 1 _ rfl; (with_reducible repeat (first | refine blk_drewN ?_ _ | refine blk_drew ?_ | refine blk_alloc ?_ _)); refine blk_put (cs := #[.slice none 0 0, .int .u32 0]) ?_ 0 _ rfl; (with_reducible repeat (first | refine blk_drewN ?_ _ | refine blk_drew ?_ | refine blk_alloc ?_ _)); exact BK489.out) hb); have n2_ := Aside0.mk (below_step (by repeat (first | (with_reducible first | exact HB.out | apply below_alloc | apply pw_below_drewN | apply below_drew1 | refine below_set ?_ GE489.out) | exact HB.out)) hb); clear HO485; clear BK489; clear HB; have HO485 := n0_; have BK489 := n1_; have HB := n2_; clear n0_ n1_ n2_; (try clear hb); (try clear hb2); (try clear hk); (try clear hi); have hcz18_0 : w17.cell? ⟨gb489, 0, none⟩ = some (.slice Ao15 t483.length co15) := (blk_cell BK489.out 0).trans rfl; have hcz18_1 : w17.cell? ⟨gb489, 1, none⟩ = some (.int .u32 t486) := (blk_cell BK489.out 1).trans rfl; have hfz18_0 := blk_frozen BK489.out 0; have hfz18_1 := blk_frozen BK489.out 1) | (go_at_call 18; (with_reducible refine (policy_Right.calls k _ _ t483 t486 true _ ?side1 ?side2 A10.out).mono ?_); (case side1 => repeat (first | exact (Kd.S_reads' HO485.out).2.2 | (with_reducible refine Kd.C_alloc ?_ _) | (with_reducible refine Kd.C_drewN ?_ _) | (with_reducible refine Kd.C_drew ?_))); (case side2 => exact (Kd.S_reads' HO485.out).2.1); rintro e w19 ⟨rfl, hb⟩; have n0_ := Aside0.mk (Kd.S_below (by (with_reducible repeat (first | apply Kd.S_alloc | apply Kd.S_drewN | apply Kd.S_drew)); exact HO485.out) hb); have n1_ := Aside0.mk (blk_below (g := gb489) (o := .cells #[.slice Ao15 t483.length co15, .int .u32 t486] 25 (0, 0)) (by (with_reducible repeat (first | refine blk_drewN ?_ _ | refine blk_drew ?_ | refine blk_alloc ?_ _)); exact BK489.out) hb); have n2_ := Aside0.mk (below_step (by repeat (first | (with_reducible first | exact HB.out | apply below_alloc | apply pw_below_drewN | apply below_drew1 | refine below_set ?_ GE489.out) | exact HB.out)) hb); clear HO485; clear BK489; clear HB; have HO485 := n0_; have BK489 := n1_; have HB := n2_; clear n0_ n1_ n2_; (try clear hb); (try clear hb2); (try clear hk); (try clear hi)) | (go_at_call 15; (with_reducible refine (hurdlelaw10_knows.calls k  t493 _ A12.out).mono ?_); rintro e w20 ⟨rfl, hb⟩; have n0_ := Aside0.mk (Kd.S_below (by (with_reducible repeat (first | apply Kd.S_alloc | apply Kd.S_drewN | apply Kd.S_drew)); exact HO485.out) hb); have n1_ := Aside0.mk (blk_below (g := gb489) (o := .cells #[.slice Ao15 t483.length co15, .int .u32 t486] 25 (0, 0)) (by (with_reducible repeat (first | refine blk_drewN ?_ _ | refine blk_drew ?_ | refine blk_alloc ?_ _)); exact BK489.out) hb); have n2_ := Aside0.mk (below_step (by repeat (first | (with_reducible first | exact HB.out | apply below_alloc | apply pw_below_drewN | apply below_drew1 | refine below_set ?_ GE489.out) | exact HB.out)) hb); clear HO485; clear BK489; clear HB; have HO485 := n0_; have BK489 := n1_; have HB := n2_; clear n0_ n1_ n2_; (try clear hb); (try clear hb2); (try clear hk); (try clear hi)))
            go_ret
            exact ⟨by first | rfl | (simp [errW_none, errW_some] <;> rfl) | (simp [*, errW_none, errW_some] <;> rfl), by repeat (first | (with_reducible first | exact HB.out | apply below_alloc | apply pw_below_drewN | apply below_drew1 | refine below_set ?_ GE489.out) | exact HB.out)⟩
          · replace c11 := Bool.eq_false_iff.mpr c11
            subst c11
            have H1 : (some false) = some r := by rw [if_neg (show ¬ (false = true) by decide)] at H; exact H
            clear H
            have H := H1
            clear H1
            obtain rfl := Option.some.inj H
            go_enter Try.func6, Try.ntmps6
            go_wp2_with (first | ((with_reducible refine gate_callee (f := 20) rfl ?_); refine goesL_ (some 14) rfl rfl Try.func20 (by kernel_rfl) rfl #[.string a0] rfl (by (try simp only [List.map_toArray, List.map_cons, List.map_nil]); first | done | rfl | (simp only [List.length_drop, List.length_take]; rfl)) ?_; (with_reducible refine (policy_Parse.calls a0 t483 t486 t487 t488 _ A5.out).mono ?_); rintro e w21 ⟨v484, rfl, ho0, hb⟩; refine ⟨_, rfl, ?_⟩; have n0_ := Aside0.mk (Kd.S_lower ho0 (below_size (by repeat (first | (with_reducible first | exact HB.out | apply below_alloc | apply pw_below_drewN | apply below_drew1) | exact HB.out)))); have n1_ := Aside0.mk (below_step (by repeat (first | (with_reducible first | exact HB.out | apply below_alloc | apply pw_below_drewN | apply below_drew1) | exact HB.out)) hb); clear HB; have HO485 := n0_; have HB := n1_; clear n0_ n1_; (try clear hb); (try clear hb2); (try clear hk); (try clear hi); (try clear ho0)) | ((with_reducible refine gate_dst (N := 3) rfl ?_); refine box_event ?hg (N := 3) ?hd (cs := #[.slice none 0 0, .int .u32 0]) (t := 25) ?hr ?_; (case hd => rfl); (case hg => rfl); (case hr => first | (go_simp; done) | (go_simp; rfl)); intro gb489 hg w22 hbox hb; have n0_ := Aside0.mk (Kd.S_below (by (with_reducible repeat (first | apply Kd.S_alloc | apply Kd.S_drewN | apply Kd.S_drew)); exact HO485.out) hb); have n1_ := Aside0.mk (below_step (by repeat (first | (with_reducible first | exact HB.out | apply below_alloc | apply pw_below_drewN | apply below_drew1) | exact HB.out)) hb); have n2_ := Aside0.mk (hbox); have n3_ := Aside0.mk ((by rw [hg]; exact (below_size (by repeat (first | (with_reducible first | exact HB.out | apply below_alloc | apply pw_below_drewN | apply below_drew1) | exact HB.out))) : w.heap.size ≤ gb489)); have n4_ := Aside0.mk ((by rw [hg]; exact (below_size (by repeat (first | (with_reducible first | exact HB.out | apply below_alloc | apply pw_below_drewN | apply below_drew1) | exact HB.out))) : w.heap.size ≤ gb489)); clear HO485; clear HB; have HO485 := n0_; have HB := n1_; have BK489 := n2_; have GW489 := n3_; have GE489 := n4_; clear n0_ n1_ n2_ n3_ n4_; clear hb hbox hg; obtain ⟨Ao23, co23, eo23⟩ := Kd.S_slice HO485.out; subst eo23; have hcz24_0 : w22.cell? ⟨gb489, 0, none⟩ = some (.slice none 0 0) := (blk_cell BK489.out 0).trans rfl; have hcz24_1 : w22.cell? ⟨gb489, 1, none⟩ = some (.int .u32 0) := (blk_cell BK489.out 1).trans rfl; have hfz24_0 := blk_frozen BK489.out 0; have hfz24_1 := blk_frozen BK489.out 1) | ((with_reducible refine gate_callee (f := 16) rfl ?_); refine goesL_ (some 28) rfl rfl Try.func16 (by kernel_rfl) rfl #[.agg #[.slice Ao23 t483.length co23, .int .u32 t486]] rfl (by (try simp only [List.map_toArray, List.map_cons, List.map_nil]); first | done | rfl | (simp only [List.length_drop, List.length_take]; rfl)) ?_; (with_reducible refine (policy_Print.calls k _ _ t483 t486 t490 t491 _ ?side1 ?side2 A7.out).mono ?_); (case side1 => refine (Kd.S_reads' (e := 40) (base := w.heap.size) (ok := fun k_ => True) (n := t483.length) (c := co23) ?_).2.2; exact (by (with_reducible repeat (first | apply Kd.S_alloc | apply Kd.S_drewN | apply Kd.S_drew)); exact (Kd.S_mono (Kd.S_far (p := ⟨gb489, 1, none⟩) (Kd.S_far (p := ⟨gb489, 0, none⟩) (Kd.S_types HO485.out BK489.out (by decide)) (fun _ hk => hk.2) (.slice Ao23 t483.length co23)) (fun _ hk => hk.2) (.int .u32 t486)) (fun _ h_ => h_.1)))); (case side2 => exact (Kd.S_reads' HO485.out).2.1); rintro e w25 ⟨rfl, hb⟩; refine ⟨_, rfl, ?_⟩; have n0_ := Aside0.mk (Kd.S_below (by (with_reducible repeat (first | apply Kd.S_alloc | apply Kd.S_drewN | apply Kd.S_drew)); exact (Kd.S_mono (Kd.S_far (p := ⟨gb489, 1, none⟩) (Kd.S_far (p := ⟨gb489, 0, none⟩) (Kd.S_types HO485.out BK489.out (by decide)) (fun _ hk => hk.2) (.slice Ao23 t483.length co23)) (fun _ hk => hk.2) (.int .u32 t486)) (fun _ h_ => h_.1))) hb); have n1_ := Aside0.mk (blk_below (g := gb489) (o := .cells #[.slice Ao23 t483.length co23, .int .u32 t486] 25 (0, 0)) (by (with_reducible repeat (first | refine blk_drewN ?_ _ | refine blk_drew ?_ | refine blk_alloc ?_ _)); refine blk_put (cs := #[.slice Ao23 t483.length co23, .int .u32 0]) ?_ 1 _ rfl; (with_reducible repeat (first | refine blk_drewN ?_ _ | refine blk_drew ?_ | refine blk_alloc ?_ _)); refine blk_put (cs := #[.slice none 0 0, .int .u32 0]) ?_ 0 _ rfl; (with_reducible repeat (first | refine blk_drewN ?_ _ | refine blk_drew ?_ | refine blk_alloc ?_ _)); exact BK489.out) hb); have n2_ := Aside0.mk (below_step (by repeat (first | (with_reducible first | exact HB.out | apply below_alloc | apply pw_below_drewN | apply below_drew1 | refine below_set ?_ GE489.out) | exact HB.out)) hb); clear HO485; clear BK489; clear HB; have HO485 := n0_; have BK489 := n1_; have HB := n2_; clear n0_ n1_ n2_; (try clear hb); (try clear hb2); (try clear hk); (try clear hi); have hcz26_0 : w25.cell? ⟨gb489, 0, none⟩ = some (.slice Ao23 t483.length co23) := (blk_cell BK489.out 0).trans rfl; have hcz26_1 : w25.cell? ⟨gb489, 1, none⟩ = some (.int .u32 t486) := (blk_cell BK489.out 1).trans rfl; have hfz26_0 := blk_frozen BK489.out 0; have hfz26_1 := blk_frozen BK489.out 1) | (go_at_call 18; (with_reducible refine (policy_Right.calls k _ _ t483 t486 false _ ?side1 ?side2 A10.out).mono ?_); (case side1 => repeat (first | exact (Kd.S_reads' HO485.out).2.2 | (with_reducible refine Kd.C_alloc ?_ _) | (with_reducible refine Kd.C_drewN ?_ _) | (with_reducible refine Kd.C_drew ?_))); (case side2 => exact (Kd.S_reads' HO485.out).2.1); rintro e w27 ⟨rfl, hb⟩; have n0_ := Aside0.mk (Kd.S_below (by (with_reducible repeat (first | apply Kd.S_alloc | apply Kd.S_drewN | apply Kd.S_drew)); exact HO485.out) hb); have n1_ := Aside0.mk (blk_below (g := gb489) (o := .cells #[.slice Ao23 t483.length co23, .int .u32 t486] 25 (0, 0)) (by (with_reducible repeat (first | refine blk_drewN ?_ _ | refine blk_drew ?_ | refine blk_alloc ?_ _)); exact BK489.out) hb); have n2_ := Aside0.mk (below_step (by repeat (first | (with_reducible first | exact HB.out | apply below_alloc | apply pw_below_drewN | apply below_drew1 | refine below_set ?_ GE489.out) | exact HB.out)) hb); clear HO485; clear BK489; clear HB; have HO485 := n0_; have BK489 := n1_; have HB := n2_; clear n0_ n1_ n2_; (try clear hb); (try clear hb2); (try clear hk); (try clear hi)))
            go_ret
            exact ⟨by first | rfl | (simp [errW_none, errW_some] <;> rfl) | (simp [*, errW_none, errW_some] <;> rfl), by repeat (first | (with_reducible first | exact HB.out | apply below_alloc | apply pw_below_drewN | apply below_drew1 | refine below_set ?_ GE489.out) | exact HB.out)⟩
        · rw [if_neg c9] at H
          have c9b0 : (t491 == 0) = false := beq_eq_false_iff_ne.mpr c9
          have c9b1 : (t491 != 0) = true := bne_iff_ne.mpr c9
          obtain rfl := Option.some.inj H
          go_enter Try.func6, Try.ntmps6
          go_wp2_with (first | ((with_reducible refine gate_callee (f := 20) rfl ?_); refine goesL_ (some 14) rfl rfl Try.func20 (by kernel_rfl) rfl #[.string a0] rfl (by (try simp only [List.map_toArray, List.map_cons, List.map_nil]); first | done | rfl | (simp only [List.length_drop, List.length_take]; rfl)) ?_; (with_reducible refine (policy_Parse.calls a0 t483 t486 t487 t488 _ A5.out).mono ?_); rintro e w28 ⟨v484, rfl, ho0, hb⟩; refine ⟨_, rfl, ?_⟩; have n0_ := Aside0.mk (Kd.S_lower ho0 (below_size (by repeat (first | (with_reducible first | exact HB.out | apply below_alloc | apply pw_below_drewN | apply below_drew1) | exact HB.out)))); have n1_ := Aside0.mk (below_step (by repeat (first | (with_reducible first | exact HB.out | apply below_alloc | apply pw_below_drewN | apply below_drew1) | exact HB.out)) hb); clear HB; have HO485 := n0_; have HB := n1_; clear n0_ n1_; (try clear hb); (try clear hb2); (try clear hk); (try clear hi); (try clear ho0)) | ((with_reducible refine gate_dst (N := 3) rfl ?_); refine box_event ?hg (N := 3) ?hd (cs := #[.slice none 0 0, .int .u32 0]) (t := 25) ?hr ?_; (case hd => rfl); (case hg => rfl); (case hr => first | (go_simp; done) | (go_simp; rfl)); intro gb489 hg w29 hbox hb; have n0_ := Aside0.mk (Kd.S_below (by (with_reducible repeat (first | apply Kd.S_alloc | apply Kd.S_drewN | apply Kd.S_drew)); exact HO485.out) hb); have n1_ := Aside0.mk (below_step (by repeat (first | (with_reducible first | exact HB.out | apply below_alloc | apply pw_below_drewN | apply below_drew1) | exact HB.out)) hb); have n2_ := Aside0.mk (hbox); have n3_ := Aside0.mk ((by rw [hg]; exact (below_size (by repeat (first | (with_reducible first | exact HB.out | apply below_alloc | apply pw_below_drewN | apply below_drew1) | exact HB.out))) : w.heap.size ≤ gb489)); have n4_ := Aside0.mk ((by rw [hg]; exact (below_size (by repeat (first | (with_reducible first | exact HB.out | apply below_alloc | apply pw_below_drewN | apply below_drew1) | exact HB.out))) : w.heap.size ≤ gb489)); clear HO485; clear HB; have HO485 := n0_; have HB := n1_; have BK489 := n2_; have GW489 := n3_; have GE489 := n4_; clear n0_ n1_ n2_ n3_ n4_; clear hb hbox hg; obtain ⟨Ao30, co30, eo30⟩ := Kd.S_slice HO485.out; subst eo30; have hcz31_0 : w29.cell? ⟨gb489, 0, none⟩ = some (.slice none 0 0) := (blk_cell BK489.out 0).trans rfl; have hcz31_1 : w29.cell? ⟨gb489, 1, none⟩ = some (.int .u32 0) := (blk_cell BK489.out 1).trans rfl; have hfz31_0 := blk_frozen BK489.out 0; have hfz31_1 := blk_frozen BK489.out 1) | ((with_reducible refine gate_callee (f := 16) rfl ?_); refine goesL_ (some 28) rfl rfl Try.func16 (by kernel_rfl) rfl #[.agg #[.slice Ao30 t483.length co30, .int .u32 t486]] rfl (by (try simp only [List.map_toArray, List.map_cons, List.map_nil]); first | done | rfl | (simp only [List.length_drop, List.length_take]; rfl)) ?_; (with_reducible refine (policy_Print.calls k _ _ t483 t486 t490 t491 _ ?side1 ?side2 A7.out).mono ?_); (case side1 => refine (Kd.S_reads' (e := 40) (base := w.heap.size) (ok := fun k_ => True) (n := t483.length) (c := co30) ?_).2.2; exact (by (with_reducible repeat (first | apply Kd.S_alloc | apply Kd.S_drewN | apply Kd.S_drew)); exact (Kd.S_mono (Kd.S_far (p := ⟨gb489, 1, none⟩) (Kd.S_far (p := ⟨gb489, 0, none⟩) (Kd.S_types HO485.out BK489.out (by decide)) (fun _ hk => hk.2) (.slice Ao30 t483.length co30)) (fun _ hk => hk.2) (.int .u32 t486)) (fun _ h_ => h_.1)))); (case side2 => exact (Kd.S_reads' HO485.out).2.1); rintro e w32 ⟨rfl, hb⟩; refine ⟨_, rfl, ?_⟩; have n0_ := Aside0.mk (Kd.S_below (by (with_reducible repeat (first | apply Kd.S_alloc | apply Kd.S_drewN | apply Kd.S_drew)); exact (Kd.S_mono (Kd.S_far (p := ⟨gb489, 1, none⟩) (Kd.S_far (p := ⟨gb489, 0, none⟩) (Kd.S_types HO485.out BK489.out (by decide)) (fun _ hk => hk.2) (.slice Ao30 t483.length co30)) (fun _ hk => hk.2) (.int .u32 t486)) (fun _ h_ => h_.1))) hb); have n1_ := Aside0.mk (blk_below (g := gb489) (o := .cells #[.slice Ao30 t483.length co30, .int .u32 t486] 25 (0, 0)) (by (with_reducible repeat (first | refine blk_drewN ?_ _ | refine blk_drew ?_ | refine blk_alloc ?_ _)); refine blk_put (cs := #[.slice Ao30 t483.length co30, .int .u32 0]) ?_ 1 _ rfl; (with_reducible repeat (first | refine blk_drewN ?_ _ | refine blk_drew ?_ | refine blk_alloc ?_ _)); refine blk_put (cs := #[.slice none 0 0, .int .u32 0]) ?_ 0 _ rfl; (with_reducible repeat (first | refine blk_drewN ?_ _ | refine blk_drew ?_ | refine blk_alloc ?_ _)); exact BK489.out) hb); have n2_ := Aside0.mk (below_step (by repeat (first | (with_reducible first | exact HB.out | apply below_alloc | apply pw_below_drewN | apply below_drew1 | refine below_set ?_ GE489.out) | exact HB.out)) hb); clear HO485; clear BK489; clear HB; have HO485 := n0_; have BK489 := n1_; have HB := n2_; clear n0_ n1_ n2_; (try clear hb); (try clear hb2); (try clear hk); (try clear hi)))
          go_ret
          exact ⟨by first | rfl | (simp [errW_none, errW_some] <;> rfl) | (simp [*, errW_none, errW_some] <;> rfl), by repeat (first | (with_reducible first | exact HB.out | apply below_alloc | apply pw_below_drewN | apply below_drew1 | refine below_set ?_ GE489.out) | exact HB.out)⟩
      · rw [if_neg c8] at H
        have c8b0 : (t490.toList == a0.toList) = false := beq_eq_false_iff_ne.mpr c8
        have c8b1 : (t490.toList != a0.toList) = true := bne_iff_ne.mpr c8
        obtain rfl := Option.some.inj H
        go_enter Try.func6, Try.ntmps6
        go_wp2_with (first | ((with_reducible refine gate_callee (f := 20) rfl ?_); refine goesL_ (some 14) rfl rfl Try.func20 (by kernel_rfl) rfl #[.string a0] rfl (by (try simp only [List.map_toArray, List.map_cons, List.map_nil]); first | done | rfl | (simp only [List.length_drop, List.length_take]; rfl)) ?_; (with_reducible refine (policy_Parse.calls a0 t483 t486 t487 t488 _ A5.out).mono ?_); rintro e w33 ⟨v484, rfl, ho0, hb⟩; refine ⟨_, rfl, ?_⟩; have n0_ := Aside0.mk (Kd.S_lower ho0 (below_size (by repeat (first | (with_reducible first | exact HB.out | apply below_alloc | apply pw_below_drewN | apply below_drew1) | exact HB.out)))); have n1_ := Aside0.mk (below_step (by repeat (first | (with_reducible first | exact HB.out | apply below_alloc | apply pw_below_drewN | apply below_drew1) | exact HB.out)) hb); clear HB; have HO485 := n0_; have HB := n1_; clear n0_ n1_; (try clear hb); (try clear hb2); (try clear hk); (try clear hi); (try clear ho0)) | ((with_reducible refine gate_dst (N := 3) rfl ?_); refine box_event ?hg (N := 3) ?hd (cs := #[.slice none 0 0, .int .u32 0]) (t := 25) ?hr ?_; (case hd => rfl); (case hg => rfl); (case hr => first | (go_simp; done) | (go_simp; rfl)); intro gb489 hg w34 hbox hb; have n0_ := Aside0.mk (Kd.S_below (by (with_reducible repeat (first | apply Kd.S_alloc | apply Kd.S_drewN | apply Kd.S_drew)); exact HO485.out) hb); have n1_ := Aside0.mk (below_step (by repeat (first | (with_reducible first | exact HB.out | apply below_alloc | apply pw_below_drewN | apply below_drew1) | exact HB.out)) hb); have n2_ := Aside0.mk (hbox); have n3_ := Aside0.mk ((by rw [hg]; exact (below_size (by repeat (first | (with_reducible first | exact HB.out | apply below_alloc | apply pw_below_drewN | apply below_drew1) | exact HB.out))) : w.heap.size ≤ gb489)); have n4_ := Aside0.mk ((by rw [hg]; exact (below_size (by repeat (first | (with_reducible first | exact HB.out | apply below_alloc | apply pw_below_drewN | apply below_drew1) | exact HB.out))) : w.heap.size ≤ gb489)); clear HO485; clear HB; have HO485 := n0_; have HB := n1_; have BK489 := n2_; have GW489 := n3_; have GE489 := n4_; clear n0_ n1_ n2_ n3_ n4_; clear hb hbox hg; obtain ⟨Ao35, co35, eo35⟩ := Kd.S_slice HO485.out; subst eo35; have hcz36_0 : w34.cell? ⟨gb489, 0, none⟩ = some (.slice none 0 0) := (blk_cell BK489.out 0).trans rfl; have hcz36_1 : w34.cell? ⟨gb489, 1, none⟩ = some (.int .u32 0) := (blk_cell BK489.out 1).trans rfl; have hfz36_0 := blk_frozen BK489.out 0; have hfz36_1 := blk_frozen BK489.out 1) | ((with_reducible refine gate_callee (f := 16) rfl ?_); refine goesL_ (some 28) rfl rfl Try.func16 (by kernel_rfl) rfl #[.agg #[.slice Ao35 t483.length co35, .int .u32 t486]] rfl (by (try simp only [List.map_toArray, List.map_cons, List.map_nil]); first | done | rfl | (simp only [List.length_drop, List.length_take]; rfl)) ?_; (with_reducible refine (policy_Print.calls k _ _ t483 t486 t490 t491 _ ?side1 ?side2 A7.out).mono ?_); (case side1 => refine (Kd.S_reads' (e := 40) (base := w.heap.size) (ok := fun k_ => True) (n := t483.length) (c := co35) ?_).2.2; exact (by (with_reducible repeat (first | apply Kd.S_alloc | apply Kd.S_drewN | apply Kd.S_drew)); exact (Kd.S_mono (Kd.S_far (p := ⟨gb489, 1, none⟩) (Kd.S_far (p := ⟨gb489, 0, none⟩) (Kd.S_types HO485.out BK489.out (by decide)) (fun _ hk => hk.2) (.slice Ao35 t483.length co35)) (fun _ hk => hk.2) (.int .u32 t486)) (fun _ h_ => h_.1)))); (case side2 => exact (Kd.S_reads' HO485.out).2.1); rintro e w37 ⟨rfl, hb⟩; refine ⟨_, rfl, ?_⟩; have n0_ := Aside0.mk (Kd.S_below (by (with_reducible repeat (first | apply Kd.S_alloc | apply Kd.S_drewN | apply Kd.S_drew)); exact (Kd.S_mono (Kd.S_far (p := ⟨gb489, 1, none⟩) (Kd.S_far (p := ⟨gb489, 0, none⟩) (Kd.S_types HO485.out BK489.out (by decide)) (fun _ hk => hk.2) (.slice Ao35 t483.length co35)) (fun _ hk => hk.2) (.int .u32 t486)) (fun _ h_ => h_.1))) hb); have n1_ := Aside0.mk (blk_below (g := gb489) (o := .cells #[.slice Ao35 t483.length co35, .int .u32 t486] 25 (0, 0)) (by (with_reducible repeat (first | refine blk_drewN ?_ _ | refine blk_drew ?_ | refine blk_alloc ?_ _)); refine blk_put (cs := #[.slice Ao35 t483.length co35, .int .u32 0]) ?_ 1 _ rfl; (with_reducible repeat (first | refine blk_drewN ?_ _ | refine blk_drew ?_ | refine blk_alloc ?_ _)); refine blk_put (cs := #[.slice none 0 0, .int .u32 0]) ?_ 0 _ rfl; (with_reducible repeat (first | refine blk_drewN ?_ _ | refine blk_drew ?_ | refine blk_alloc ?_ _)); exact BK489.out) hb); have n2_ := Aside0.mk (below_step (by repeat (first | (with_reducible first | exact HB.out | apply below_alloc | apply pw_below_drewN | apply below_drew1 | refine below_set ?_ GE489.out) | exact HB.out)) hb); clear HO485; clear BK489; clear HB; have HO485 := n0_; have BK489 := n1_; have HB := n2_; clear n0_ n1_ n2_; (try clear hb); (try clear hb2); (try clear hk); (try clear hi)))
        go_ret
        exact ⟨by first | rfl | (simp [errW_none, errW_some] <;> rfl) | (simp [*, errW_none, errW_some] <;> rfl), by repeat (first | (with_reducible first | exact HB.out | apply below_alloc | apply pw_below_drewN | apply below_drew1 | refine below_set ?_ GE489.out) | exact HB.out)⟩
    · rw [if_neg c6] at H
      have c6b0 : (t488 == 0) = false := beq_eq_false_iff_ne.mpr c6
      have c6b1 : (t488 != 0) = true := bne_iff_ne.mpr c6
      replace H := Option.bind_eq_some_iff.mp H
      obtain ⟨t494, A380, H⟩ := H
      replace H : (if t494 = true then ((hurdlelaw10_knows.f k).bind fun t495 => (some t495)) else (some false)) = some r := H
      have A38 := Aside0.mk A380
      clear A380
      by_cases c39 : t494 = true
      · subst c39
        have H1 : ((hurdlelaw10_knows.f k).bind fun t495 => (some t495)) = some r := by rw [if_pos rfl] at H; exact H
        clear H
        have H := H1
        clear H1
        replace H := Option.bind_eq_some_iff.mp H
        obtain ⟨t495, A400, H⟩ := H
        replace H : (some t495) = some r := H
        have A40 := Aside0.mk A400
        clear A400
        obtain rfl := Option.some.inj H
        go_enter Try.func6, Try.ntmps6
        go_wp2_with (first | ((with_reducible refine gate_callee (f := 20) rfl ?_); refine goesL_ (some 14) rfl rfl Try.func20 (by kernel_rfl) rfl #[.string a0] rfl (by (try simp only [List.map_toArray, List.map_cons, List.map_nil]); first | done | rfl | (simp only [List.length_drop, List.length_take]; rfl)) ?_; (with_reducible refine (policy_Parse.calls a0 t483 t486 t487 t488 _ A5.out).mono ?_); rintro e w41 ⟨v484, rfl, ho0, hb⟩; refine ⟨_, rfl, ?_⟩; have n0_ := Aside0.mk (Kd.S_lower ho0 (below_size (by repeat (first | (with_reducible first | exact HB.out | apply below_alloc | apply pw_below_drewN | apply below_drew1) | exact HB.out)))); have n1_ := Aside0.mk (below_step (by repeat (first | (with_reducible first | exact HB.out | apply below_alloc | apply pw_below_drewN | apply below_drew1) | exact HB.out)) hb); clear HB; have HO485 := n0_; have HB := n1_; clear n0_ n1_; (try clear hb); (try clear hb2); (try clear hk); (try clear hi); (try clear ho0)) | ((with_reducible refine gate_dst (N := 3) rfl ?_); refine box_event ?hg (N := 3) ?hd (cs := #[.slice none 0 0, .int .u32 0]) (t := 25) ?hr ?_; (case hd => rfl); (case hg => rfl); (case hr => first | (go_simp; done) | (go_simp; rfl)); intro gb489 hg w42 hbox hb; have n0_ := Aside0.mk (Kd.S_below (by (with_reducible repeat (first | apply Kd.S_alloc | apply Kd.S_drewN | apply Kd.S_drew)); exact HO485.out) hb); have n1_ := Aside0.mk (below_step (by repeat (first | (with_reducible first | exact HB.out | apply below_alloc | apply pw_below_drewN | apply below_drew1) | exact HB.out)) hb); have n2_ := Aside0.mk (hbox); have n3_ := Aside0.mk ((by rw [hg]; exact (below_size (by repeat (first | (with_reducible first | exact HB.out | apply below_alloc | apply pw_below_drewN | apply below_drew1) | exact HB.out))) : w.heap.size ≤ gb489)); have n4_ := Aside0.mk ((by rw [hg]; exact (below_size (by repeat (first | (with_reducible first | exact HB.out | apply below_alloc | apply pw_below_drewN | apply below_drew1) | exact HB.out))) : w.heap.size ≤ gb489)); clear HO485; clear HB; have HO485 := n0_; have HB := n1_; have BK489 := n2_; have GW489 := n3_; have GE489 := n4_; clear n0_ n1_ n2_ n3_ n4_; clear hb hbox hg; obtain ⟨Ao43, co43, eo43⟩ := Kd.S_slice HO485.out; subst eo43; have hcz44_0 : w42.cell? ⟨gb489, 0, none⟩ = some (.slice none 0 0) := (blk_cell BK489.out 0).trans rfl; have hcz44_1 : w42.cell? ⟨gb489, 1, none⟩ = some (.int .u32 0) := (blk_cell BK489.out 1).trans rfl; have hfz44_0 := blk_frozen BK489.out 0; have hfz44_1 := blk_frozen BK489.out 1) | ((with_reducible refine gate_callee (f := 22) rfl ?_); refine goesL_ (some 22) rfl rfl Try.func22 (by kernel_rfl) rfl #[.agg #[.slice Ao43 t483.length co43, .int .u32 t486], .agg #[.slice none 0 0, .int .u32 0]] rfl (by (try simp only [List.map_toArray, List.map_cons, List.map_nil]); first | done | rfl | (simp only [List.length_drop, List.length_take]; rfl)) ?_; (refine (hurdleref10_Same.calls k _ _ t483 t486 _ _ ([] : List (S40)) 0 true _ ?side1 ?side2 ?side3 ?side4 A38.out).mono ?_); (case side1 => refine (Kd.S_reads' (e := 40) (base := w.heap.size) (ok := fun k_ => True) (n := t483.length) (c := co43) ?_).2.2; exact (by (with_reducible repeat (first | apply Kd.S_alloc | apply Kd.S_drewN | apply Kd.S_drew)); exact (Kd.S_mono (Kd.S_far (p := ⟨gb489, 1, none⟩) (Kd.S_far (p := ⟨gb489, 0, none⟩) (Kd.S_types HO485.out BK489.out (by decide)) (fun _ hk => hk.2) (.slice Ao43 t483.length co43)) (fun _ hk => hk.2) (.int .u32 t486)) (fun _ h_ => h_.1)))); (case side2 => exact (Kd.S_reads' HO485.out).2.1); (case side3 => exact Kd.C_nil _ _); (case side4 => exact Nat.le_refl _); rintro e w45 ⟨rfl, hb⟩; refine ⟨_, rfl, ?_⟩; have n0_ := Aside0.mk (Kd.S_below (by (with_reducible repeat (first | apply Kd.S_alloc | apply Kd.S_drewN | apply Kd.S_drew)); exact (Kd.S_mono (Kd.S_far (p := ⟨gb489, 1, none⟩) (Kd.S_far (p := ⟨gb489, 0, none⟩) (Kd.S_types HO485.out BK489.out (by decide)) (fun _ hk => hk.2) (.slice Ao43 t483.length co43)) (fun _ hk => hk.2) (.int .u32 t486)) (fun _ h_ => h_.1))) hb); have n1_ := Aside0.mk (blk_below (g := gb489) (o := .cells #[.slice Ao43 t483.length co43, .int .u32 t486] 25 (0, 0)) (by (with_reducible repeat (first | refine blk_drewN ?_ _ | refine blk_drew ?_ | refine blk_alloc ?_ _)); refine blk_put (cs := #[.slice Ao43 t483.length co43, .int .u32 0]) ?_ 1 _ rfl; (with_reducible repeat (first | refine blk_drewN ?_ _ | refine blk_drew ?_ | refine blk_alloc ?_ _)); refine blk_put (cs := #[.slice none 0 0, .int .u32 0]) ?_ 0 _ rfl; (with_reducible repeat (first | refine blk_drewN ?_ _ | refine blk_drew ?_ | refine blk_alloc ?_ _)); exact BK489.out) hb); have n2_ := Aside0.mk (below_step (by repeat (first | (with_reducible first | exact HB.out | apply below_alloc | apply pw_below_drewN | apply below_drew1 | refine below_set ?_ GE489.out) | exact HB.out)) hb); clear HO485; clear BK489; clear HB; have HO485 := n0_; have BK489 := n1_; have HB := n2_; clear n0_ n1_ n2_; (try clear hb); (try clear hb2); (try clear hk); (try clear hi)) | (go_at_call 15; (with_reducible refine (hurdlelaw10_knows.calls k  t495 _ A40.out).mono ?_); rintro e w46 ⟨rfl, hb⟩; have n0_ := Aside0.mk (Kd.S_below (by (with_reducible repeat (first | apply Kd.S_alloc | apply Kd.S_drewN | apply Kd.S_drew)); exact HO485.out) hb); have n1_ := Aside0.mk (blk_below (g := gb489) (o := .cells #[.slice Ao43 t483.length co43, .int .u32 t486] 25 (0, 0)) (by (with_reducible repeat (first | refine blk_drewN ?_ _ | refine blk_drew ?_ | refine blk_alloc ?_ _)); exact BK489.out) hb); have n2_ := Aside0.mk (below_step (by repeat (first | (with_reducible first | exact HB.out | apply below_alloc | apply pw_below_drewN | apply below_drew1 | refine below_set ?_ GE489.out) | exact HB.out)) hb); clear HO485; clear BK489; clear HB; have HO485 := n0_; have BK489 := n1_; have HB := n2_; clear n0_ n1_ n2_; (try clear hb); (try clear hb2); (try clear hk); (try clear hi)))
        go_ret
        exact ⟨by first | rfl | (simp [errW_none, errW_some] <;> rfl) | (simp [*, errW_none, errW_some] <;> rfl), by repeat (first | (with_reducible first | exact HB.out | apply below_alloc | apply pw_below_drewN | apply below_drew1 | refine below_set ?_ GE489.out) | exact HB.out)⟩
      · replace c39 := Bool.eq_false_iff.mpr c39
        subst c39
        have H1 : (some false) = some r := by rw [if_neg (show ¬ (false = true) by decide)] at H; exact H
        clear H
        have H := H1
        clear H1
        obtain rfl := Option.some.inj H
        go_enter Try.func6, Try.ntmps6
        go_wp2_with (first | ((with_reducible refine gate_callee (f := 20) rfl ?_); refine goesL_ (some 14) rfl rfl Try.func20 (by kernel_rfl) rfl #[.string a0] rfl (by (try simp only [List.map_toArray, List.map_cons, List.map_nil]); first | done | rfl | (simp only [List.length_drop, List.length_take]; rfl)) ?_; (with_reducible refine (policy_Parse.calls a0 t483 t486 t487 t488 _ A5.out).mono ?_); rintro e w47 ⟨v484, rfl, ho0, hb⟩; refine ⟨_, rfl, ?_⟩; have n0_ := Aside0.mk (Kd.S_lower ho0 (below_size (by repeat (first | (with_reducible first | exact HB.out | apply below_alloc | apply pw_below_drewN | apply below_drew1) | exact HB.out)))); have n1_ := Aside0.mk (below_step (by repeat (first | (with_reducible first | exact HB.out | apply below_alloc | apply pw_below_drewN | apply below_drew1) | exact HB.out)) hb); clear HB; have HO485 := n0_; have HB := n1_; clear n0_ n1_; (try clear hb); (try clear hb2); (try clear hk); (try clear hi); (try clear ho0)) | ((with_reducible refine gate_dst (N := 3) rfl ?_); refine box_event ?hg (N := 3) ?hd (cs := #[.slice none 0 0, .int .u32 0]) (t := 25) ?hr ?_; (case hd => rfl); (case hg => rfl); (case hr => first | (go_simp; done) | (go_simp; rfl)); intro gb489 hg w48 hbox hb; have n0_ := Aside0.mk (Kd.S_below (by (with_reducible repeat (first | apply Kd.S_alloc | apply Kd.S_drewN | apply Kd.S_drew)); exact HO485.out) hb); have n1_ := Aside0.mk (below_step (by repeat (first | (with_reducible first | exact HB.out | apply below_alloc | apply pw_below_drewN | apply below_drew1) | exact HB.out)) hb); have n2_ := Aside0.mk (hbox); have n3_ := Aside0.mk ((by rw [hg]; exact (below_size (by repeat (first | (with_reducible first | exact HB.out | apply below_alloc | apply pw_below_drewN | apply below_drew1) | exact HB.out))) : w.heap.size ≤ gb489)); have n4_ := Aside0.mk ((by rw [hg]; exact (below_size (by repeat (first | (with_reducible first | exact HB.out | apply below_alloc | apply pw_below_drewN | apply below_drew1) | exact HB.out))) : w.heap.size ≤ gb489)); clear HO485; clear HB; have HO485 := n0_; have HB := n1_; have BK489 := n2_; have GW489 := n3_; have GE489 := n4_; clear n0_ n1_ n2_ n3_ n4_; clear hb hbox hg; obtain ⟨Ao49, co49, eo49⟩ := Kd.S_slice HO485.out; subst eo49; have hcz50_0 : w48.cell? ⟨gb489, 0, none⟩ = some (.slice none 0 0) := (blk_cell BK489.out 0).trans rfl; have hcz50_1 : w48.cell? ⟨gb489, 1, none⟩ = some (.int .u32 0) := (blk_cell BK489.out 1).trans rfl; have hfz50_0 := blk_frozen BK489.out 0; have hfz50_1 := blk_frozen BK489.out 1) | ((with_reducible refine gate_callee (f := 22) rfl ?_); refine goesL_ (some 22) rfl rfl Try.func22 (by kernel_rfl) rfl #[.agg #[.slice Ao49 t483.length co49, .int .u32 t486], .agg #[.slice none 0 0, .int .u32 0]] rfl (by (try simp only [List.map_toArray, List.map_cons, List.map_nil]); first | done | rfl | (simp only [List.length_drop, List.length_take]; rfl)) ?_; (refine (hurdleref10_Same.calls k _ _ t483 t486 _ _ ([] : List (S40)) 0 false _ ?side1 ?side2 ?side3 ?side4 A38.out).mono ?_); (case side1 => refine (Kd.S_reads' (e := 40) (base := w.heap.size) (ok := fun k_ => True) (n := t483.length) (c := co49) ?_).2.2; exact (by (with_reducible repeat (first | apply Kd.S_alloc | apply Kd.S_drewN | apply Kd.S_drew)); exact (Kd.S_mono (Kd.S_far (p := ⟨gb489, 1, none⟩) (Kd.S_far (p := ⟨gb489, 0, none⟩) (Kd.S_types HO485.out BK489.out (by decide)) (fun _ hk => hk.2) (.slice Ao49 t483.length co49)) (fun _ hk => hk.2) (.int .u32 t486)) (fun _ h_ => h_.1)))); (case side2 => exact (Kd.S_reads' HO485.out).2.1); (case side3 => exact Kd.C_nil _ _); (case side4 => exact Nat.le_refl _); rintro e w51 ⟨rfl, hb⟩; refine ⟨_, rfl, ?_⟩; have n0_ := Aside0.mk (Kd.S_below (by (with_reducible repeat (first | apply Kd.S_alloc | apply Kd.S_drewN | apply Kd.S_drew)); exact (Kd.S_mono (Kd.S_far (p := ⟨gb489, 1, none⟩) (Kd.S_far (p := ⟨gb489, 0, none⟩) (Kd.S_types HO485.out BK489.out (by decide)) (fun _ hk => hk.2) (.slice Ao49 t483.length co49)) (fun _ hk => hk.2) (.int .u32 t486)) (fun _ h_ => h_.1))) hb); have n1_ := Aside0.mk (blk_below (g := gb489) (o := .cells #[.slice Ao49 t483.length co49, .int .u32 t486] 25 (0, 0)) (by (with_reducible repeat (first | refine blk_drewN ?_ _ | refine blk_drew ?_ | refine blk_alloc ?_ _)); refine blk_put (cs := #[.slice Ao49 t483.length co49, .int .u32 0]) ?_ 1 _ rfl; (with_reducible repeat (first | refine blk_drewN ?_ _ | refine blk_drew ?_ | refine blk_alloc ?_ _)); refine blk_put (cs := #[.slice none 0 0, .int .u32 0]) ?_ 0 _ rfl; (with_reducible repeat (first | refine blk_drewN ?_ _ | refine blk_drew ?_ | refine blk_alloc ?_ _)); exact BK489.out) hb); have n2_ := Aside0.mk (below_step (by repeat (first | (with_reducible first | exact HB.out | apply below_alloc | apply pw_below_drewN | apply below_drew1 | refine below_set ?_ GE489.out) | exact HB.out)) hb); clear HO485; clear BK489; clear HB; have HO485 := n0_; have BK489 := n1_; have HB := n2_; clear n0_ n1_ n2_; (try clear hb); (try clear hb2); (try clear hk); (try clear hi)))
        go_ret
        exact ⟨by first | rfl | (simp [errW_none, errW_some] <;> rfl) | (simp [*, errW_none, errW_some] <;> rfl), by repeat (first | (with_reducible first | exact HB.out | apply below_alloc | apply pw_below_drewN | apply below_drew1 | refine below_set ?_ GE489.out) | exact HB.out)⟩
def hurdlelaw10_PolicyOnly.Pure : Prop := ∀ (a0 : ByteArray), a0.size ≤ 140737488351232 → ∃ k, hurdlelaw10_PolicyOnly.f k a0 = some true
theorem hurdlelaw10_PolicyOnly.walk (P : hurdlelaw10_PolicyOnly.Pure) (a0 : ByteArray) (w : World) (w0 : a0.size ≤ 140737488351232) :
    Calls Try.prog 6 #[.string a0] w fun e w' => e = .returned (.bool true) ∧ Below w.heap.size w w' := by
  obtain ⟨k, h⟩ := P a0 w0
  refine (hurdlelaw10_PolicyOnly.calls k a0 true w h).mono ?_
  rintro e w' ⟨rfl, hd⟩
  exact ⟨rfl, hd⟩
end Go.Proofs.Ytekpbgmmogpbdaa.P
set_option linter.unusedVariables false
set_option linter.unusedSimpArgs false
set_option maxRecDepth 100000
namespace Go.Proofs.Ytekpbgmmogpbdaa.H
open Go.RowKit Go.Proofs.Ytekpbgmmogpbdaa.P Go.Proofs.YtekpbgmmogpbdaaW.PrintWords
theorem sameRule_l0 (a b c : Int) (l : List S61) (hl : l.length ≤ 1000) : ∀ (d i : Nat), i + d = l.length →
    Ev (fun k => hurdleref10_SameRule.l0 k (i : Int) a b l c a b l c) true := by
  intro d
  induction d with
  | zero =>
    intro i hi
    refine Ev.step (f := fun _ => some true) (fun k => ?_) (Ev.now _)
    simp only [hurdleref10_SameRule.l0]
    rw [if_neg (by omega)]
  | succ d ih =>
    intro i hi
    refine Ev.step (f := fun k => hurdleref10_SameRule.l0 k ((i + 1 : Nat) : Int) a b l c a b l c) (fun k => ?_) (ih (i + 1) (by omega))
    simp only [hurdleref10_SameRule.l0]
    rw [if_pos (by omega), if_pos (by omega), if_pos (by omega), if_neg (by simp), wS i (by omega)]
theorem sameRule_ev (x : S40) (hl : x.f2.length ≤ 1000) : Ev (fun k => hurdleref10_SameRule.f k x.f0 x.f1 x.f2 x.f3 x.f0 x.f1 x.f2 x.f3) true := by
  unfold hurdleref10_SameRule.f
  simp only [if_true]
  refine Ev.step (f := fun k => hurdleref10_SameRule.l0 k ((0 : Nat) : Int) x.f0 x.f1 x.f2 x.f3 x.f0 x.f1 x.f2 x.f3) (fun k => ?_) (sameRule_l0 _ _ _ _ hl x.f2.length 0 (by omega))
  simp only [hurdleref10_SameRule.j0]
  rw [if_neg (by simp)]
  rfl
theorem same_l0 (df : Int) (L : List S40) (hl : L.length ≤ 1000) (hc : ∀ x ∈ L, x.f2.length ≤ 1000) : ∀ (d i : Nat), i + d = L.length →
    Ev (fun k => hurdleref10_Same.l0 k (i : Int) L df L df) true := by
  intro d
  induction d with
  | zero =>
    intro i hi
    refine Ev.step (f := fun _ => some true) (fun k => ?_) (Ev.now _)
    simp only [hurdleref10_Same.l0]
    rw [if_neg (by omega)]
  | succ d ih =>
    intro i hi
    have hlt : i < L.length := by omega
    refine Ev.step (f := fun k => (hurdleref10_SameRule.f k L[i].f0 L[i].f1 L[i].f2 L[i].f3 L[i].f0 L[i].f1 L[i].f2 L[i].f3).bind fun t => if t = true then hurdleref10_Same.l0 k ((i + 1 : Nat) : Int) L df L df else some false) (fun k => ?_) ?_
    · simp only [hurdleref10_Same.l0]
      rw [if_pos (by omega), if_pos (by omega), if_pos (by omega), rd40 L i hlt, wS i (by omega)]
    · refine Ev.bind (sameRule_ev L[i] (hc _ (List.getElem_mem hlt))) ?_
      exact Ev.congr (fun k => if_pos rfl) (ih (i + 1) (by omega))
theorem same_ev (L : List S40) (df : Int) (hl : L.length ≤ 1000) (hc : ∀ x ∈ L, x.f2.length ≤ 1000) : Ev (fun k => hurdleref10_Same.f k L df L df) true := by
  unfold hurdleref10_Same.f
  simp only [if_true]
  refine Ev.step (f := fun k => hurdleref10_Same.l0 k ((0 : Nat) : Int) L df L df) (fun k => ?_) (same_l0 df L hl hc L.length 0 (by omega))
  simp only [hurdleref10_Same.j0]
  rw [if_neg (by simp)]
  rfl
end Go.Proofs.Ytekpbgmmogpbdaa.H
set_option linter.unusedVariables false
set_option linter.unusedSimpArgs false
set_option maxRecDepth 100000
namespace Go.Proofs.Ytekpbgmmogpbdaa.Pure
open Go.RowKit Go.Proofs.Ytekpbgmmogpbdaa.P Go.Proofs.Ytekpbgmmogpbdaa.H Go.Proofs.YtekpbgmmogpbdaaW.PrintWords Go.Proofs.YtekpbgmmogpbdaaW.PrintLast
theorem kn_bind : Ev (fun k => (hurdlelaw10_knows.f k).bind fun t => some t) true := Ev.bind knows_ev (Ev.now _)
theorem PolicyOnly : hurdlelaw10_PolicyOnly.Pure := by
  intro a0 h0
  refine Ev.rounds (g := fun k => hurdlelaw10_PolicyOnly.f k a0) ?_
  unfold hurdlelaw10_PolicyOnly.f
  by_cases hb : (a0.size : Int) > 25000
  · exact Ev.congr (fun k => if_pos hb) kn_bind
  · simp only [if_neg hb, parse_f a0 h0, Option.bind_some]
    have hp := parse_place a0.data.toList
    by_cases he : (parseV a0.data.toList).2.2.2 = 0
    · simp only [if_pos he]
      obtain ⟨L, df, i, e, hr⟩ : ∃ L df i e, parseV a0.data.toList = (L, df, i, e) := ⟨_, _, _, _, rfl⟩
      rw [hr] at he ⊢
      simp only [] at he ⊢
      subst he
      obtain ⟨hz, h1, h2, _⟩ := parse_only hr
      have hk := polOk_K h2
      have hbb := (polOk_iff hk).2 h2
      have hl : L.length ≤ 1000 := by have := h2.1; omega
      have hc : ∀ x ∈ L, x.f2.length ≤ 1000 := by intro x hx; have := (h2.2.1 x hx).2.2.2.1; omega
      have hpr := print_ev L df hk hl hc
      have hri := right_ev L df hk hl hc
      rw [if_pos hbb] at hpr
      rw [hbb] at hri
      refine Ev.bind hpr ?_
      have e1 : (ofBytes (polT L df)).toList = a0.toList := by rw [ByteArray.toList_eq, ByteArray.toList_eq, data_of, ← h1]
      simp only [e1, if_true]
      exact Ev.bind hri (by simpa using kn_bind)
    · simp only [if_neg he]
      have h3 := hp.2.2.1 he
      rw [h3.1, h3.2]
      exact Ev.bind (same_ev [] 0 (by simp) (by simp)) (by simpa using kn_bind)
end Go.Proofs.Ytekpbgmmogpbdaa.Pure
namespace Go.Proofs.Ytekpbgmmogpbdaa.policyOnly
open Go.ChangeShapes Go.WideShapes Go.ChangeAt Go.RowKit
open Go.ChangeMaps (open_string shut_string)
set_option linter.unusedVariables false
theorem own : ownKnob Try.prog.godebug = none := by kernel_rfl
set_option maxRecDepth 100000 in
theorem lifted (os : Os) (started : os.Started) (H : Type) (enc : TypeId × Value → H) :
    ReturnsInHanded {} Try.checked os 6 .any (Rows.policyOnlySpec.pre6 enc Try.prog Try.f6 Rows.policyOnlyRow.domain false) (Rows.policyOnlySpec.post enc Try.prog Try.f6 false true false false) := by
  refine returnsInHanded_of_change_sized (C := Try.checked) own started (by kernel_rfl) Try.func6
    (ChangeSpec.witness6 (enc := enc) (C := Try.checked) false ⟨#[], #[.string ByteArray.empty], []⟩ 8 (by kernel_rfl) (by kernel_rfl) (by kernel_rfl) (by kernel_rfl)) ?_
  intro W base args ds gs before hval0 hW hcnd hsz0 _
  have hsz : (DataW.weightsEach Try.prog (Try.f6.params.toList ++ Rows.policyOnlySpec.plain.varTypes Try.prog) (ds ++ gs)).all (· ≤ reachBytes) = true := hsz0
  have hval : ∀ (j : Nat) t v, Try.f6.params[j]? = some t → args[j]? = some v → Value.okWide Try.prog W .any base t v := hval0
  have hW' := hW
  obtain ⟨p, q, hA0, hV, rfl, hfz, hnd⟩ := hW
  have hA : DataW.TrodAll enc Try.prog W 0 (fun _ => true) true Try.f6.params.toList args.toList ds p := hA0
  rw [Try.params6] at hA hval hsz
  obtain ⟨v0, vs0, d0, ds0, p0, q0, hargs, rfl, rfl, h0, r0⟩ := trodAll_cons hA
  obtain ⟨rfl, rfl, rfl⟩ := trodAll_nil r0
  obtain rfl : args = #[v0] := by cases args; simp_all
  obtain ⟨rfl, rfl⟩ := trodVars_none hV
  obtain ⟨a0, rfl, rfl, rfl, y0⟩ := open_string Try.underlying9 (hval 0 9 v0 rfl rfl) h0
  have w0 : a0.size ≤ 140737488351232 := by
    have z := sized_string hsz (j := 0) (t := 9) rfl rfl
    rw [Array.length_toList] at z
    exact z
  clear hA0 hval0 hsz0 hsz
  refine (P.hurdlelaw10_PolicyOnly.walk Pure.PolicyOnly a0 W w0).mono fun e W' ⟨he, bel⟩ => ?_
  subst he
  exact ⟨_, rfl, _, _, _, [], _, [], hW', trodAll_mk1 (shut_bool Try.underlying4 _), (trodAll_cons_mk (shut_string Try.underlying9 y0) trodAll_mk0), rfl, bel.frame _, fun h => by cases h⟩
theorem over : Rows.policyOnlyRow.holds Try.pinned (OpenSpec.ofChange Rows.policyOnlySpec) :=
  OpenClaim.holds_of_wide 6 Try.f6 rfl rfl rfl rfl rfl rfl rfl ⟨rfl, rfl, rfl, rfl, rfl⟩ rfl rfl rfl rfl rfl (by kernel_rfl) Try.func6 (by kernel_rfl)
    (of_decide_eq_true (by kernel_rfl)) (by unfold Func.isWrapper; first | (rw [if_pos (by decide +kernel)]; kernel_rfl) | (rw [if_neg (by decide +kernel)]; exact ⟨rfl, rfl⟩))
    (fun os started H enc _ => lifted os started H enc)
theorem proved : Rows.PolicyOnlySaid := over
#print axioms proved
end Go.Proofs.Ytekpbgmmogpbdaa.policyOnly
namespace Go.Proofs.Ytekpbgmmogpbdaa
theorem policyOnly_holds : Rows.PolicyOnlySaid := policyOnly.proved
end Go.Proofs.Ytekpbgmmogpbdaa
