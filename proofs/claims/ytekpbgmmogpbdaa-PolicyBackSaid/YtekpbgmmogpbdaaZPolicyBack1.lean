/- A policy's text is read as it, if it isn't too long (up to 100 rules). -/
import Derived.OpenShut
import Derived.LoopTactic
import Derived.ProofKit
import Derived.ChangeOld
import Derived.DataReads
import Derived.Test.YtekpbgmmogpbdaaRows
import Derived.ShutString
import Derived.SizedLaws
import Derived.Test.YtekpbgmmogpbdaaZPolicyBack0
namespace Go.Proofs.Ytekpbgmmogpbdaa.M
open Go.RowKit Go.Proofs.Ytekpbgmmogpbdaa.H Go.Proofs.YtekpbgmmogpbdaaW.PrintWords Go.Proofs.YtekpbgmmogpbdaaW.PrintLast Go.Proofs.YtekpbgmmogpbdaaW.PrintMore
attribute [local go_sem] max2_int min2_int max_two min_two max_three min_three max_four min_four
set_option linter.unusedVariables false
set_option linter.unusedSimpArgs false
theorem k61_mk (w : World) (x : S61)  : k61.K w x [.int .i64 x.f0, .int .i64 x.f1, .int .u64 x.f2, .int .u64 x.f3] := ⟨[.int .i64 x.f0], [.int .i64 x.f1, .int .u64 x.f2, .int .u64 x.f3], rfl, rfl, ⟨[.int .i64 x.f1], [.int .u64 x.f2, .int .u64 x.f3], rfl, rfl, ⟨[.int .u64 x.f2], [.int .u64 x.f3], rfl, rfl, rfl⟩⟩⟩
theorem k40_mk (w : World) (x : S40) {A2 : Option Addr} {c2 : Nat} (l2 : x.f2.length ≤ c2) (g2 : k61.C w A2 x.f2.length x.f2) : k40.K w x [.int .u32 x.f0, .int .u32 x.f1, .slice A2 x.f2.length c2, .int .u32 x.f3] := ⟨[.int .u32 x.f0], [.int .u32 x.f1, .slice A2 x.f2.length c2, .int .u32 x.f3], rfl, rfl, ⟨[.int .u32 x.f1], [.slice A2 x.f2.length c2, .int .u32 x.f3], rfl, rfl, ⟨[.slice A2 x.f2.length c2], [.int .u32 x.f3], rfl, ⟨A2, c2, rfl, l2, g2⟩, rfl⟩⟩⟩
end Go.Proofs.Ytekpbgmmogpbdaa.M
namespace Go.Proofs.Ytekpbgmmogpbdaa.M
open Go.RowKit Go.Proofs.Ytekpbgmmogpbdaa.H Go.Proofs.YtekpbgmmogpbdaaW.PrintWords Go.Proofs.YtekpbgmmogpbdaaW.PrintLast Go.Proofs.YtekpbgmmogpbdaaW.PrintMore
attribute [local go_sem] max2_int min2_int max_two min_two max_three min_three max_four min_four
set_option linter.unusedVariables false
set_option linter.unusedSimpArgs false
def hurdlelaw10_Great.l0 : Nat → Int → List (S40) → Int → Option (Bool)
  | 0, _, _, _ => none
  | k + 1, x3, x113000, x113001 => if x3 < (x113000.length : Int) then (if 0 ≤ x3 then (if (((rd_T40 x113000 x3).f2).length : Int) > 20 then (some true) else (hurdlelaw10_Great.l0 k (wrap64 (x3 + 1)) x113000 x113001)) else (none)) else (some (decide ((x113000.length : Int) > 100)))
def hurdlelaw10_Great.f (k : Nat) (l0_0 : List (S40)) (a0_1 : Int) : Option (Bool) := hurdlelaw10_Great.l0 k 0 l0_0 a0_1
set_option maxHeartbeats 8000000 in
set_option maxRecDepth 100000 in
theorem hurdlelaw10_Great.calls (k : Nat) (A0_0 : Option Addr) (c0_0 : Nat) (l0_0 : List (S40)) (a0_1 : Int) (r : Bool) (w : World) (hr0_0 : Kd.C k40 w A0_0 l0_0.length l0_0) (hc0_0 : l0_0.length ≤ c0_0) (h : hurdlelaw10_Great.f k l0_0 a0_1 = some r) :
    Calls Try.prog 14 #[.agg #[.slice A0_0 l0_0.length c0_0, .int .u32 a0_1]] w fun e w' => e = .returned (.bool r) ∧ Below w.heap.size w w' := by
  have hu25 := Try.underlying25
  have HR0_0 := Aside0.mk hr0_0
  have HC0_0 := Aside0.mk hc0_0
  clear hr0_0 hc0_0
  have HB := Aside0.mk (Below.refl w.heap.size w)
  have H : (hurdlelaw10_Great.l0 k 0 l0_0 a0_1) = some r := h
  clear h
  have H' := Aside0.mk H
  clear H
  go_enter Try.func14, Try.ntmps14
  go_wp2_with (first | ((with_reducible refine gate_dst (N := 1) rfl ?_); refine box_event ?hg (N := 1) ?hd (cs := #[.slice A0_0 l0_0.length c0_0, .int .u32 a0_1]) (t := 25) ?hr ?_; (case hd => rfl); (case hg => rfl); (case hr => first | (go_simp; done) | (go_simp; rfl)); intro gb112 hg w2 hbox hb; have n0_ := Aside0.mk (below_step (by repeat (first | (with_reducible first | exact HB.out | apply below_alloc | apply pw_below_drewN | apply below_drew1) | exact HB.out)) hb); have n1_ := Aside0.mk (hbox); have n2_ := Aside0.mk ((by rw [hg]; exact (below_size (by repeat (first | (with_reducible first | exact HB.out | apply below_alloc | apply pw_below_drewN | apply below_drew1) | exact HB.out))) : w.heap.size ≤ gb112)); have n3_ := Aside0.mk ((by rw [hg]; exact (below_size (by repeat (first | (with_reducible first | exact HB.out | apply below_alloc | apply pw_below_drewN | apply below_drew1) | exact HB.out))) : w.heap.size ≤ gb112)); clear HB; have HB := n0_; have BK112 := n1_; have GW112 := n2_; have GE112 := n3_; clear n0_ n1_ n2_ n3_; clear hb hbox hg))
  go_loopg [3] k (fun kq v3 w' => ∃ (x3_1 : Int), v3 = .int .i64 x3_1 ∧ Aside0 (hurdlelaw10_Great.l0 kq x3_1 l0_0 a0_1 = some r) ∧ Aside0 (kq ≤ k) ∧ Aside0 (w'.heap[gb112]? = some (.cells #[(.slice A0_0 l0_0.length c0_0), .int .u32 a0_1] 25 (0, 0))) ∧ Aside0 (Below w.heap.size w w'))
  case atStart => exact ⟨(0), (by first | rfl | (simp; done) | (simp [*]; done)), H', ⟨Nat.le_refl _⟩, ⟨by (with_reducible repeat (first | refine blk_drewN ?_ _ | refine blk_drew ?_ | refine blk_alloc ?_ _)); exact BK112.out⟩, ⟨by repeat (first | (with_reducible first | exact HB.out | apply below_alloc | apply pw_below_drewN | apply below_drew1 | refine below_set ?_ GE112.out) | exact HB.out)⟩⟩
  case round =>
    clear H'
    try clear c1
    try clear p2
    obtain ⟨x3_1, rfl, HA, HK1, BK112, HB⟩ := hrel
    cases gk with
    | zero => exact absurd HA.out (by simp [hurdlelaw10_Great.l0])
    | succ k1 =>
      have H := HA.out
      clear HA
      simp only [hurdlelaw10_Great.l0] at H
      by_cases c3 : x3_1 < (l0_0.length : Int)
      · rw [if_pos c3] at H
        have c3b0 : decide (x3_1 < (l0_0.length : Int)) = true := decide_eq_true c3
        clear c3
        by_cases c4 : 0 ≤ x3_1
        · rw [if_pos c4] at H
          have c4b0 : decide (0 ≤ x3_1) = true := decide_eq_true c4
          clear c4
          by_cases c5 : (((rd_T40 l0_0 x3_1).f2).length : Int) > 20
          · rw [if_pos c5] at H
            have c5b0 : decide (20 < (((rd_T40 l0_0 x3_1).f2).length : Int)) = true := decide_eq_true c5
            have c5b1 : decide (20 < ((rd_T40 l0_0 x3_1).f2).length) = true := decide_eq_true (by omega)
            clear c5
            obtain rfl := Option.some.inj H
            have hcz6_0 : wr.cell? ⟨gb112, 0, none⟩ = some (.slice A0_0 l0_0.length c0_0) := (blk_cell BK112.out 0).trans rfl
            have hcz6_1 : wr.cell? ⟨gb112, 1, none⟩ = some (.int .u32 a0_1) := (blk_cell BK112.out 1).trans rfl
            have hfz6_0 := blk_frozen BK112.out 0
            have hfz6_1 := blk_frozen BK112.out 1
            have p113 : 0 ≤ (x3_1 : Int) := of_decide_eq_true (by first | (with_reducible assumption) | assumption)
            have q113 : x3_1 < (l0_0.length : Int) := of_decide_eq_true (by first | (with_reducible assumption) | assumption)
            obtain ⟨ad113, A113_2, c113_2, e113, hx113_0, hx113_1, hx113_2, hx113_3, hl113_2, hi113_2⟩ := at_T40 HR0_0.out x3_1 p113 q113
            cases e113
            replace hx113_0 := (HB.out.cell (World.block_lt_of_cell? w _ hx113_0)).trans hx113_0
            replace hx113_1 := (HB.out.cell (World.block_lt_of_cell? w _ hx113_1)).trans hx113_1
            replace hx113_2 := (HB.out.cell (World.block_lt_of_cell? w _ hx113_2)).trans hx113_2
            replace hx113_3 := (HB.out.cell (World.block_lt_of_cell? w _ hx113_3)).trans hx113_3
            have HR113_2 := Aside0.mk hi113_2
            have HC113_2 := Aside0.mk hl113_2
            clear hi113_2 hl113_2
            replace p113 := eq_true p113
            replace q113 := eq_true q113
            go_wp2
            go_ret
            exact ⟨by first | rfl | (simp [errW_none, errW_some] <;> rfl) | (simp [*, errW_none, errW_some] <;> rfl), by repeat (first | (with_reducible first | exact HB.out | apply below_alloc | apply pw_below_drewN | apply below_drew1 | refine below_set ?_ GE112.out) | exact HB.out)⟩
          · rw [if_neg c5] at H
            have c5b0 : decide (20 < (((rd_T40 l0_0 x3_1).f2).length : Int)) = false := decide_eq_false c5
            have c5b1 : decide (20 < ((rd_T40 l0_0 x3_1).f2).length) = false := decide_eq_false (by omega)
            clear c5
            have H' := Aside0.mk H
            clear H
            have hcz7_0 : wr.cell? ⟨gb112, 0, none⟩ = some (.slice A0_0 l0_0.length c0_0) := (blk_cell BK112.out 0).trans rfl
            have hcz7_1 : wr.cell? ⟨gb112, 1, none⟩ = some (.int .u32 a0_1) := (blk_cell BK112.out 1).trans rfl
            have hfz7_0 := blk_frozen BK112.out 0
            have hfz7_1 := blk_frozen BK112.out 1
            have p113 : 0 ≤ (x3_1 : Int) := of_decide_eq_true (by first | (with_reducible assumption) | assumption)
            have q113 : x3_1 < (l0_0.length : Int) := of_decide_eq_true (by first | (with_reducible assumption) | assumption)
            obtain ⟨ad113, A113_2, c113_2, e113, hx113_0, hx113_1, hx113_2, hx113_3, hl113_2, hi113_2⟩ := at_T40 HR0_0.out x3_1 p113 q113
            cases e113
            replace hx113_0 := (HB.out.cell (World.block_lt_of_cell? w _ hx113_0)).trans hx113_0
            replace hx113_1 := (HB.out.cell (World.block_lt_of_cell? w _ hx113_1)).trans hx113_1
            replace hx113_2 := (HB.out.cell (World.block_lt_of_cell? w _ hx113_2)).trans hx113_2
            replace hx113_3 := (HB.out.cell (World.block_lt_of_cell? w _ hx113_3)).trans hx113_3
            have HR113_2 := Aside0.mk hi113_2
            have HC113_2 := Aside0.mk hl113_2
            clear hi113_2 hl113_2
            replace p113 := eq_true p113
            replace q113 := eq_true q113
            go_wp2
            go_roundg k1
            case measure => have := HK1.out; omega
            case rel => exact ⟨(wrap64 (x3_1 + 1)), (by first | rfl | (simp; done) | (simp [*]; done)), H', ⟨by have := HK1.out; omega⟩, ⟨by (with_reducible repeat (first | refine blk_drewN ?_ _ | refine blk_drew ?_ | refine blk_alloc ?_ _)); exact BK112.out⟩, ⟨by repeat (first | (with_reducible first | exact HB.out | apply below_alloc | apply pw_below_drewN | apply below_drew1 | refine below_set ?_ GE112.out) | exact HB.out)⟩⟩
        · rw [if_neg c4] at H
          exact absurd H (by simp)
      · rw [if_neg c3] at H
        have c3b0 : decide (x3_1 < (l0_0.length : Int)) = false := decide_eq_false c3
        clear c3
        obtain rfl := Option.some.inj H
        have hcz8_0 : wr.cell? ⟨gb112, 0, none⟩ = some (.slice A0_0 l0_0.length c0_0) := (blk_cell BK112.out 0).trans rfl
        have hcz8_1 : wr.cell? ⟨gb112, 1, none⟩ = some (.int .u32 a0_1) := (blk_cell BK112.out 1).trans rfl
        have hfz8_0 := blk_frozen BK112.out 0
        have hfz8_1 := blk_frozen BK112.out 1
        go_wp2
        go_ret
        exact ⟨by first | rfl | (simp [errW_none, errW_some] <;> rfl) | (simp [*, errW_none, errW_some] <;> rfl), by repeat (first | (with_reducible first | exact HB.out | apply below_alloc | apply pw_below_drewN | apply below_drew1 | refine below_set ?_ GE112.out) | exact HB.out)⟩
end Go.Proofs.Ytekpbgmmogpbdaa.M
namespace Go.Proofs.Ytekpbgmmogpbdaa.P
open Go.RowKit Go.Proofs.Ytekpbgmmogpbdaa.H Go.Proofs.YtekpbgmmogpbdaaW.PrintWords Go.Proofs.YtekpbgmmogpbdaaW.PrintLast Go.Proofs.YtekpbgmmogpbdaaW.PrintMore
attribute [local go_sem] max2_int min2_int max_two min_two max_three min_three max_four min_four
set_option linter.unusedVariables false
set_option linter.unusedSimpArgs false
theorem k61_mk (w : World) (x : S61)  : k61.K w x [.int .i64 x.f0, .int .i64 x.f1, .int .u64 x.f2, .int .u64 x.f3] := ⟨[.int .i64 x.f0], [.int .i64 x.f1, .int .u64 x.f2, .int .u64 x.f3], rfl, rfl, ⟨[.int .i64 x.f1], [.int .u64 x.f2, .int .u64 x.f3], rfl, rfl, ⟨[.int .u64 x.f2], [.int .u64 x.f3], rfl, rfl, rfl⟩⟩⟩
theorem k40_mk (w : World) (x : S40) {A2 : Option Addr} {c2 : Nat} (l2 : x.f2.length ≤ c2) (g2 : k61.C w A2 x.f2.length x.f2) : k40.K w x [.int .u32 x.f0, .int .u32 x.f1, .slice A2 x.f2.length c2, .int .u32 x.f3] := ⟨[.int .u32 x.f0], [.int .u32 x.f1, .slice A2 x.f2.length c2, .int .u32 x.f3], rfl, rfl, ⟨[.int .u32 x.f1], [.slice A2 x.f2.length c2, .int .u32 x.f3], rfl, rfl, ⟨[.slice A2 x.f2.length c2], [.int .u32 x.f3], rfl, ⟨A2, c2, rfl, l2, g2⟩, rfl⟩⟩⟩
end Go.Proofs.Ytekpbgmmogpbdaa.P
namespace Go.Proofs.Ytekpbgmmogpbdaa.P
open Go.RowKit Go.Proofs.Ytekpbgmmogpbdaa.H Go.Proofs.YtekpbgmmogpbdaaW.PrintWords Go.Proofs.YtekpbgmmogpbdaaW.PrintLast Go.Proofs.YtekpbgmmogpbdaaW.PrintMore
attribute [local go_sem] max2_int min2_int max_two min_two max_three min_three max_four min_four
set_option linter.unusedVariables false
set_option linter.unusedSimpArgs false
def hurdlelaw10_Great.l0 : Nat → Int → List (S40) → Int → Option (Bool)
  | 0, _, _, _ => none
  | k + 1, x3, x102000, x102001 => if x3 < (x102000.length : Int) then (if 0 ≤ x3 then (if (((rd_T40 x102000 x3).f2).length : Int) > 20 then (some true) else (hurdlelaw10_Great.l0 k (wrap64 (x3 + 1)) x102000 x102001)) else (none)) else (some (decide ((x102000.length : Int) > 100)))
def hurdlelaw10_Great.f (k : Nat) (l0_0 : List (S40)) (a0_1 : Int) : Option (Bool) := hurdlelaw10_Great.l0 k 0 l0_0 a0_1
set_option maxHeartbeats 8000000 in
set_option maxRecDepth 100000 in
theorem hurdlelaw10_Great.calls (k : Nat) (A0_0 : Option Addr) (c0_0 : Nat) (l0_0 : List (S40)) (a0_1 : Int) (r : Bool) (w : World) (hr0_0 : Kd.C k40 w A0_0 l0_0.length l0_0) (hc0_0 : l0_0.length ≤ c0_0) (h : hurdlelaw10_Great.f k l0_0 a0_1 = some r) :
    Calls Try.prog 14 #[.agg #[.slice A0_0 l0_0.length c0_0, .int .u32 a0_1]] w fun e w' => e = .returned (.bool r) ∧ Below w.heap.size w w' := by
  have hu25 := Try.underlying25
  have HR0_0 := Aside0.mk hr0_0
  have HC0_0 := Aside0.mk hc0_0
  clear hr0_0 hc0_0
  have HB := Aside0.mk (Below.refl w.heap.size w)
  have H : (hurdlelaw10_Great.l0 k 0 l0_0 a0_1) = some r := h
  clear h
  have H' := Aside0.mk H
  clear H
  go_enter Try.func14, Try.ntmps14
  go_wp2_with (first | ((with_reducible refine gate_dst (N := 1) rfl ?_); refine box_event ?hg (N := 1) ?hd (cs := #[.slice A0_0 l0_0.length c0_0, .int .u32 a0_1]) (t := 25) ?hr ?_; (case hd => rfl); (case hg => rfl); (case hr => first | (go_simp; done) | (go_simp; rfl)); intro gb101 hg w2 hbox hb; have n0_ := Aside0.mk (below_step (by repeat (first | (with_reducible first | exact HB.out | apply below_alloc | apply pw_below_drewN | apply below_drew1) | exact HB.out)) hb); have n1_ := Aside0.mk (hbox); have n2_ := Aside0.mk ((by rw [hg]; exact (below_size (by repeat (first | (with_reducible first | exact HB.out | apply below_alloc | apply pw_below_drewN | apply below_drew1) | exact HB.out))) : w.heap.size ≤ gb101)); have n3_ := Aside0.mk ((by rw [hg]; exact (below_size (by repeat (first | (with_reducible first | exact HB.out | apply below_alloc | apply pw_below_drewN | apply below_drew1) | exact HB.out))) : w.heap.size ≤ gb101)); clear HB; have HB := n0_; have BK101 := n1_; have GW101 := n2_; have GE101 := n3_; clear n0_ n1_ n2_ n3_; clear hb hbox hg))
  go_loopg [3] k (fun kq v3 w' => ∃ (x3_1 : Int), v3 = .int .i64 x3_1 ∧ Aside0 (hurdlelaw10_Great.l0 kq x3_1 l0_0 a0_1 = some r) ∧ Aside0 (kq ≤ k) ∧ Aside0 (w'.heap[gb101]? = some (.cells #[(.slice A0_0 l0_0.length c0_0), .int .u32 a0_1] 25 (0, 0))) ∧ Aside0 (Below w.heap.size w w'))
  case atStart => exact ⟨(0), (by first | rfl | (simp; done) | (simp [*]; done)), H', ⟨Nat.le_refl _⟩, ⟨by (with_reducible repeat (first | refine blk_drewN ?_ _ | refine blk_drew ?_ | refine blk_alloc ?_ _)); exact BK101.out⟩, ⟨by repeat (first | (with_reducible first | exact HB.out | apply below_alloc | apply pw_below_drewN | apply below_drew1 | refine below_set ?_ GE101.out) | exact HB.out)⟩⟩
  case round =>
    clear H'
    try clear c1
    try clear p2
    obtain ⟨x3_1, rfl, HA, HK1, BK101, HB⟩ := hrel
    cases gk with
    | zero => exact absurd HA.out (by simp [hurdlelaw10_Great.l0])
    | succ k1 =>
      have H := HA.out
      clear HA
      simp only [hurdlelaw10_Great.l0] at H
      by_cases c3 : x3_1 < (l0_0.length : Int)
      · rw [if_pos c3] at H
        have c3b0 : decide (x3_1 < (l0_0.length : Int)) = true := decide_eq_true c3
        clear c3
        by_cases c4 : 0 ≤ x3_1
        · rw [if_pos c4] at H
          have c4b0 : decide (0 ≤ x3_1) = true := decide_eq_true c4
          clear c4
          by_cases c5 : (((rd_T40 l0_0 x3_1).f2).length : Int) > 20
          · rw [if_pos c5] at H
            have c5b0 : decide (20 < (((rd_T40 l0_0 x3_1).f2).length : Int)) = true := decide_eq_true c5
            have c5b1 : decide (20 < ((rd_T40 l0_0 x3_1).f2).length) = true := decide_eq_true (by omega)
            clear c5
            obtain rfl := Option.some.inj H
            have hcz6_0 : wr.cell? ⟨gb101, 0, none⟩ = some (.slice A0_0 l0_0.length c0_0) := (blk_cell BK101.out 0).trans rfl
            have hcz6_1 : wr.cell? ⟨gb101, 1, none⟩ = some (.int .u32 a0_1) := (blk_cell BK101.out 1).trans rfl
            have hfz6_0 := blk_frozen BK101.out 0
            have hfz6_1 := blk_frozen BK101.out 1
            have p102 : 0 ≤ (x3_1 : Int) := of_decide_eq_true (by first | (with_reducible assumption) | assumption)
            have q102 : x3_1 < (l0_0.length : Int) := of_decide_eq_true (by first | (with_reducible assumption) | assumption)
            obtain ⟨ad102, A102_2, c102_2, e102, hx102_0, hx102_1, hx102_2, hx102_3, hl102_2, hi102_2⟩ := at_T40 HR0_0.out x3_1 p102 q102
            cases e102
            replace hx102_0 := (HB.out.cell (World.block_lt_of_cell? w _ hx102_0)).trans hx102_0
            replace hx102_1 := (HB.out.cell (World.block_lt_of_cell? w _ hx102_1)).trans hx102_1
            replace hx102_2 := (HB.out.cell (World.block_lt_of_cell? w _ hx102_2)).trans hx102_2
            replace hx102_3 := (HB.out.cell (World.block_lt_of_cell? w _ hx102_3)).trans hx102_3
            have HR102_2 := Aside0.mk hi102_2
            have HC102_2 := Aside0.mk hl102_2
            clear hi102_2 hl102_2
            replace p102 := eq_true p102
            replace q102 := eq_true q102
            go_wp2
            go_ret
            exact ⟨by first | rfl | (simp [errW_none, errW_some] <;> rfl) | (simp [*, errW_none, errW_some] <;> rfl), by repeat (first | (with_reducible first | exact HB.out | apply below_alloc | apply pw_below_drewN | apply below_drew1 | refine below_set ?_ GE101.out) | exact HB.out)⟩
          · rw [if_neg c5] at H
            have c5b0 : decide (20 < (((rd_T40 l0_0 x3_1).f2).length : Int)) = false := decide_eq_false c5
            have c5b1 : decide (20 < ((rd_T40 l0_0 x3_1).f2).length) = false := decide_eq_false (by omega)
            clear c5
            have H' := Aside0.mk H
            clear H
            have hcz7_0 : wr.cell? ⟨gb101, 0, none⟩ = some (.slice A0_0 l0_0.length c0_0) := (blk_cell BK101.out 0).trans rfl
            have hcz7_1 : wr.cell? ⟨gb101, 1, none⟩ = some (.int .u32 a0_1) := (blk_cell BK101.out 1).trans rfl
            have hfz7_0 := blk_frozen BK101.out 0
            have hfz7_1 := blk_frozen BK101.out 1
            have p102 : 0 ≤ (x3_1 : Int) := of_decide_eq_true (by first | (with_reducible assumption) | assumption)
            have q102 : x3_1 < (l0_0.length : Int) := of_decide_eq_true (by first | (with_reducible assumption) | assumption)
            obtain ⟨ad102, A102_2, c102_2, e102, hx102_0, hx102_1, hx102_2, hx102_3, hl102_2, hi102_2⟩ := at_T40 HR0_0.out x3_1 p102 q102
            cases e102
            replace hx102_0 := (HB.out.cell (World.block_lt_of_cell? w _ hx102_0)).trans hx102_0
            replace hx102_1 := (HB.out.cell (World.block_lt_of_cell? w _ hx102_1)).trans hx102_1
            replace hx102_2 := (HB.out.cell (World.block_lt_of_cell? w _ hx102_2)).trans hx102_2
            replace hx102_3 := (HB.out.cell (World.block_lt_of_cell? w _ hx102_3)).trans hx102_3
            have HR102_2 := Aside0.mk hi102_2
            have HC102_2 := Aside0.mk hl102_2
            clear hi102_2 hl102_2
            replace p102 := eq_true p102
            replace q102 := eq_true q102
            go_wp2
            go_roundg k1
            case measure => have := HK1.out; omega
            case rel => exact ⟨(wrap64 (x3_1 + 1)), (by first | rfl | (simp; done) | (simp [*]; done)), H', ⟨by have := HK1.out; omega⟩, ⟨by (with_reducible repeat (first | refine blk_drewN ?_ _ | refine blk_drew ?_ | refine blk_alloc ?_ _)); exact BK101.out⟩, ⟨by repeat (first | (with_reducible first | exact HB.out | apply below_alloc | apply pw_below_drewN | apply below_drew1 | refine below_set ?_ GE101.out) | exact HB.out)⟩⟩
        · rw [if_neg c4] at H
          exact absurd H (by simp)
      · rw [if_neg c3] at H
        have c3b0 : decide (x3_1 < (l0_0.length : Int)) = false := decide_eq_false c3
        clear c3
        obtain rfl := Option.some.inj H
        have hcz8_0 : wr.cell? ⟨gb101, 0, none⟩ = some (.slice A0_0 l0_0.length c0_0) := (blk_cell BK101.out 0).trans rfl
        have hcz8_1 : wr.cell? ⟨gb101, 1, none⟩ = some (.int .u32 a0_1) := (blk_cell BK101.out 1).trans rfl
        have hfz8_0 := blk_frozen BK101.out 0
        have hfz8_1 := blk_frozen BK101.out 1
        go_wp2
        go_ret
        exact ⟨by first | rfl | (simp [errW_none, errW_some] <;> rfl) | (simp [*, errW_none, errW_some] <;> rfl), by repeat (first | (with_reducible first | exact HB.out | apply below_alloc | apply pw_below_drewN | apply below_drew1 | refine below_set ?_ GE101.out) | exact HB.out)⟩
end Go.Proofs.Ytekpbgmmogpbdaa.P
namespace Go.Proofs.Ytekpbgmmogpbdaa.P
open Go.RowKit Go.Proofs.Ytekpbgmmogpbdaa.H Go.Proofs.YtekpbgmmogpbdaaW.PrintWords Go.Proofs.YtekpbgmmogpbdaaW.PrintLast Go.Proofs.YtekpbgmmogpbdaaW.PrintMore
attribute [local go_sem] max2_int min2_int max_two min_two max_three min_three max_four min_four
set_option linter.unusedVariables false
set_option linter.unusedSimpArgs false
theorem eqA61 (d : Nat) (w : World) (x0 y0 : Int) (x1 y1 : Int) (x2 y2 : Int) (x3 y3 : Int) :
    (Op.equalIn (d + 2) 61 (.agg #[.int .i64 x0, .int .i64 x1, .int .u64 x2, .int .u64 x3]) (.agg #[.int .i64 y0, .int .i64 y1, .int .u64 y2, .int .u64 y3])).run Try.prog w = .ok (x0 == y0 && (x1 == y1 && (x2 == y2 && (x3 == y3)))) w := by
  refine eqA_of Try.underlying61 (by kernel_rfl) ?_
  refine eqf_cons (by rfl) (by go_simp; rfl) (by go_simp; rfl) (by go_simp) ?_
  refine eqf_cons (by rfl) (by go_simp; rfl) (by go_simp; rfl) (by go_simp) ?_
  refine eqf_cons (by rfl) (by go_simp; rfl) (by go_simp; rfl) (by go_simp) ?_
  exact eqf_last (by rfl) (by go_simp; rfl) (by go_simp; rfl) (by go_simp)
end Go.Proofs.Ytekpbgmmogpbdaa.P
namespace Go.Proofs.Ytekpbgmmogpbdaa.P
open Go.RowKit Go.Proofs.Ytekpbgmmogpbdaa.H Go.Proofs.YtekpbgmmogpbdaaW.PrintWords Go.Proofs.YtekpbgmmogpbdaaW.PrintLast Go.Proofs.YtekpbgmmogpbdaaW.PrintMore
attribute [local go_sem] max2_int min2_int max_two min_two max_three min_three max_four min_four
set_option linter.unusedVariables false
set_option linter.unusedSimpArgs false
attribute [local go_sem high] eqA61
mutual
def hurdleref10_SameRule.j0 : Nat → Bool → Int → Int → List (S61) → Int → Int → Int → List (S61) → Int → Option (Bool)
  | 0, _, _, _, _, _, _, _, _, _ => none
  | k + 1, x33, x441000, x441001, x441002, x441003, x442000, x442001, x442002, x442003 => if x33 = true then (some false) else (hurdleref10_SameRule.l0 k 0 x441000 x441001 x441002 x441003 x442000 x442001 x442002 x442003)
def hurdleref10_SameRule.l0 : Nat → Int → Int → Int → List (S61) → Int → Int → Int → List (S61) → Int → Option (Bool)
  | 0, _, _, _, _, _, _, _, _, _ => none
  | k + 1, x5, x441000, x441001, x441002, x441003, x442000, x442001, x442002, x442003 => if x5 < (x441002.length : Int) then (if 0 ≤ x5 then (if x5 < (x442002.length : Int) then (if (!(((rd_T61 x441002 x5).f0) == ((rd_T61 x442002 x5).f0)) || (!(((rd_T61 x441002 x5).f1) == ((rd_T61 x442002 x5).f1)) || (!(((rd_T61 x441002 x5).f2) == ((rd_T61 x442002 x5).f2)) || (!(((rd_T61 x441002 x5).f3) == ((rd_T61 x442002 x5).f3)))))) = true then (some false) else (hurdleref10_SameRule.l0 k (wrap64 (x5 + 1)) x441000 x441001 x441002 x441003 x442000 x442001 x442002 x442003)) else (none)) else (none)) else (some true)
end
def hurdleref10_SameRule.f (k : Nat) (a0_0 : Int) (a0_1 : Int) (l0_2 : List (S61)) (a0_3 : Int) (a1_0 : Int) (a1_1 : Int) (l1_2 : List (S61)) (a1_3 : Int) : Option (Bool) := if a0_0 = a1_0 then (if a0_1 = a1_1 then (if a0_3 = a1_3 then (hurdleref10_SameRule.j0 k ((l0_2.length : Int) != (l1_2.length : Int)) a0_0 a0_1 l0_2 a0_3 a1_0 a1_1 l1_2 a1_3) else (hurdleref10_SameRule.j0 k true a0_0 a0_1 l0_2 a0_3 a1_0 a1_1 l1_2 a1_3)) else (hurdleref10_SameRule.j0 k true a0_0 a0_1 l0_2 a0_3 a1_0 a1_1 l1_2 a1_3)) else (hurdleref10_SameRule.j0 k true a0_0 a0_1 l0_2 a0_3 a1_0 a1_1 l1_2 a1_3)
set_option maxHeartbeats 8000000 in
set_option maxRecDepth 100000 in
theorem hurdleref10_SameRule.calls (k : Nat) (a0_0 : Int) (a0_1 : Int) (A0_2 : Option Addr) (c0_2 : Nat) (l0_2 : List (S61)) (a0_3 : Int) (a1_0 : Int) (a1_1 : Int) (A1_2 : Option Addr) (c1_2 : Nat) (l1_2 : List (S61)) (a1_3 : Int) (r : Bool) (w : World) (hr0_2 : Kd.C k61 w A0_2 l0_2.length l0_2) (hc0_2 : l0_2.length ≤ c0_2) (hr1_2 : Kd.C k61 w A1_2 l1_2.length l1_2) (hc1_2 : l1_2.length ≤ c1_2) (h : hurdleref10_SameRule.f k a0_0 a0_1 l0_2 a0_3 a1_0 a1_1 l1_2 a1_3 = some r) :
    Calls Try.prog 44 #[.agg #[.int .u32 a0_0, .int .u32 a0_1, .slice A0_2 l0_2.length c0_2, .int .u32 a0_3], .agg #[.int .u32 a1_0, .int .u32 a1_1, .slice A1_2 l1_2.length c1_2, .int .u32 a1_3]] w fun e w' => e = .returned (.bool r) ∧ Below w.heap.size w w' := by
  have hu40 := Try.underlying40
  have hu61 := Try.underlying61
  have HR0_2 := Aside0.mk hr0_2
  have HC0_2 := Aside0.mk hc0_2
  clear hr0_2 hc0_2
  have HR1_2 := Aside0.mk hr1_2
  have HC1_2 := Aside0.mk hc1_2
  clear hr1_2 hc1_2
  have HB := Aside0.mk (Below.refl w.heap.size w)
  have H : (if a0_0 = a1_0 then (if a0_1 = a1_1 then (if a0_3 = a1_3 then (hurdleref10_SameRule.j0 k ((l0_2.length : Int) != (l1_2.length : Int)) a0_0 a0_1 l0_2 a0_3 a1_0 a1_1 l1_2 a1_3) else (hurdleref10_SameRule.j0 k true a0_0 a0_1 l0_2 a0_3 a1_0 a1_1 l1_2 a1_3)) else (hurdleref10_SameRule.j0 k true a0_0 a0_1 l0_2 a0_3 a1_0 a1_1 l1_2 a1_3)) else (hurdleref10_SameRule.j0 k true a0_0 a0_1 l0_2 a0_3 a1_0 a1_1 l1_2 a1_3)) = some r := h
  clear h
  have HC3 := Aside0.mk H
  clear H
  go_enter Try.func44, Try.ntmps44
  go_upto_region 1 with (first | ((with_reducible refine gate_dst (N := 2) rfl ?_); (try (refine gate_guard (by rfl) ?_; dsimp only)); refine box_event ?hg (N := 2) ?hd (cs := #[.int .u32 a0_0, .int .u32 a0_1, .slice A0_2 l0_2.length c0_2, .int .u32 a0_3]) (t := 40) ?hr ?_; (case hd => rfl); (case hg => rfl); (case hr => first | (go_simp; done) | (go_simp; rfl)); intro gb440 hg w4 hbox hb; have n0_ := Aside0.mk (below_step (by repeat (first | (with_reducible first | exact HB.out | apply below_alloc | apply pw_below_drewN | apply below_drew1) | exact HB.out)) hb); have n1_ := Aside0.mk (hbox); have n2_ := Aside0.mk ((by rw [hg]; exact (below_size (by repeat (first | (with_reducible first | exact HB.out | apply below_alloc | apply pw_below_drewN | apply below_drew1) | exact HB.out))) : w.heap.size ≤ gb440)); have n3_ := Aside0.mk ((by rw [hg]; exact (below_size (by repeat (first | (with_reducible first | exact HB.out | apply below_alloc | apply pw_below_drewN | apply below_drew1) | exact HB.out))) : w.heap.size ≤ gb440)); clear HB; have HB := n0_; have BK440 := n1_; have GW440 := n2_; have GE440 := n3_; clear n0_ n1_ n2_ n3_; clear hb hbox hg) | ((with_reducible refine gate_dst (N := 3) rfl ?_); (try (refine gate_guard (by rfl) ?_; dsimp only)); refine box_event ?hg (N := 3) ?hd (cs := #[.int .u32 a1_0, .int .u32 a1_1, .slice A1_2 l1_2.length c1_2, .int .u32 a1_3]) (t := 40) ?hr ?_; (case hd => rfl); (case hg => rfl); (case hr => first | (go_simp; done) | (go_simp; rfl)); intro gb441 hg w5 hbox hb; have n0_ := Aside0.mk (blk_below (g := gb440) (o := .cells #[.int .u32 a0_0, .int .u32 a0_1, .slice A0_2 l0_2.length c0_2, .int .u32 a0_3] 40 (0, 0)) (by (with_reducible repeat (first | refine blk_drewN ?_ _ | refine blk_drew ?_ | refine blk_alloc ?_ _)); exact BK440.out) hb); have n1_ := Aside0.mk (below_step (by repeat (first | (with_reducible first | exact HB.out | apply below_alloc | apply pw_below_drewN | apply below_drew1 | refine below_set ?_ GE440.out) | exact HB.out)) hb); have n2_ := Aside0.mk (hbox); have n3_ := Aside0.mk ((by rw [hg]; exact (below_size (by repeat (first | (with_reducible first | exact HB.out | apply below_alloc | apply pw_below_drewN | apply below_drew1 | refine below_set ?_ GE440.out) | exact HB.out))) : w.heap.size ≤ gb441)); have n4_ := Aside0.mk ((by rw [hg]; exact (below_size (by repeat (first | (with_reducible first | exact HB.out | apply below_alloc | apply pw_below_drewN | apply below_drew1 | refine below_set ?_ GE440.out) | exact HB.out))) : w.heap.size ≤ gb441)); have n5_ := Aside0.mk ((by rw [hg]; exact Nat.ne_of_lt (blk_lt (g := gb440) (o := .cells #[.int .u32 a0_0, .int .u32 a0_1, .slice A0_2 l0_2.length c0_2, .int .u32 a0_3] 40 (0, 0)) (by (with_reducible repeat (first | refine blk_drewN ?_ _ | refine blk_drew ?_ | refine blk_alloc ?_ _)); exact BK440.out)) : gb440 ≠ gb441)); have n6_ := Aside0.mk ((by rw [hg]; exact Nat.ne_of_gt (blk_lt (g := gb440) (o := .cells #[.int .u32 a0_0, .int .u32 a0_1, .slice A0_2 l0_2.length c0_2, .int .u32 a0_3] 40 (0, 0)) (by (with_reducible repeat (first | refine blk_drewN ?_ _ | refine blk_drew ?_ | refine blk_alloc ?_ _)); exact BK440.out)) : gb441 ≠ gb440)); clear BK440; clear HB; have BK440 := n0_; have HB := n1_; have BK441 := n2_; have GW441 := n3_; have GE441 := n4_; have NB440_441 := n5_; have NB441_440 := n6_; clear n0_ n1_ n2_ n3_ n4_ n5_ n6_; clear hb hbox hg))
  repeat (go_quiet (first | ((with_reducible refine gate_dst (N := 2) rfl ?_); (try (refine gate_guard (by rfl) ?_; dsimp only)); refine box_event ?hg (N := 2) ?hd (cs := #[.int .u32 a0_0, .int .u32 a0_1, .slice A0_2 l0_2.length c0_2, .int .u32 a0_3]) (t := 40) ?hr ?_; (case hd => rfl); (case hg => rfl); (case hr => first | (go_simp; done) | (go_simp; rfl)); intro gb440 hg w4 hbox hb; have n0_ := Aside0.mk (below_step (by repeat (first | (with_reducible first | exact HB.out | apply below_alloc | apply pw_below_drewN | apply below_drew1) | exact HB.out)) hb); have n1_ := Aside0.mk (hbox); have n2_ := Aside0.mk ((by rw [hg]; exact (below_size (by repeat (first | (with_reducible first | exact HB.out | apply below_alloc | apply pw_below_drewN | apply below_drew1) | exact HB.out))) : w.heap.size ≤ gb440)); have n3_ := Aside0.mk ((by rw [hg]; exact (below_size (by repeat (first | (with_reducible first | exact HB.out | apply below_alloc | apply pw_below_drewN | apply below_drew1) | exact HB.out))) : w.heap.size ≤ gb440)); clear HB; have HB := n0_; have BK440 := n1_; have GW440 := n2_; have GE440 := n3_; clear n0_ n1_ n2_ n3_; clear hb hbox hg) | ((with_reducible refine gate_dst (N := 3) rfl ?_); (try (refine gate_guard (by rfl) ?_; dsimp only)); refine box_event ?hg (N := 3) ?hd (cs := #[.int .u32 a1_0, .int .u32 a1_1, .slice A1_2 l1_2.length c1_2, .int .u32 a1_3]) (t := 40) ?hr ?_; (case hd => rfl); (case hg => rfl); (case hr => first | (go_simp; done) | (go_simp; rfl)); intro gb441 hg w5 hbox hb; have n0_ := Aside0.mk (blk_below (g := gb440) (o := .cells #[.int .u32 a0_0, .int .u32 a0_1, .slice A0_2 l0_2.length c0_2, .int .u32 a0_3] 40 (0, 0)) (by (with_reducible repeat (first | refine blk_drewN ?_ _ | refine blk_drew ?_ | refine blk_alloc ?_ _)); exact BK440.out) hb); have n1_ := Aside0.mk (below_step (by repeat (first | (with_reducible first | exact HB.out | apply below_alloc | apply pw_below_drewN | apply below_drew1 | refine below_set ?_ GE440.out) | exact HB.out)) hb); have n2_ := Aside0.mk (hbox); have n3_ := Aside0.mk ((by rw [hg]; exact (below_size (by repeat (first | (with_reducible first | exact HB.out | apply below_alloc | apply pw_below_drewN | apply below_drew1 | refine below_set ?_ GE440.out) | exact HB.out))) : w.heap.size ≤ gb441)); have n4_ := Aside0.mk ((by rw [hg]; exact (below_size (by repeat (first | (with_reducible first | exact HB.out | apply below_alloc | apply pw_below_drewN | apply below_drew1 | refine below_set ?_ GE440.out) | exact HB.out))) : w.heap.size ≤ gb441)); have n5_ := Aside0.mk ((by rw [hg]; exact Nat.ne_of_lt (blk_lt (g := gb440) (o := .cells #[.int .u32 a0_0, .int .u32 a0_1, .slice A0_2 l0_2.length c0_2, .int .u32 a0_3] 40 (0, 0)) (by (with_reducible repeat (first | refine blk_drewN ?_ _ | refine blk_drew ?_ | refine blk_alloc ?_ _)); exact BK440.out)) : gb440 ≠ gb441)); have n6_ := Aside0.mk ((by rw [hg]; exact Nat.ne_of_gt (blk_lt (g := gb440) (o := .cells #[.int .u32 a0_0, .int .u32 a0_1, .slice A0_2 l0_2.length c0_2, .int .u32 a0_3] 40 (0, 0)) (by (with_reducible repeat (first | refine blk_drewN ?_ _ | refine blk_drew ?_ | refine blk_alloc ?_ _)); exact BK440.out)) : gb441 ≠ gb440)); clear BK440; clear HB; have BK440 := n0_; have HB := n1_; have BK441 := n2_; have GW441 := n3_; have GE441 := n4_; have NB440_441 := n5_; have NB441_440 := n6_; clear n0_ n1_ n2_ n3_ n4_ n5_ n6_; clear hb hbox hg)); go_upto_region 1 with (first | ((with_reducible refine gate_dst (N := 2) rfl ?_); (try (refine gate_guard (by rfl) ?_; dsimp only)); refine box_event ?hg (N := 2) ?hd (cs := #[.int .u32 a0_0, .int .u32 a0_1, .slice A0_2 l0_2.length c0_2, .int .u32 a0_3]) (t := 40) ?hr ?_; (case hd => rfl); (case hg => rfl); (case hr => first | (go_simp; done) | (go_simp; rfl)); intro gb440 hg w4 hbox hb; have n0_ := Aside0.mk (below_step (by repeat (first | (with_reducible first | exact HB.out | apply below_alloc | apply pw_below_drewN | apply below_drew1) | exact HB.out)) hb); have n1_ := Aside0.mk (hbox); have n2_ := Aside0.mk ((by rw [hg]; exact (below_size (by repeat (first | (with_reducible first | exact HB.out | apply below_alloc | apply pw_below_drewN | apply below_drew1) | exact HB.out))) : w.heap.size ≤ gb440)); have n3_ := Aside0.mk ((by rw [hg]; exact (below_size (by repeat (first | (with_reducible first | exact HB.out | apply below_alloc | apply pw_below_drewN | apply below_drew1) | exact HB.out))) : w.heap.size ≤ gb440)); clear HB; have HB := n0_; have BK440 := n1_; have GW440 := n2_; have GE440 := n3_; clear n0_ n1_ n2_ n3_; clear hb hbox hg) | ((with_reducible refine gate_dst (N := 3) rfl ?_); (try (refine gate_guard (by rfl) ?_; dsimp only)); refine box_event ?hg (N := 3) ?hd (cs := #[.int .u32 a1_0, .int .u32 a1_1, .slice A1_2 l1_2.length c1_2, .int .u32 a1_3]) (t := 40) ?hr ?_; (case hd => rfl); (case hg => rfl); (case hr => first | (go_simp; done) | (go_simp; rfl)); intro gb441 hg w5 hbox hb; have n0_ := Aside0.mk (blk_below (g := gb440) (o := .cells #[.int .u32 a0_0, .int .u32 a0_1, .slice A0_2 l0_2.length c0_2, .int .u32 a0_3] 40 (0, 0)) (by (with_reducible repeat (first | refine blk_drewN ?_ _ | refine blk_drew ?_ | refine blk_alloc ?_ _)); exact BK440.out) hb); have n1_ := Aside0.mk (below_step (by repeat (first | (with_reducible first | exact HB.out | apply below_alloc | apply pw_below_drewN | apply below_drew1 | refine below_set ?_ GE440.out) | exact HB.out)) hb); have n2_ := Aside0.mk (hbox); have n3_ := Aside0.mk ((by rw [hg]; exact (below_size (by repeat (first | (with_reducible first | exact HB.out | apply below_alloc | apply pw_below_drewN | apply below_drew1 | refine below_set ?_ GE440.out) | exact HB.out))) : w.heap.size ≤ gb441)); have n4_ := Aside0.mk ((by rw [hg]; exact (below_size (by repeat (first | (with_reducible first | exact HB.out | apply below_alloc | apply pw_below_drewN | apply below_drew1 | refine below_set ?_ GE440.out) | exact HB.out))) : w.heap.size ≤ gb441)); have n5_ := Aside0.mk ((by rw [hg]; exact Nat.ne_of_lt (blk_lt (g := gb440) (o := .cells #[.int .u32 a0_0, .int .u32 a0_1, .slice A0_2 l0_2.length c0_2, .int .u32 a0_3] 40 (0, 0)) (by (with_reducible repeat (first | refine blk_drewN ?_ _ | refine blk_drew ?_ | refine blk_alloc ?_ _)); exact BK440.out)) : gb440 ≠ gb441)); have n6_ := Aside0.mk ((by rw [hg]; exact Nat.ne_of_gt (blk_lt (g := gb440) (o := .cells #[.int .u32 a0_0, .int .u32 a0_1, .slice A0_2 l0_2.length c0_2, .int .u32 a0_3] 40 (0, 0)) (by (with_reducible repeat (first | refine blk_drewN ?_ _ | refine blk_drew ?_ | refine blk_alloc ?_ _)); exact BK440.out)) : gb441 ≠ gb440)); clear BK440; clear HB; have BK440 := n0_; have HB := n1_; have BK441 := n2_; have GW441 := n3_; have GE441 := n4_; have NB440_441 := n5_; have NB441_440 := n6_; clear n0_ n1_ n2_ n3_ n4_ n5_ n6_; clear hb hbox hg)))
  (try simp only [Act.put, List.setIfInBounds_toArray, List.set_cons_zero, List.set_cons_succ])
  go_cut [33] (fun v33 wc => ∃ (kq : Nat) (x33_2 : Bool), v33 = .bool x33_2 ∧ Aside0 (hurdleref10_SameRule.j0 kq x33_2 a0_0 a0_1 l0_2 a0_3 a1_0 a1_1 l1_2 a1_3 = some r) ∧ Aside0 (kq ≤ k) ∧ Aside0 (wc.heap[gb440]? = some (.cells #[.int .u32 a0_0, .int .u32 a0_1, (.slice A0_2 l0_2.length c0_2), .int .u32 a0_3] 40 (0, 0))) ∧ Aside0 (wc.heap[gb441]? = some (.cells #[.int .u32 a1_0, .int .u32 a1_1, (.slice A1_2 l1_2.length c1_2), .int .u32 a1_3] 40 (0, 0))) ∧ Aside0 (Below w.heap.size w wc))
  case first =>
    have H := HC3.out
    clear HC3
    by_cases c6 : a0_0 = a1_0
    · rw [if_pos c6] at H
      have c6b0 : (a0_0 == a1_0) = true := beq_iff_eq.mpr c6
      have c6b1 : (a0_0 != a1_0) = false := bne_eq_false_iff_eq.mpr c6
      clear c6
      (first | rw [c6b0] | (simp only [i64_w, i32_w]; rw [c6b0]) | skip)
      by_cases c7 : a0_1 = a1_1
      · rw [if_pos c7] at H
        have c7b0 : (a0_1 == a1_1) = true := beq_iff_eq.mpr c7
        have c7b1 : (a0_1 != a1_1) = false := bne_eq_false_iff_eq.mpr c7
        clear c7
        by_cases c8 : a0_3 = a1_3
        · rw [if_pos c8] at H
          have c8b0 : (a0_3 == a1_3) = true := beq_iff_eq.mpr c8
          have c8b1 : (a0_3 != a1_3) = false := bne_eq_false_iff_eq.mpr c8
          clear c8
          have H' := Aside0.mk H
          clear H
          have hnb9 := NB440_441.out
          have hnc9 := NB441_440.out
          have hcz10_0 : w5.cell? ⟨gb440, 0, none⟩ = some (.int .u32 a0_0) := (blk_cell BK440.out 0).trans rfl
          have hcz10_1 : w5.cell? ⟨gb440, 1, none⟩ = some (.int .u32 a0_1) := (blk_cell BK440.out 1).trans rfl
          have hcz10_2 : w5.cell? ⟨gb440, 2, none⟩ = some (.slice A0_2 l0_2.length c0_2) := (blk_cell BK440.out 2).trans rfl
          have hcz10_3 : w5.cell? ⟨gb440, 3, none⟩ = some (.int .u32 a0_3) := (blk_cell BK440.out 3).trans rfl
          have hfz10_0 := blk_frozen BK440.out 0
          have hfz10_1 := blk_frozen BK440.out 1
          have hfz10_2 := blk_frozen BK440.out 2
          have hfz10_3 := blk_frozen BK440.out 3
          have hcz11_0 : w5.cell? ⟨gb441, 0, none⟩ = some (.int .u32 a1_0) := (blk_cell BK441.out 0).trans rfl
          have hcz11_1 : w5.cell? ⟨gb441, 1, none⟩ = some (.int .u32 a1_1) := (blk_cell BK441.out 1).trans rfl
          have hcz11_2 : w5.cell? ⟨gb441, 2, none⟩ = some (.slice A1_2 l1_2.length c1_2) := (blk_cell BK441.out 2).trans rfl
          have hcz11_3 : w5.cell? ⟨gb441, 3, none⟩ = some (.int .u32 a1_3) := (blk_cell BK441.out 3).trans rfl
          have hfz11_0 := blk_frozen BK441.out 0
          have hfz11_1 := blk_frozen BK441.out 1
          have hfz11_2 := blk_frozen BK441.out 2
          have hfz11_3 := blk_frozen BK441.out 3
          go_wp2
          repeat (go_quiet (fail); try go_wp2)
          go_meet
          case rel => exact ⟨_, (((l0_2.length : Int) != (l1_2.length : Int))), (by first | rfl | (simp; done) | (simp [*]; done)), H', ⟨by first | omega | exact Nat.le_refl _⟩, ⟨by (with_reducible repeat (first | refine blk_drewN ?_ _ | refine blk_drew ?_ | refine blk_alloc ?_ _)); exact BK440.out⟩, ⟨by (with_reducible repeat (first | refine blk_drewN ?_ _ | refine blk_drew ?_ | refine blk_alloc ?_ _)); exact BK441.out⟩, ⟨by repeat (first | (with_reducible first | exact HB.out | apply below_alloc | apply pw_below_drewN | apply below_drew1 | refine below_set ?_ GE440.out | refine below_set ?_ GE441.out) | exact HB.out)⟩⟩
        · rw [if_neg c8] at H
          have c8b0 : (a0_3 == a1_3) = false := beq_eq_false_iff_ne.mpr c8
          have c8b1 : (a0_3 != a1_3) = true := bne_iff_ne.mpr c8
          have H' := Aside0.mk H
          clear H
          have hnb12 := NB440_441.out
          have hnc12 := NB441_440.out
          have hcz13_0 : w5.cell? ⟨gb440, 0, none⟩ = some (.int .u32 a0_0) := (blk_cell BK440.out 0).trans rfl
          have hcz13_1 : w5.cell? ⟨gb440, 1, none⟩ = some (.int .u32 a0_1) := (blk_cell BK440.out 1).trans rfl
          have hcz13_2 : w5.cell? ⟨gb440, 2, none⟩ = some (.slice A0_2 l0_2.length c0_2) := (blk_cell BK440.out 2).trans rfl
          have hcz13_3 : w5.cell? ⟨gb440, 3, none⟩ = some (.int .u32 a0_3) := (blk_cell BK440.out 3).trans rfl
          have hfz13_0 := blk_frozen BK440.out 0
          have hfz13_1 := blk_frozen BK440.out 1
          have hfz13_2 := blk_frozen BK440.out 2
          have hfz13_3 := blk_frozen BK440.out 3
          have hcz14_0 : w5.cell? ⟨gb441, 0, none⟩ = some (.int .u32 a1_0) := (blk_cell BK441.out 0).trans rfl
          have hcz14_1 : w5.cell? ⟨gb441, 1, none⟩ = some (.int .u32 a1_1) := (blk_cell BK441.out 1).trans rfl
          have hcz14_2 : w5.cell? ⟨gb441, 2, none⟩ = some (.slice A1_2 l1_2.length c1_2) := (blk_cell BK441.out 2).trans rfl
          have hcz14_3 : w5.cell? ⟨gb441, 3, none⟩ = some (.int .u32 a1_3) := (blk_cell BK441.out 3).trans rfl
          have hfz14_0 := blk_frozen BK441.out 0
          have hfz14_1 := blk_frozen BK441.out 1
          have hfz14_2 := blk_frozen BK441.out 2
          have hfz14_3 := blk_frozen BK441.out 3
          go_wp2
          repeat (go_quiet (fail); try go_wp2)
          go_meet
          case rel => exact ⟨_, (true), (by first | rfl | (simp; done) | (simp [*]; done)), H', ⟨by first | omega | exact Nat.le_refl _⟩, ⟨by (with_reducible repeat (first | refine blk_drewN ?_ _ | refine blk_drew ?_ | refine blk_alloc ?_ _)); exact BK440.out⟩, ⟨by (with_reducible repeat (first | refine blk_drewN ?_ _ | refine blk_drew ?_ | refine blk_alloc ?_ _)); exact BK441.out⟩, ⟨by repeat (first | (with_reducible first | exact HB.out | apply below_alloc | apply pw_below_drewN | apply below_drew1 | refine below_set ?_ GE440.out | refine below_set ?_ GE441.out) | exact HB.out)⟩⟩
      · rw [if_neg c7] at H
        have c7b0 : (a0_1 == a1_1) = false := beq_eq_false_iff_ne.mpr c7
        have c7b1 : (a0_1 != a1_1) = true := bne_iff_ne.mpr c7
        have H' := Aside0.mk H
        clear H
        have hnb15 := NB440_441.out
        have hnc15 := NB441_440.out
        have hcz16_0 : w5.cell? ⟨gb440, 0, none⟩ = some (.int .u32 a0_0) := (blk_cell BK440.out 0).trans rfl
        have hcz16_1 : w5.cell? ⟨gb440, 1, none⟩ = some (.int .u32 a0_1) := (blk_cell BK440.out 1).trans rfl
        have hcz16_2 : w5.cell? ⟨gb440, 2, none⟩ = some (.slice A0_2 l0_2.length c0_2) := (blk_cell BK440.out 2).trans rfl
        have hcz16_3 : w5.cell? ⟨gb440, 3, none⟩ = some (.int .u32 a0_3) := (blk_cell BK440.out 3).trans rfl
        have hfz16_0 := blk_frozen BK440.out 0
        have hfz16_1 := blk_frozen BK440.out 1
        have hfz16_2 := blk_frozen BK440.out 2
        have hfz16_3 := blk_frozen BK440.out 3
        have hcz17_0 : w5.cell? ⟨gb441, 0, none⟩ = some (.int .u32 a1_0) := (blk_cell BK441.out 0).trans rfl
        have hcz17_1 : w5.cell? ⟨gb441, 1, none⟩ = some (.int .u32 a1_1) := (blk_cell BK441.out 1).trans rfl
        have hcz17_2 : w5.cell? ⟨gb441, 2, none⟩ = some (.slice A1_2 l1_2.length c1_2) := (blk_cell BK441.out 2).trans rfl
        have hcz17_3 : w5.cell? ⟨gb441, 3, none⟩ = some (.int .u32 a1_3) := (blk_cell BK441.out 3).trans rfl
        have hfz17_0 := blk_frozen BK441.out 0
        have hfz17_1 := blk_frozen BK441.out 1
        have hfz17_2 := blk_frozen BK441.out 2
        have hfz17_3 := blk_frozen BK441.out 3
        go_wp2
        repeat (go_quiet (fail); try go_wp2)
        go_meet
        case rel => exact ⟨_, (true), (by first | rfl | (simp; done) | (simp [*]; done)), H', ⟨by first | omega | exact Nat.le_refl _⟩, ⟨by (with_reducible repeat (first | refine blk_drewN ?_ _ | refine blk_drew ?_ | refine blk_alloc ?_ _)); exact BK440.out⟩, ⟨by (with_reducible repeat (first | refine blk_drewN ?_ _ | refine blk_drew ?_ | refine blk_alloc ?_ _)); exact BK441.out⟩, ⟨by repeat (first | (with_reducible first | exact HB.out | apply below_alloc | apply pw_below_drewN | apply below_drew1 | refine below_set ?_ GE440.out | refine below_set ?_ GE441.out) | exact HB.out)⟩⟩
    · rw [if_neg c6] at H
      have c6b0 : (a0_0 == a1_0) = false := beq_eq_false_iff_ne.mpr c6
      have c6b1 : (a0_0 != a1_0) = true := bne_iff_ne.mpr c6
      (first | rw [c6b0] | (simp only [i64_w, i32_w]; rw [c6b0]) | skip)
      have H' := Aside0.mk H
      clear H
      have hnb18 := NB440_441.out
      have hnc18 := NB441_440.out
      have hcz19_0 : w5.cell? ⟨gb440, 0, none⟩ = some (.int .u32 a0_0) := (blk_cell BK440.out 0).trans rfl
      have hcz19_1 : w5.cell? ⟨gb440, 1, none⟩ = some (.int .u32 a0_1) := (blk_cell BK440.out 1).trans rfl
      have hcz19_2 : w5.cell? ⟨gb440, 2, none⟩ = some (.slice A0_2 l0_2.length c0_2) := (blk_cell BK440.out 2).trans rfl
      have hcz19_3 : w5.cell? ⟨gb440, 3, none⟩ = some (.int .u32 a0_3) := (blk_cell BK440.out 3).trans rfl
      have hfz19_0 := blk_frozen BK440.out 0
      have hfz19_1 := blk_frozen BK440.out 1
      have hfz19_2 := blk_frozen BK440.out 2
      have hfz19_3 := blk_frozen BK440.out 3
      have hcz20_0 : w5.cell? ⟨gb441, 0, none⟩ = some (.int .u32 a1_0) := (blk_cell BK441.out 0).trans rfl
      have hcz20_1 : w5.cell? ⟨gb441, 1, none⟩ = some (.int .u32 a1_1) := (blk_cell BK441.out 1).trans rfl
      have hcz20_2 : w5.cell? ⟨gb441, 2, none⟩ = some (.slice A1_2 l1_2.length c1_2) := (blk_cell BK441.out 2).trans rfl
      have hcz20_3 : w5.cell? ⟨gb441, 3, none⟩ = some (.int .u32 a1_3) := (blk_cell BK441.out 3).trans rfl
      have hfz20_0 := blk_frozen BK441.out 0
      have hfz20_1 := blk_frozen BK441.out 1
      have hfz20_2 := blk_frozen BK441.out 2
      have hfz20_3 := blk_frozen BK441.out 3
      go_wp2
      repeat (go_quiet (fail); try go_wp2)
      go_meet
      case rel => exact ⟨_, (true), (by first | rfl | (simp; done) | (simp [*]; done)), H', ⟨by first | omega | exact Nat.le_refl _⟩, ⟨by (with_reducible repeat (first | refine blk_drewN ?_ _ | refine blk_drew ?_ | refine blk_alloc ?_ _)); exact BK440.out⟩, ⟨by (with_reducible repeat (first | refine blk_drewN ?_ _ | refine blk_drew ?_ | refine blk_alloc ?_ _)); exact BK441.out⟩, ⟨by repeat (first | (with_reducible first | exact HB.out | apply below_alloc | apply pw_below_drewN | apply below_drew1 | refine below_set ?_ GE440.out | refine below_set ?_ GE441.out) | exact HB.out)⟩⟩
  case rest =>
    clear HC3
    try clear c1
    try clear p2
    try clear c4
    try clear c6
    try clear c6b0
    try clear c6b1
    try clear c7
    try clear c7b0
    try clear c7b1
    try clear c8
    try clear c8b0
    try clear c8b1
    try clear c9
    try clear c12
    try clear c15
    try clear c18
    try clear hcz10_0
    try clear hcz10_1
    try clear hcz10_2
    try clear hcz10_3
    try clear hcz11_0
    try clear hcz11_1
    try clear hcz11_2
    try clear hcz11_3
    try clear hcz13_0
    try clear hcz13_1
    try clear hcz13_2
    try clear hcz13_3
    try clear hcz14_0
    try clear hcz14_1
    try clear hcz14_2
    try clear hcz14_3
    try clear hcz16_0
    try clear hcz16_1
    try clear hcz16_2
    try clear hcz16_3
    try clear hcz17_0
    try clear hcz17_1
    try clear hcz17_2
    try clear hcz17_3
    try clear hcz19_0
    try clear hcz19_1
    try clear hcz19_2
    try clear hcz19_3
    try clear hcz20_0
    try clear hcz20_1
    try clear hcz20_2
    try clear hcz20_3
    try clear hfz10_0
    try clear hfz10_1
    try clear hfz10_2
    try clear hfz10_3
    try clear hfz11_0
    try clear hfz11_1
    try clear hfz11_2
    try clear hfz11_3
    try clear hfz13_0
    try clear hfz13_1
    try clear hfz13_2
    try clear hfz13_3
    try clear hfz14_0
    try clear hfz14_1
    try clear hfz14_2
    try clear hfz14_3
    try clear hfz16_0
    try clear hfz16_1
    try clear hfz16_2
    try clear hfz16_3
    try clear hfz17_0
    try clear hfz17_1
    try clear hfz17_2
    try clear hfz17_3
    try clear hfz19_0
    try clear hfz19_1
    try clear hfz19_2
    try clear hfz19_3
    try clear hfz20_0
    try clear hfz20_1
    try clear hfz20_2
    try clear hfz20_3
    obtain ⟨kq, x33_2, rfl, HA, HJ2, BK440, BK441, HB⟩ := hcut
    cases kq with
    | zero => exact absurd HA.out (by simp [hurdleref10_SameRule.j0])
    | succ kj2 =>
      have H := HA.out
      clear HA
      simp only [hurdleref10_SameRule.j0] at H
      by_cases c21 : x33_2 = true
      · subst c21
        have H1 : (some false) = some r := by rw [if_pos rfl] at H; exact H
        clear H
        have H := H1
        clear H1
        obtain rfl := Option.some.inj H
        go_wp2
        repeat (go_quiet (fail); try go_wp2)
        go_ret
        exact ⟨by first | rfl | (simp [errW_none, errW_some] <;> rfl) | (simp [*, errW_none, errW_some] <;> rfl), by repeat (first | (with_reducible first | exact HB.out | apply below_alloc | apply pw_below_drewN | apply below_drew1 | refine below_set ?_ GE440.out | refine below_set ?_ GE441.out) | exact HB.out)⟩
      · replace c21 := Bool.eq_false_iff.mpr c21
        subst c21
        have H1 : (hurdleref10_SameRule.l0 kj2 0 a0_0 a0_1 l0_2 a0_3 a1_0 a1_1 l1_2 a1_3) = some r := by rw [if_neg (show ¬ (false = true) by decide)] at H; exact H
        clear H
        have H := H1
        clear H1
        have H' := Aside0.mk H
        clear H
        go_wp2
        repeat (go_quiet (fail); try go_wp2)
        go_loopg [5] kj2 (fun kq v5 w' => ∃ (x5_2 : Int), v5 = .int .i64 x5_2 ∧ Aside0 (hurdleref10_SameRule.l0 kq x5_2 a0_0 a0_1 l0_2 a0_3 a1_0 a1_1 l1_2 a1_3 = some r) ∧ Aside0 (kq ≤ kj2) ∧ Aside0 (w'.heap[gb440]? = some (.cells #[.int .u32 a0_0, .int .u32 a0_1, (.slice A0_2 l0_2.length c0_2), .int .u32 a0_3] 40 (0, 0))) ∧ Aside0 (w'.heap[gb441]? = some (.cells #[.int .u32 a1_0, .int .u32 a1_1, (.slice A1_2 l1_2.length c1_2), .int .u32 a1_3] 40 (0, 0))) ∧ Aside0 (Below w.heap.size w w'))
        case atStart => exact ⟨(0), (by first | rfl | (simp; done) | (simp [*]; done)), H', ⟨Nat.le_refl _⟩, ⟨by (with_reducible repeat (first | refine blk_drewN ?_ _ | refine blk_drew ?_ | refine blk_alloc ?_ _)); exact BK440.out⟩, ⟨by (with_reducible repeat (first | refine blk_drewN ?_ _ | refine blk_drew ?_ | refine blk_alloc ?_ _)); exact BK441.out⟩, ⟨by repeat (first | (with_reducible first | exact HB.out | apply below_alloc | apply pw_below_drewN | apply below_drew1 | refine below_set ?_ GE440.out | refine below_set ?_ GE441.out) | exact HB.out)⟩⟩
        case round =>
          clear H'
          try clear c1
          try clear c2
          try clear p2
          try clear c4
          try clear c6
          try clear c6b0
          try clear c6b1
          try clear c7
          try clear c7b0
          try clear c7b1
          try clear c8
          try clear c8b0
          try clear c8b1
          try clear c9
          try clear c12
          try clear c15
          try clear c18
          try clear c21
          try clear hcz10_0
          try clear hcz10_1
          try clear hcz10_2
          try clear hcz10_3
          try clear hcz11_0
          try clear hcz11_1
          try clear hcz11_2
          try clear hcz11_3
          try clear hcz13_0
          try clear hcz13_1
          try clear hcz13_2
          try clear hcz13_3
          try clear hcz14_0
          try clear hcz14_1
          try clear hcz14_2
          try clear hcz14_3
          try clear hcz16_0
          try clear hcz16_1
          try clear hcz16_2
          try clear hcz16_3
          try clear hcz17_0
          try clear hcz17_1
          try clear hcz17_2
          try clear hcz17_3
          try clear hcz19_0
          try clear hcz19_1
          try clear hcz19_2
          try clear hcz19_3
          try clear hcz20_0
          try clear hcz20_1
          try clear hcz20_2
          try clear hcz20_3
          try clear hfz10_0
          try clear hfz10_1
          try clear hfz10_2
          try clear hfz10_3
          try clear hfz11_0
          try clear hfz11_1
          try clear hfz11_2
          try clear hfz11_3
          try clear hfz13_0
          try clear hfz13_1
          try clear hfz13_2
          try clear hfz13_3
          try clear hfz14_0
          try clear hfz14_1
          try clear hfz14_2
          try clear hfz14_3
          try clear hfz16_0
          try clear hfz16_1
          try clear hfz16_2
          try clear hfz16_3
          try clear hfz17_0
          try clear hfz17_1
          try clear hfz17_2
          try clear hfz17_3
          try clear hfz19_0
          try clear hfz19_1
          try clear hfz19_2
          try clear hfz19_3
          try clear hfz20_0
          try clear hfz20_1
          try clear hfz20_2
          try clear hfz20_3
          try clear p2
          obtain ⟨x5_2, rfl, HA, HK2, BK440, BK441, HB⟩ := hrel
          cases gk with
          | zero => exact absurd HA.out (by simp [hurdleref10_SameRule.l0])
          | succ k2 =>
            have H := HA.out
            clear HA
            simp only [hurdleref10_SameRule.l0] at H
            by_cases c22 : x5_2 < (l0_2.length : Int)
            · rw [if_pos c22] at H
              have c22b0 : decide (x5_2 < (l0_2.length : Int)) = true := decide_eq_true c22
              clear c22
              by_cases c23 : 0 ≤ x5_2
              · rw [if_pos c23] at H
                have c23b0 : decide (0 ≤ x5_2) = true := decide_eq_true c23
                clear c23
                by_cases c24 : x5_2 < (l1_2.length : Int)
                · rw [if_pos c24] at H
                  have c24b0 : decide (x5_2 < (l1_2.length : Int)) = true := decide_eq_true c24
                  clear c24
                  by_cases c25 : (!(((rd_T61 l0_2 x5_2).f0) == ((rd_T61 l1_2 x5_2).f0)) || (!(((rd_T61 l0_2 x5_2).f1) == ((rd_T61 l1_2 x5_2).f1)) || (!(((rd_T61 l0_2 x5_2).f2) == ((rd_T61 l1_2 x5_2).f2)) || (!(((rd_T61 l0_2 x5_2).f3) == ((rd_T61 l1_2 x5_2).f3)))))) = true
                  · rw [if_pos c25] at H
                    have c25b0 : (!(((rd_T61 l0_2 x5_2).f0) == ((rd_T61 l1_2 x5_2).f0)) || (!(((rd_T61 l0_2 x5_2).f1) == ((rd_T61 l1_2 x5_2).f1)) || (!(((rd_T61 l0_2 x5_2).f2) == ((rd_T61 l1_2 x5_2).f2)) || (!(((rd_T61 l0_2 x5_2).f3) == ((rd_T61 l1_2 x5_2).f3)))))) = true := c25
                    clear c25
                    obtain rfl := Option.some.inj H
                    have hnb26 := NB440_441.out
                    have hnc26 := NB441_440.out
                    have hcz27_0 : wr.cell? ⟨gb440, 0, none⟩ = some (.int .u32 a0_0) := (blk_cell BK440.out 0).trans rfl
                    have hcz27_1 : wr.cell? ⟨gb440, 1, none⟩ = some (.int .u32 a0_1) := (blk_cell BK440.out 1).trans rfl
                    have hcz27_2 : wr.cell? ⟨gb440, 2, none⟩ = some (.slice A0_2 l0_2.length c0_2) := (blk_cell BK440.out 2).trans rfl
                    have hcz27_3 : wr.cell? ⟨gb440, 3, none⟩ = some (.int .u32 a0_3) := (blk_cell BK440.out 3).trans rfl
                    have hfz27_0 := blk_frozen BK440.out 0
                    have hfz27_1 := blk_frozen BK440.out 1
                    have hfz27_2 := blk_frozen BK440.out 2
                    have hfz27_3 := blk_frozen BK440.out 3
                    have p442 : 0 ≤ (x5_2 : Int) := of_decide_eq_true (by first | (with_reducible assumption) | assumption)
                    have q442 : x5_2 < (l0_2.length : Int) := of_decide_eq_true (by first | (with_reducible assumption) | assumption)
                    obtain ⟨ad442, e442, hx442_0, hx442_1, hx442_2, hx442_3⟩ := at_T61 HR0_2.out x5_2 p442 q442
                    cases e442
                    replace hx442_0 := (HB.out.cell (World.block_lt_of_cell? w _ hx442_0)).trans hx442_0
                    replace hx442_1 := (HB.out.cell (World.block_lt_of_cell? w _ hx442_1)).trans hx442_1
                    replace hx442_2 := (HB.out.cell (World.block_lt_of_cell? w _ hx442_2)).trans hx442_2
                    replace hx442_3 := (HB.out.cell (World.block_lt_of_cell? w _ hx442_3)).trans hx442_3
                    replace p442 := eq_true p442
                    replace q442 := eq_true q442
                    have hcz28_0 : wr.cell? ⟨gb441, 0, none⟩ = some (.int .u32 a1_0) := (blk_cell BK441.out 0).trans rfl
                    have hcz28_1 : wr.cell? ⟨gb441, 1, none⟩ = some (.int .u32 a1_1) := (blk_cell BK441.out 1).trans rfl
                    have hcz28_2 : wr.cell? ⟨gb441, 2, none⟩ = some (.slice A1_2 l1_2.length c1_2) := (blk_cell BK441.out 2).trans rfl
                    have hcz28_3 : wr.cell? ⟨gb441, 3, none⟩ = some (.int .u32 a1_3) := (blk_cell BK441.out 3).trans rfl
                    have hfz28_0 := blk_frozen BK441.out 0
                    have hfz28_1 := blk_frozen BK441.out 1
                    have hfz28_2 := blk_frozen BK441.out 2
                    have hfz28_3 := blk_frozen BK441.out 3
                    have p443 : 0 ≤ (x5_2 : Int) := of_decide_eq_true (by first | (with_reducible assumption) | assumption)
                    have q443 : x5_2 < (l1_2.length : Int) := of_decide_eq_true (by first | (with_reducible assumption) | assumption)
                    obtain ⟨ad443, e443, hx443_0, hx443_1, hx443_2, hx443_3⟩ := at_T61 HR1_2.out x5_2 p443 q443
                    cases e443
                    replace hx443_0 := (HB.out.cell (World.block_lt_of_cell? w _ hx443_0)).trans hx443_0
                    replace hx443_1 := (HB.out.cell (World.block_lt_of_cell? w _ hx443_1)).trans hx443_1
                    replace hx443_2 := (HB.out.cell (World.block_lt_of_cell? w _ hx443_2)).trans hx443_2
                    replace hx443_3 := (HB.out.cell (World.block_lt_of_cell? w _ hx443_3)).trans hx443_3
                    replace p443 := eq_true p443
                    replace q443 := eq_true q443
                    go_wp2
                    repeat (go_quiet (fail); try go_wp2)
                    go_ret
                    exact ⟨by first | rfl | (simp [errW_none, errW_some] <;> rfl) | (simp [*, errW_none, errW_some] <;> rfl), by repeat (first | (with_reducible first | exact HB.out | apply below_alloc | apply pw_below_drewN | apply below_drew1 | refine below_set ?_ GE440.out | refine below_set ?_ GE441.out) | exact HB.out)⟩
                  · rw [if_neg c25] at H
                    have c25b0 : (!(((rd_T61 l0_2 x5_2).f0) == ((rd_T61 l1_2 x5_2).f0)) || (!(((rd_T61 l0_2 x5_2).f1) == ((rd_T61 l1_2 x5_2).f1)) || (!(((rd_T61 l0_2 x5_2).f2) == ((rd_T61 l1_2 x5_2).f2)) || (!(((rd_T61 l0_2 x5_2).f3) == ((rd_T61 l1_2 x5_2).f3)))))) = false := by simpa using c25
                    clear c25
                    have H' := Aside0.mk H
                    clear H
                    have hnb29 := NB440_441.out
                    have hnc29 := NB441_440.out
                    have hcz30_0 : wr.cell? ⟨gb440, 0, none⟩ = some (.int .u32 a0_0) := (blk_cell BK440.out 0).trans rfl
                    have hcz30_1 : wr.cell? ⟨gb440, 1, none⟩ = some (.int .u32 a0_1) := (blk_cell BK440.out 1).trans rfl
                    have hcz30_2 : wr.cell? ⟨gb440, 2, none⟩ = some (.slice A0_2 l0_2.length c0_2) := (blk_cell BK440.out 2).trans rfl
                    have hcz30_3 : wr.cell? ⟨gb440, 3, none⟩ = some (.int .u32 a0_3) := (blk_cell BK440.out 3).trans rfl
                    have hfz30_0 := blk_frozen BK440.out 0
                    have hfz30_1 := blk_frozen BK440.out 1
                    have hfz30_2 := blk_frozen BK440.out 2
                    have hfz30_3 := blk_frozen BK440.out 3
                    have p442 : 0 ≤ (x5_2 : Int) := of_decide_eq_true (by first | (with_reducible assumption) | assumption)
                    have q442 : x5_2 < (l0_2.length : Int) := of_decide_eq_true (by first | (with_reducible assumption) | assumption)
                    obtain ⟨ad442, e442, hx442_0, hx442_1, hx442_2, hx442_3⟩ := at_T61 HR0_2.out x5_2 p442 q442
                    cases e442
                    replace hx442_0 := (HB.out.cell (World.block_lt_of_cell? w _ hx442_0)).trans hx442_0
                    replace hx442_1 := (HB.out.cell (World.block_lt_of_cell? w _ hx442_1)).trans hx442_1
                    replace hx442_2 := (HB.out.cell (World.block_lt_of_cell? w _ hx442_2)).trans hx442_2
                    replace hx442_3 := (HB.out.cell (World.block_lt_of_cell? w _ hx442_3)).trans hx442_3
                    replace p442 := eq_true p442
                    replace q442 := eq_true q442
                    have hcz31_0 : wr.cell? ⟨gb441, 0, none⟩ = some (.int .u32 a1_0) := (blk_cell BK441.out 0).trans rfl
                    have hcz31_1 : wr.cell? ⟨gb441, 1, none⟩ = some (.int .u32 a1_1) := (blk_cell BK441.out 1).trans rfl
                    have hcz31_2 : wr.cell? ⟨gb441, 2, none⟩ = some (.slice A1_2 l1_2.length c1_2) := (blk_cell BK441.out 2).trans rfl
                    have hcz31_3 : wr.cell? ⟨gb441, 3, none⟩ = some (.int .u32 a1_3) := (blk_cell BK441.out 3).trans rfl
                    have hfz31_0 := blk_frozen BK441.out 0
                    have hfz31_1 := blk_frozen BK441.out 1
                    have hfz31_2 := blk_frozen BK441.out 2
                    have hfz31_3 := blk_frozen BK441.out 3
                    have p443 : 0 ≤ (x5_2 : Int) := of_decide_eq_true (by first | (with_reducible assumption) | assumption)
                    have q443 : x5_2 < (l1_2.length : Int) := of_decide_eq_true (by first | (with_reducible assumption) | assumption)
                    obtain ⟨ad443, e443, hx443_0, hx443_1, hx443_2, hx443_3⟩ := at_T61 HR1_2.out x5_2 p443 q443
                    cases e443
                    replace hx443_0 := (HB.out.cell (World.block_lt_of_cell? w _ hx443_0)).trans hx443_0
                    replace hx443_1 := (HB.out.cell (World.block_lt_of_cell? w _ hx443_1)).trans hx443_1
                    replace hx443_2 := (HB.out.cell (World.block_lt_of_cell? w _ hx443_2)).trans hx443_2
                    replace hx443_3 := (HB.out.cell (World.block_lt_of_cell? w _ hx443_3)).trans hx443_3
                    replace p443 := eq_true p443
                    replace q443 := eq_true q443
                    go_wp2
                    repeat (go_quiet (fail); try go_wp2)
                    go_roundg k2
                    case measure => have := HJ2.out; have := HK2.out; omega
                    case rel => exact ⟨(wrap64 (x5_2 + 1)), (by first | rfl | (simp; done) | (simp [*]; done)), H', ⟨by have := HJ2.out; have := HK2.out; omega⟩, ⟨by (with_reducible repeat (first | refine blk_drewN ?_ _ | refine blk_drew ?_ | refine blk_alloc ?_ _)); exact BK440.out⟩, ⟨by (with_reducible repeat (first | refine blk_drewN ?_ _ | refine blk_drew ?_ | refine blk_alloc ?_ _)); exact BK441.out⟩, ⟨by repeat (first | (with_reducible first | exact HB.out | apply below_alloc | apply pw_below_drewN | apply below_drew1 | refine below_set ?_ GE440.out | refine below_set ?_ GE441.out) | exact HB.out)⟩⟩
                · rw [if_neg c24] at H
                  exact absurd H (by simp)
              · rw [if_neg c23] at H
                exact absurd H (by simp)
            · rw [if_neg c22] at H
              have c22b0 : decide (x5_2 < (l0_2.length : Int)) = false := decide_eq_false c22
              clear c22
              obtain rfl := Option.some.inj H
              have hnb32 := NB440_441.out
              have hnc32 := NB441_440.out
              have hcz33_0 : wr.cell? ⟨gb440, 0, none⟩ = some (.int .u32 a0_0) := (blk_cell BK440.out 0).trans rfl
              have hcz33_1 : wr.cell? ⟨gb440, 1, none⟩ = some (.int .u32 a0_1) := (blk_cell BK440.out 1).trans rfl
              have hcz33_2 : wr.cell? ⟨gb440, 2, none⟩ = some (.slice A0_2 l0_2.length c0_2) := (blk_cell BK440.out 2).trans rfl
              have hcz33_3 : wr.cell? ⟨gb440, 3, none⟩ = some (.int .u32 a0_3) := (blk_cell BK440.out 3).trans rfl
              have hfz33_0 := blk_frozen BK440.out 0
              have hfz33_1 := blk_frozen BK440.out 1
              have hfz33_2 := blk_frozen BK440.out 2
              have hfz33_3 := blk_frozen BK440.out 3
              go_wp2
              repeat (go_quiet (fail); try go_wp2)
              go_ret
              exact ⟨by first | rfl | (simp [errW_none, errW_some] <;> rfl) | (simp [*, errW_none, errW_some] <;> rfl), by repeat (first | (with_reducible first | exact HB.out | apply below_alloc | apply pw_below_drewN | apply below_drew1 | refine below_set ?_ GE440.out | refine below_set ?_ GE441.out) | exact HB.out)⟩
end Go.Proofs.Ytekpbgmmogpbdaa.P
namespace Go.Proofs.Ytekpbgmmogpbdaa.P
open Go.RowKit Go.Proofs.Ytekpbgmmogpbdaa.H Go.Proofs.YtekpbgmmogpbdaaW.PrintWords Go.Proofs.YtekpbgmmogpbdaaW.PrintLast Go.Proofs.YtekpbgmmogpbdaaW.PrintMore
attribute [local go_sem] max2_int min2_int max_two min_two max_three min_three max_four min_four
set_option linter.unusedVariables false
set_option linter.unusedSimpArgs false
mutual
def hurdleref10_Same.j0 : Nat → Bool → List (S40) → Int → List (S40) → Int → Option (Bool)
  | 0, _, _, _, _, _ => none
  | k + 1, x19, x445000, x445001, x446000, x446001 => if x19 = true then (some false) else (hurdleref10_Same.l0 k 0 x445000 x445001 x446000 x446001)
def hurdleref10_Same.l0 : Nat → Int → List (S40) → Int → List (S40) → Int → Option (Bool)
  | 0, _, _, _, _, _ => none
  | k + 1, x5, x445000, x445001, x446000, x446001 => if x5 < (x445000.length : Int) then (if 0 ≤ x5 then (if x5 < (x446000.length : Int) then ((hurdleref10_SameRule.f k ((rd_T40 x445000 x5).f0) ((rd_T40 x445000 x5).f1) ((rd_T40 x445000 x5).f2) ((rd_T40 x445000 x5).f3) ((rd_T40 x446000 x5).f0) ((rd_T40 x446000 x5).f1) ((rd_T40 x446000 x5).f2) ((rd_T40 x446000 x5).f3)).bind fun t448 => (if t448 = true then (hurdleref10_Same.l0 k (wrap64 (x5 + 1)) x445000 x445001 x446000 x446001) else (some false))) else (none)) else (none)) else (some true)
end
def hurdleref10_Same.f (k : Nat) (l0_0 : List (S40)) (a0_1 : Int) (l1_0 : List (S40)) (a1_1 : Int) : Option (Bool) := if a0_1 = a1_1 then (hurdleref10_Same.j0 k ((l0_0.length : Int) != (l1_0.length : Int)) l0_0 a0_1 l1_0 a1_1) else (hurdleref10_Same.j0 k true l0_0 a0_1 l1_0 a1_1)
def hurdleref10_Same.T6 : Bool × List (List Nat × List Nat) := (true, [([], []), ([0], [0]), ([], []), ([1, 2], [1, 2]), ([3], [3]), ([], []), ([5], [5]), ([], []), ([6, 7], [6, 7]), ([8], [8]), ([4, 9], [4, 9]), ([10], [10])])
def hurdleref10_Same.B6 : List Nat := [0, 1, 0, 7, 15, 0, 32, 0, 224, 480, 1023, 2047]
theorem hurdleref10_Same.tab6 : rtab .any (opsOf Try.f22 6) = hurdleref10_Same.T6 := by kernel_rfl
theorem hurdleref10_Same.bits6 : waitsOk hurdleref10_Same.T6.2 hurdleref10_Same.B6 = true := by kernel_rfl
set_option maxHeartbeats 8000000 in
set_option maxRecDepth 100000 in
theorem hurdleref10_Same.calls (k : Nat) (A0_0 : Option Addr) (c0_0 : Nat) (l0_0 : List (S40)) (a0_1 : Int) (A1_0 : Option Addr) (c1_0 : Nat) (l1_0 : List (S40)) (a1_1 : Int) (r : Bool) (w : World) (hr0_0 : Kd.C k40 w A0_0 l0_0.length l0_0) (hc0_0 : l0_0.length ≤ c0_0) (hr1_0 : Kd.C k40 w A1_0 l1_0.length l1_0) (hc1_0 : l1_0.length ≤ c1_0) (h : hurdleref10_Same.f k l0_0 a0_1 l1_0 a1_1 = some r) :
    Calls Try.prog 22 #[.agg #[.slice A0_0 l0_0.length c0_0, .int .u32 a0_1], .agg #[.slice A1_0 l1_0.length c1_0, .int .u32 a1_1]] w fun e w' => e = .returned (.bool r) ∧ Below w.heap.size w w' := by
  have hu25 := Try.underlying25
  have hu40 := Try.underlying40
  have HR0_0 := Aside0.mk hr0_0
  have HC0_0 := Aside0.mk hc0_0
  clear hr0_0 hc0_0
  have HR1_0 := Aside0.mk hr1_0
  have HC1_0 := Aside0.mk hc1_0
  clear hr1_0 hc1_0
  have HB := Aside0.mk (Below.refl w.heap.size w)
  have H : (if a0_1 = a1_1 then (hurdleref10_Same.j0 k ((l0_0.length : Int) != (l1_0.length : Int)) l0_0 a0_1 l1_0 a1_1) else (hurdleref10_Same.j0 k true l0_0 a0_1 l1_0 a1_1)) = some r := h
  clear h
  have HC3 := Aside0.mk H
  clear H
  go_enter Try.func22, Try.ntmps22
  go_upto_region 1 with (first | ((with_reducible refine gate_dst (N := 2) rfl ?_); (try (refine gate_guard (by rfl) ?_; dsimp only)); refine box_event ?hg (N := 2) ?hd (cs := #[.slice A0_0 l0_0.length c0_0, .int .u32 a0_1]) (t := 25) ?hr ?_; (case hd => rfl); (case hg => rfl); (case hr => first | (go_simp; done) | (go_simp; rfl)); intro gb444 hg w4 hbox hb; have n0_ := Aside0.mk (below_step (by repeat (first | (with_reducible first | exact HB.out | apply below_alloc | apply pw_below_drewN | apply below_drew1) | exact HB.out)) hb); have n1_ := Aside0.mk (hbox); have n2_ := Aside0.mk ((by rw [hg]; exact (below_size (by repeat (first | (with_reducible first | exact HB.out | apply below_alloc | apply pw_below_drewN | apply below_drew1) | exact HB.out))) : w.heap.size ≤ gb444)); have n3_ := Aside0.mk ((by rw [hg]; exact (below_size (by repeat (first | (with_reducible first | exact HB.out | apply below_alloc | apply pw_below_drewN | apply below_drew1) | exact HB.out))) : w.heap.size ≤ gb444)); clear HB; have HB := n0_; have BK444 := n1_; have GW444 := n2_; have GE444 := n3_; clear n0_ n1_ n2_ n3_; clear hb hbox hg) | ((with_reducible refine gate_dst (N := 3) rfl ?_); (try (refine gate_guard (by rfl) ?_; dsimp only)); refine box_event ?hg (N := 3) ?hd (cs := #[.slice A1_0 l1_0.length c1_0, .int .u32 a1_1]) (t := 25) ?hr ?_; (case hd => rfl); (case hg => rfl); (case hr => first | (go_simp; done) | (go_simp; rfl)); intro gb445 hg w5 hbox hb; have n0_ := Aside0.mk (blk_below (g := gb444) (o := .cells #[.slice A0_0 l0_0.length c0_0, .int .u32 a0_1] 25 (0, 0)) (by (with_reducible repeat (first | refine blk_drewN ?_ _ | refine blk_drew ?_ | refine blk_alloc ?_ _)); exact BK444.out) hb); have n1_ := Aside0.mk (below_step (by repeat (first | (with_reducible first | exact HB.out | apply below_alloc | apply pw_below_drewN | apply below_drew1 | refine below_set ?_ GE444.out) | exact HB.out)) hb); have n2_ := Aside0.mk (hbox); have n3_ := Aside0.mk ((by rw [hg]; exact (below_size (by repeat (first | (with_reducible first | exact HB.out | apply below_alloc | apply pw_below_drewN | apply below_drew1 | refine below_set ?_ GE444.out) | exact HB.out))) : w.heap.size ≤ gb445)); have n4_ := Aside0.mk ((by rw [hg]; exact (below_size (by repeat (first | (with_reducible first | exact HB.out | apply below_alloc | apply pw_below_drewN | apply below_drew1 | refine below_set ?_ GE444.out) | exact HB.out))) : w.heap.size ≤ gb445)); have n5_ := Aside0.mk ((by rw [hg]; exact Nat.ne_of_lt (blk_lt (g := gb444) (o := .cells #[.slice A0_0 l0_0.length c0_0, .int .u32 a0_1] 25 (0, 0)) (by (with_reducible repeat (first | refine blk_drewN ?_ _ | refine blk_drew ?_ | refine blk_alloc ?_ _)); exact BK444.out)) : gb444 ≠ gb445)); have n6_ := Aside0.mk ((by rw [hg]; exact Nat.ne_of_gt (blk_lt (g := gb444) (o := .cells #[.slice A0_0 l0_0.length c0_0, .int .u32 a0_1] 25 (0, 0)) (by (with_reducible repeat (first | refine blk_drewN ?_ _ | refine blk_drew ?_ | refine blk_alloc ?_ _)); exact BK444.out)) : gb445 ≠ gb444)); clear BK444; clear HB; have BK444 := n0_; have HB := n1_; have BK445 := n2_; have GW445 := n3_; have GE445 := n4_; have NB444_445 := n5_; have NB445_444 := n6_; clear n0_ n1_ n2_ n3_ n4_ n5_ n6_; clear hb hbox hg))
  (try simp only [Act.put, List.setIfInBounds_toArray, List.set_cons_zero, List.set_cons_succ])
  go_cut [19] (fun v19 wc => ∃ (kq : Nat) (x19_2 : Bool), v19 = .bool x19_2 ∧ Aside0 (hurdleref10_Same.j0 kq x19_2 l0_0 a0_1 l1_0 a1_1 = some r) ∧ Aside0 (kq ≤ k) ∧ Aside0 (wc.heap[gb444]? = some (.cells #[(.slice A0_0 l0_0.length c0_0), .int .u32 a0_1] 25 (0, 0))) ∧ Aside0 (wc.heap[gb445]? = some (.cells #[(.slice A1_0 l1_0.length c1_0), .int .u32 a1_1] 25 (0, 0))) ∧ Aside0 (Below w.heap.size w wc))
  case first =>
    have H := HC3.out
    clear HC3
    by_cases c6 : a0_1 = a1_1
    · rw [if_pos c6] at H
      have c6b0 : (a0_1 == a1_1) = true := beq_iff_eq.mpr c6
      have c6b1 : (a0_1 != a1_1) = false := bne_eq_false_iff_eq.mpr c6
      clear c6
      (first | rw [c6b0] | (simp only [i64_w, i32_w]; rw [c6b0]) | skip)
      have H' := Aside0.mk H
      clear H
      have hnb7 := NB444_445.out
      have hnc7 := NB445_444.out
      have hcz8_0 : w5.cell? ⟨gb444, 0, none⟩ = some (.slice A0_0 l0_0.length c0_0) := (blk_cell BK444.out 0).trans rfl
      have hcz8_1 : w5.cell? ⟨gb444, 1, none⟩ = some (.int .u32 a0_1) := (blk_cell BK444.out 1).trans rfl
      have hfz8_0 := blk_frozen BK444.out 0
      have hfz8_1 := blk_frozen BK444.out 1
      have hcz9_0 : w5.cell? ⟨gb445, 0, none⟩ = some (.slice A1_0 l1_0.length c1_0) := (blk_cell BK445.out 0).trans rfl
      have hcz9_1 : w5.cell? ⟨gb445, 1, none⟩ = some (.int .u32 a1_1) := (blk_cell BK445.out 1).trans rfl
      have hfz9_0 := blk_frozen BK445.out 0
      have hfz9_1 := blk_frozen BK445.out 1
      go_wp2
      go_meet
      case rel => exact ⟨_, (((l0_0.length : Int) != (l1_0.length : Int))), (by first | rfl | (simp; done) | (simp [*]; done)), H', ⟨by first | omega | exact Nat.le_refl _⟩, ⟨by (with_reducible repeat (first | refine blk_drewN ?_ _ | refine blk_drew ?_ | refine blk_alloc ?_ _)); exact BK444.out⟩, ⟨by (with_reducible repeat (first | refine blk_drewN ?_ _ | refine blk_drew ?_ | refine blk_alloc ?_ _)); exact BK445.out⟩, ⟨by repeat (first | (with_reducible first | exact HB.out | apply below_alloc | apply pw_below_drewN | apply below_drew1 | refine below_set ?_ GE444.out | refine below_set ?_ GE445.out) | exact HB.out)⟩⟩
    · rw [if_neg c6] at H
      have c6b0 : (a0_1 == a1_1) = false := beq_eq_false_iff_ne.mpr c6
      have c6b1 : (a0_1 != a1_1) = true := bne_iff_ne.mpr c6
      (first | rw [c6b0] | (simp only [i64_w, i32_w]; rw [c6b0]) | skip)
      have H' := Aside0.mk H
      clear H
      have hnb10 := NB444_445.out
      have hnc10 := NB445_444.out
      have hcz11_0 : w5.cell? ⟨gb444, 0, none⟩ = some (.slice A0_0 l0_0.length c0_0) := (blk_cell BK444.out 0).trans rfl
      have hcz11_1 : w5.cell? ⟨gb444, 1, none⟩ = some (.int .u32 a0_1) := (blk_cell BK444.out 1).trans rfl
      have hfz11_0 := blk_frozen BK444.out 0
      have hfz11_1 := blk_frozen BK444.out 1
      have hcz12_0 : w5.cell? ⟨gb445, 0, none⟩ = some (.slice A1_0 l1_0.length c1_0) := (blk_cell BK445.out 0).trans rfl
      have hcz12_1 : w5.cell? ⟨gb445, 1, none⟩ = some (.int .u32 a1_1) := (blk_cell BK445.out 1).trans rfl
      have hfz12_0 := blk_frozen BK445.out 0
      have hfz12_1 := blk_frozen BK445.out 1
      go_wp2
      go_meet
      case rel => exact ⟨_, (true), (by first | rfl | (simp; done) | (simp [*]; done)), H', ⟨by first | omega | exact Nat.le_refl _⟩, ⟨by (with_reducible repeat (first | refine blk_drewN ?_ _ | refine blk_drew ?_ | refine blk_alloc ?_ _)); exact BK444.out⟩, ⟨by (with_reducible repeat (first | refine blk_drewN ?_ _ | refine blk_drew ?_ | refine blk_alloc ?_ _)); exact BK445.out⟩, ⟨by repeat (first | (with_reducible first | exact HB.out | apply below_alloc | apply pw_below_drewN | apply below_drew1 | refine below_set ?_ GE444.out | refine below_set ?_ GE445.out) | exact HB.out)⟩⟩
  case rest =>
    clear HC3
    try clear c1
    try clear c2
    try clear p2
    try clear c6
    try clear c6b0
    try clear c6b1
    try clear c7
    try clear c10
    try clear hcz11_0
    try clear hcz11_1
    try clear hcz12_0
    try clear hcz12_1
    try clear hcz8_0
    try clear hcz8_1
    try clear hcz9_0
    try clear hcz9_1
    try clear hfz11_0
    try clear hfz11_1
    try clear hfz12_0
    try clear hfz12_1
    try clear hfz8_0
    try clear hfz8_1
    try clear hfz9_0
    try clear hfz9_1
    obtain ⟨kq, x19_2, rfl, HA, HJ2, BK444, BK445, HB⟩ := hcut
    cases kq with
    | zero => exact absurd HA.out (by simp [hurdleref10_Same.j0])
    | succ kj2 =>
      have H := HA.out
      clear HA
      simp only [hurdleref10_Same.j0] at H
      by_cases c13 : x19_2 = true
      · subst c13
        have H1 : (some false) = some r := by rw [if_pos rfl] at H; exact H
        clear H
        have H := H1
        clear H1
        obtain rfl := Option.some.inj H
        go_wp2
        go_ret
        exact ⟨by first | rfl | (simp [errW_none, errW_some] <;> rfl) | (simp [*, errW_none, errW_some] <;> rfl), by repeat (first | (with_reducible first | exact HB.out | apply below_alloc | apply pw_below_drewN | apply below_drew1 | refine below_set ?_ GE444.out | refine below_set ?_ GE445.out) | exact HB.out)⟩
      · replace c13 := Bool.eq_false_iff.mpr c13
        subst c13
        have H1 : (hurdleref10_Same.l0 kj2 0 l0_0 a0_1 l1_0 a1_1) = some r := by rw [if_neg (show ¬ (false = true) by decide)] at H; exact H
        clear H
        have H := H1
        clear H1
        have H' := Aside0.mk H
        clear H
        go_wp2
        go_loopg [5] kj2 (fun kq v5 w' => ∃ (x5_2 : Int), v5 = .int .i64 x5_2 ∧ Aside0 (hurdleref10_Same.l0 kq x5_2 l0_0 a0_1 l1_0 a1_1 = some r) ∧ Aside0 (kq ≤ kj2) ∧ Aside0 (w'.heap[gb444]? = some (.cells #[(.slice A0_0 l0_0.length c0_0), .int .u32 a0_1] 25 (0, 0))) ∧ Aside0 (w'.heap[gb445]? = some (.cells #[(.slice A1_0 l1_0.length c1_0), .int .u32 a1_1] 25 (0, 0))) ∧ Aside0 (Below w.heap.size w w'))
        case atStart => exact ⟨(0), (by first | rfl | (simp; done) | (simp [*]; done)), H', ⟨Nat.le_refl _⟩, ⟨by (with_reducible repeat (first | refine blk_drewN ?_ _ | refine blk_drew ?_ | refine blk_alloc ?_ _)); exact BK444.out⟩, ⟨by (with_reducible repeat (first | refine blk_drewN ?_ _ | refine blk_drew ?_ | refine blk_alloc ?_ _)); exact BK445.out⟩, ⟨by repeat (first | (with_reducible first | exact HB.out | apply below_alloc | apply pw_below_drewN | apply below_drew1 | refine below_set ?_ GE444.out | refine below_set ?_ GE445.out) | exact HB.out)⟩⟩
        case round =>
          clear H'
          try clear c1
          try clear c2
          try clear p2
          try clear c6
          try clear c6b0
          try clear c6b1
          try clear c7
          try clear c10
          try clear c13
          try clear hcz11_0
          try clear hcz11_1
          try clear hcz12_0
          try clear hcz12_1
          try clear hcz8_0
          try clear hcz8_1
          try clear hcz9_0
          try clear hcz9_1
          try clear hfz11_0
          try clear hfz11_1
          try clear hfz12_0
          try clear hfz12_1
          try clear hfz8_0
          try clear hfz8_1
          try clear hfz9_0
          try clear hfz9_1
          try clear p2
          obtain ⟨x5_2, rfl, HA, HK2, BK444, BK445, HB⟩ := hrel
          cases gk with
          | zero => exact absurd HA.out (by simp [hurdleref10_Same.l0])
          | succ k2 =>
            have H := HA.out
            clear HA
            simp only [hurdleref10_Same.l0] at H
            by_cases c14 : x5_2 < (l0_0.length : Int)
            · rw [if_pos c14] at H
              have c14b0 : decide (x5_2 < (l0_0.length : Int)) = true := decide_eq_true c14
              clear c14
              by_cases c15 : 0 ≤ x5_2
              · rw [if_pos c15] at H
                have c15b0 : decide (0 ≤ x5_2) = true := decide_eq_true c15
                clear c15
                by_cases c16 : x5_2 < (l1_0.length : Int)
                · rw [if_pos c16] at H
                  have c16b0 : decide (x5_2 < (l1_0.length : Int)) = true := decide_eq_true c16
                  clear c16
                  replace H := Option.bind_eq_some_iff.mp H
                  obtain ⟨t448, A170, H⟩ := H
                  replace H : (if t448 = true then (hurdleref10_Same.l0 k2 (wrap64 (x5_2 + 1)) l0_0 a0_1 l1_0 a1_1) else (some false)) = some r := H
                  have A17 := Aside0.mk A170
                  clear A170
                  by_cases c18 : t448 = true
                  · subst c18
                    have H1 : (hurdleref10_Same.l0 k2 (wrap64 (x5_2 + 1)) l0_0 a0_1 l1_0 a1_1) = some r := by rw [if_pos rfl] at H; exact H
                    clear H
                    have H := H1
                    clear H1
                    have H' := Aside0.mk H
                    clear H
                    have hnb19 := NB444_445.out
                    have hnc19 := NB445_444.out
                    have hcz20_0 : wr.cell? ⟨gb444, 0, none⟩ = some (.slice A0_0 l0_0.length c0_0) := (blk_cell BK444.out 0).trans rfl
                    have hcz20_1 : wr.cell? ⟨gb444, 1, none⟩ = some (.int .u32 a0_1) := (blk_cell BK444.out 1).trans rfl
                    have hfz20_0 := blk_frozen BK444.out 0
                    have hfz20_1 := blk_frozen BK444.out 1
                    try go_wp2
                    have n0_ := Aside0.mk (blk_drew BK444.out)
                    have n1_ := Aside0.mk (blk_drew BK445.out)
                    have n2_ := Aside0.mk (below_drew1 HB.out)
                    clear BK444
                    clear BK445
                    clear HB
                    have BK444 := n0_
                    have BK445 := n1_
                    have HB := n2_
                    clear n0_ n1_ n2_
                    have p446 : 0 ≤ (x5_2 : Int) := of_decide_eq_true (by first | (with_reducible assumption) | assumption)
                    have q446 : x5_2 < (l0_0.length : Int) := of_decide_eq_true (by first | (with_reducible assumption) | assumption)
                    obtain ⟨ad446, A446_2, c446_2, e446, hx446_0, hx446_1, hx446_2, hx446_3, hl446_2, hi446_2⟩ := at_T40 HR0_0.out x5_2 p446 q446
                    have hw446_3 := hx446_3
                    have hw446_2 := hx446_2
                    have hw446_1 := hx446_1
                    have hw446_0 := hx446_0
                    cases e446
                    replace hx446_0 := (HB.out.cell (World.block_lt_of_cell? w _ hx446_0)).trans hx446_0
                    replace hx446_1 := (HB.out.cell (World.block_lt_of_cell? w _ hx446_1)).trans hx446_1
                    replace hx446_2 := (HB.out.cell (World.block_lt_of_cell? w _ hx446_2)).trans hx446_2
                    replace hx446_3 := (HB.out.cell (World.block_lt_of_cell? w _ hx446_3)).trans hx446_3
                    have HR446_2 := Aside0.mk hi446_2
                    have HC446_2 := Aside0.mk hl446_2
                    clear hi446_2 hl446_2
                    replace p446 := eq_true p446
                    replace q446 := eq_true q446
                    have p447 : 0 ≤ (x5_2 : Int) := of_decide_eq_true (by first | (with_reducible assumption) | assumption)
                    have q447 : x5_2 < (l1_0.length : Int) := of_decide_eq_true (by first | (with_reducible assumption) | assumption)
                    obtain ⟨ad447, A447_2, c447_2, e447, hx447_0, hx447_1, hx447_2, hx447_3, hl447_2, hi447_2⟩ := at_T40 HR1_0.out x5_2 p447 q447
                    have hw447_3 := hx447_3
                    have hw447_2 := hx447_2
                    have hw447_1 := hx447_1
                    have hw447_0 := hx447_0
                    cases e447
                    replace hx447_0 := (HB.out.cell (World.block_lt_of_cell? w _ hx447_0)).trans hx447_0
                    replace hx447_1 := (HB.out.cell (World.block_lt_of_cell? w _ hx447_1)).trans hx447_1
                    replace hx447_2 := (HB.out.cell (World.block_lt_of_cell? w _ hx447_2)).trans hx447_2
                    replace hx447_3 := (HB.out.cell (World.block_lt_of_cell? w _ hx447_3)).trans hx447_3
                    have HR447_2 := Aside0.mk hi447_2
                    have HC447_2 := Aside0.mk hl447_2
                    clear hi447_2 hl447_2
                    replace p447 := eq_true p447
                    replace q447 := eq_true q447
                    refine start_ (n := 12) (S := fun w' => w'.cell? ⟨gb444, 0, none⟩ = some (.slice (some ad446) l0_0.length c0_0) ∧ w'.cell? ⟨gb444, 1, none⟩ = some (.int .u32 a0_1) ∧ w'.cell? ⟨gb445, 0, none⟩ = some (.slice (some ad447) l1_0.length c1_0) ∧ w'.cell? ⟨gb445, 1, none⟩ = some (.int .u32 a1_1) ∧ w'.cell? (ad446.add ((x5_2).toNat * 4)) = some (.int .u32 ((rd_T40 l0_0 x5_2).f0)) ∧ w'.cell? ⟨(ad446.add ((x5_2).toNat * 4)).block, (ad446.add ((x5_2).toNat * 4)).off + 1, none⟩ = some (.int .u32 ((rd_T40 l0_0 x5_2).f1)) ∧ w'.cell? ⟨(ad446.add ((x5_2).toNat * 4)).block, (ad446.add ((x5_2).toNat * 4)).off + 2, none⟩ = some (.slice A446_2 ((rd_T40 l0_0 x5_2).f2).length c446_2) ∧ w'.cell? ⟨(ad446.add ((x5_2).toNat * 4)).block, (ad446.add ((x5_2).toNat * 4)).off + 3, none⟩ = some (.int .u32 ((rd_T40 l0_0 x5_2).f3)) ∧ w'.cell? (ad447.add ((x5_2).toNat * 4)) = some (.int .u32 ((rd_T40 l1_0 x5_2).f0)) ∧ w'.cell? ⟨(ad447.add ((x5_2).toNat * 4)).block, (ad447.add ((x5_2).toNat * 4)).off + 1, none⟩ = some (.int .u32 ((rd_T40 l1_0 x5_2).f1)) ∧ w'.cell? ⟨(ad447.add ((x5_2).toNat * 4)).block, (ad447.add ((x5_2).toNat * 4)).off + 2, none⟩ = some (.slice A447_2 ((rd_T40 l1_0 x5_2).f2).length c447_2) ∧ w'.cell? ⟨(ad447.add ((x5_2).toNat * 4)).block, (ad447.add ((x5_2).toNat * 4)).off + 3, none⟩ = some (.int .u32 ((rd_T40 l1_0 x5_2).f3))) (ds := []) #[false, false, false, false, false, false, false, false, false, false, false, false] (by kernel_rfl) rfl rfl ⟨(blk_cell BK444.out 0).trans rfl, (blk_cell BK444.out 1).trans rfl, (blk_cell BK445.out 0).trans rfl, (blk_cell BK445.out 1).trans rfl, ((HB.out.cell (World.block_lt_of_cell? w _ hw446_0)).trans hw446_0), ((HB.out.cell (World.block_lt_of_cell? w _ hw446_1)).trans hw446_1), ((HB.out.cell (World.block_lt_of_cell? w _ hw446_2)).trans hw446_2), ((HB.out.cell (World.block_lt_of_cell? w _ hw446_3)).trans hw446_3), ((HB.out.cell (World.block_lt_of_cell? w _ hw447_0)).trans hw447_0), ((HB.out.cell (World.block_lt_of_cell? w _ hw447_1)).trans hw447_1), ((HB.out.cell (World.block_lt_of_cell? w _ hw447_2)).trans hw447_2), ((HB.out.cell (World.block_lt_of_cell? w _ hw447_3)).trans hw447_3)⟩ (fun hHeld => ?_); refine with_tabW hurdleref10_Same.tab6 hurdleref10_Same.bits6 (fun HT_ HW_ => ?_)
                    generalize wr.drew = w21 at BK444 BK445 HB HR446_2 HR447_2 hx446_0 hx446_1 hx446_2 hx446_3 hx447_0 hx447_1 hx447_2 hx447_3 hHeld ⊢
                    refine pure_ (i := 0) (N := some 27) (v := ?_) (a' := ?_) #[true, false, false, false, false, false, false, false, false, false, false, false] rfl rfl (any_of HT_.out (by kernel_rfl)) (fun _ _ _ h => h) (Or.inl ⟨by rfl, ?_⟩) ?_ ?_
                    rotate_left
                    · intro w'
                      go_simp
                      with_reducible rfl
                    rotate_left
                    · simp only [Act.put, List.setIfInBounds_toArray, List.set_cons_zero, List.set_cons_succ, i64_w, i32_w]
                      rfl
                    refine pure_ (i := 2) (N := some 29) (v := ?_) (a' := ?_) #[true, false, true, false, false, false, false, false, false, false, false, false] rfl rfl (any_of HT_.out (by kernel_rfl)) (fun _ _ _ h => h) (Or.inl ⟨by rfl, ?_⟩) ?_ ?_
                    rotate_left
                    · intro w'
                      go_simp
                      with_reducible rfl
                    rotate_left
                    · simp only [Act.put, List.setIfInBounds_toArray, List.set_cons_zero, List.set_cons_succ, i64_w, i32_w]
                      rfl
                    refine pure_ (i := 5) (N := some 32) (v := ?_) (a' := ?_) #[true, false, true, false, false, true, false, false, false, false, false, false] rfl rfl (any_of HT_.out (by kernel_rfl)) (fun _ _ _ h => h) (Or.inl ⟨by rfl, ?_⟩) ?_ ?_
                    rotate_left
                    · intro w'
                      go_simp
                      with_reducible rfl
                    rotate_left
                    · simp only [Act.put, List.setIfInBounds_toArray, List.set_cons_zero, List.set_cons_succ, i64_w, i32_w]
                      rfl
                    refine pure_ (i := 7) (N := some 34) (v := ?_) (a' := ?_) #[true, false, true, false, false, true, false, true, false, false, false, false] rfl rfl (any_of HT_.out (by kernel_rfl)) (fun _ _ _ h => h) (Or.inl ⟨by rfl, ?_⟩) ?_ ?_
                    rotate_left
                    · intro w'
                      go_simp
                      with_reducible rfl
                    rotate_left
                    · simp only [Act.put, List.setIfInBounds_toArray, List.set_cons_zero, List.set_cons_succ, i64_w, i32_w]
                      rfl
                    refine take_ (i := 1) (N := some 28) (v := ?_) (a' := ?_) #[true, true, true, false, false, true, false, true, false, false, false, false] rfl rfl (take_ofW HT_.out HW_.out (by kernel_rfl)) (fun _ _ _ h => h) (Or.inl ⟨by rfl, ?_⟩) hHeld ?_ ?_
                    rotate_left
                    · rintro w' ⟨s0, s1, s2, s3, s4, s5, s6, s7, s8, s9, s10, s11⟩
                      go_simp
                      with_reducible rfl
                    rotate_left
                    · simp only [Act.put, List.setIfInBounds_toArray, List.set_cons_zero, List.set_cons_succ, i64_w, i32_w]
                      rfl
                    refine pure_ (i := 3) (N := some 30) (v := ?_) (a' := ?_) #[true, true, true, true, false, true, false, true, false, false, false, false] rfl rfl (any_of HT_.out (by kernel_rfl)) (fun _ _ _ h => h) (Or.inl ⟨by rfl, ?_⟩) ?_ ?_
                    rotate_left
                    · intro w'
                      go_simp
                      with_reducible rfl
                    rotate_left
                    · simp only [Act.put, List.setIfInBounds_toArray, List.set_cons_zero, List.set_cons_succ, i64_w, i32_w]
                      rfl
                    refine take_ (i := 4) (N := some 31) (v := ?_) (a' := ?_) #[true, true, true, true, true, true, false, true, false, false, false, false] rfl rfl (take_ofW HT_.out HW_.out (by kernel_rfl)) (fun _ _ _ h => h) (Or.inl ⟨by rfl, ?_⟩) hHeld ?_ ?_
                    rotate_left
                    · rintro w' ⟨s0, s1, s2, s3, s4, s5, s6, s7, s8, s9, s10, s11⟩
                      go_simp
                      with_reducible rfl
                    rotate_left
                    · simp only [Act.put, List.setIfInBounds_toArray, List.set_cons_zero, List.set_cons_succ, i64_w, i32_w]
                      rfl
                    refine take_ (i := 6) (N := some 33) (v := ?_) (a' := ?_) #[true, true, true, true, true, true, true, true, false, false, false, false] rfl rfl (take_ofW HT_.out HW_.out (by kernel_rfl)) (fun _ _ _ h => h) (Or.inl ⟨by rfl, ?_⟩) hHeld ?_ ?_
                    rotate_left
                    · rintro w' ⟨s0, s1, s2, s3, s4, s5, s6, s7, s8, s9, s10, s11⟩
                      go_simp
                      with_reducible rfl
                    rotate_left
                    · simp only [Act.put, List.setIfInBounds_toArray, List.set_cons_zero, List.set_cons_succ, i64_w, i32_w]
                      rfl
                    refine pure_ (i := 8) (N := some 35) (v := ?_) (a' := ?_) #[true, true, true, true, true, true, true, true, true, false, false, false] rfl rfl (any_of HT_.out (by kernel_rfl)) (fun _ _ _ h => h) (Or.inl ⟨by rfl, ?_⟩) ?_ ?_
                    rotate_left
                    · intro w'
                      go_simp
                      with_reducible rfl
                    rotate_left
                    · simp only [Act.put, List.setIfInBounds_toArray, List.set_cons_zero, List.set_cons_succ, i64_w, i32_w]
                      rfl
                    refine take_ (i := 9) (N := some 36) (v := ?_) (a' := ?_) #[true, true, true, true, true, true, true, true, true, true, false, false] rfl rfl (take_ofW HT_.out HW_.out (by kernel_rfl)) (fun _ _ _ h => h) (Or.inl ⟨by rfl, ?_⟩) hHeld ?_ ?_
                    rotate_left
                    · rintro w' ⟨s0, s1, s2, s3, s4, s5, s6, s7, s8, s9, s10, s11⟩
                      go_simp
                      with_reducible rfl
                    rotate_left
                    · simp only [Act.put, List.setIfInBounds_toArray, List.set_cons_zero, List.set_cons_succ, i64_w, i32_w]
                      rfl
                    refine one_ (i := 10) (N := some 37) #[true, true, true, true, true, true, true, true, true, true, true, false] rfl rfl (one_of HT_.out (by kernel_rfl)) (by decide) (fun K hK => ?_)
                    refine goes_ Try.func44 (by kernel_rfl) rfl #[.agg #[.int .u32 ((rd_T40 l0_0 x5_2).f0), .int .u32 ((rd_T40 l0_0 x5_2).f1), .slice A446_2 ((rd_T40 l0_0 x5_2).f2).length c446_2, .int .u32 ((rd_T40 l0_0 x5_2).f3)], .agg #[.int .u32 ((rd_T40 l1_0 x5_2).f0), .int .u32 ((rd_T40 l1_0 x5_2).f1), .slice A447_2 ((rd_T40 l1_0 x5_2).f2).length c447_2, .int .u32 ((rd_T40 l1_0 x5_2).f3)]] (by rfl) rfl rfl (by (try simp only [List.map_toArray, List.map_cons, List.map_nil]); first | done | rfl | (simp only [List.length_drop, List.length_take]; rfl)) ?_
                    with_reducible refine (hurdleref10_SameRule.calls k2 ((rd_T40 l0_0 x5_2).f0) ((rd_T40 l0_0 x5_2).f1) _ _ ((rd_T40 l0_0 x5_2).f2) ((rd_T40 l0_0 x5_2).f3) ((rd_T40 l1_0 x5_2).f0) ((rd_T40 l1_0 x5_2).f1) _ _ ((rd_T40 l1_0 x5_2).f2) ((rd_T40 l1_0 x5_2).f3) true _ ?side1 ?side2 ?side3 ?side4 A17.out).mono ?_
                    (case side1 => repeat (first | exact (Kd.C_below HR446_2.out HB.out) | (with_reducible refine Kd.C_alloc ?_ _) | (with_reducible refine Kd.C_drewN ?_ _) | (with_reducible refine Kd.C_drew ?_)))
                    (case side2 => exact HC446_2.out)
                    (case side3 => repeat (first | exact (Kd.C_below HR447_2.out HB.out) | (with_reducible refine Kd.C_alloc ?_ _) | (with_reducible refine Kd.C_drewN ?_ _) | (with_reducible refine Kd.C_drew ?_)))
                    (case side4 => exact HC447_2.out)
                    rintro e w22 ⟨rfl, hb⟩
                    refine ⟨_, rfl, ?_⟩
                    have n0_ := Aside0.mk (blk_below (g := gb444) (o := .cells #[.slice (some ad446) l0_0.length c0_0, .int .u32 a0_1] 25 (0, 0)) (by (with_reducible repeat (first | refine blk_drewN ?_ _ | refine blk_drew ?_ | refine blk_alloc ?_ _)); exact BK444.out) hb)
                    have n1_ := Aside0.mk (blk_below (g := gb445) (o := .cells #[.slice (some ad447) l1_0.length c1_0, .int .u32 a1_1] 25 (0, 0)) (by (with_reducible repeat (first | refine blk_drewN ?_ _ | refine blk_drew ?_ | refine blk_alloc ?_ _)); exact BK445.out) hb)
                    have n2_ := Aside0.mk (below_step (by repeat (first | (with_reducible first | exact HB.out | apply below_alloc | apply pw_below_drewN | apply below_drew1 | refine below_set ?_ GE444.out | refine below_set ?_ GE445.out) | exact HB.out)) hb)
                    clear BK444
                    clear BK445
                    clear HB
                    have BK444 := n0_
                    have BK445 := n1_
                    have HB := n2_
                    clear n0_ n1_ n2_
                    (try clear hb)
                    (try clear hb2)
                    (try clear hk)
                    (try clear hi)
                    refine hK.out _ _ ⟨(blk_cell BK444.out 0).trans rfl, (blk_cell BK444.out 1).trans rfl, (blk_cell BK445.out 0).trans rfl, (blk_cell BK445.out 1).trans rfl, ((HB.out.cell (World.block_lt_of_cell? w _ hw446_0)).trans hw446_0), ((HB.out.cell (World.block_lt_of_cell? w _ hw446_1)).trans hw446_1), ((HB.out.cell (World.block_lt_of_cell? w _ hw446_2)).trans hw446_2), ((HB.out.cell (World.block_lt_of_cell? w _ hw446_3)).trans hw446_3), ((HB.out.cell (World.block_lt_of_cell? w _ hw447_0)).trans hw447_0), ((HB.out.cell (World.block_lt_of_cell? w _ hw447_1)).trans hw447_1), ((HB.out.cell (World.block_lt_of_cell? w _ hw447_2)).trans hw447_2), ((HB.out.cell (World.block_lt_of_cell? w _ hw447_3)).trans hw447_3)⟩ (fun hHeld => ?_)
                    clear hK K
                    refine norm_ (a' := ?_) ?_ ?_
                    rotate_left
                    · show Act.put _ (some 37) _ = _
                      simp only [Act.put, List.setIfInBounds_toArray, List.set_cons_zero, List.set_cons_succ, i64_w, i32_w]
                      rfl
                    refine pure_ (i := 11) (N := some 38) (v := ?_) (a' := ?_) #[true, true, true, true, true, true, true, true, true, true, true, true] rfl rfl (any_of HT_.out (by kernel_rfl)) (fun _ _ _ h => h) (Or.inl ⟨by rfl, ?_⟩) ?_ ?_
                    rotate_left
                    · intro w'
                      go_simp
                      with_reducible rfl
                    rotate_left
                    · simp only [Act.put, List.setIfInBounds_toArray, List.set_cons_zero, List.set_cons_succ, i64_w, i32_w]
                      rfl
                    refine done_ (done_of HT_.out (by kernel_rfl)) ?_
                    try go_wp2
                    go_roundg k2
                    case measure => have := HJ2.out; have := HK2.out; omega
                    case rel => exact ⟨(wrap64 (x5_2 + 1)), (by first | rfl | (simp; done) | (simp [*]; done)), H', ⟨by have := HJ2.out; have := HK2.out; omega⟩, ⟨by (with_reducible repeat (first | refine blk_drewN ?_ _ | refine blk_drew ?_ | refine blk_alloc ?_ _)); exact BK444.out⟩, ⟨by (with_reducible repeat (first | refine blk_drewN ?_ _ | refine blk_drew ?_ | refine blk_alloc ?_ _)); exact BK445.out⟩, ⟨by repeat (first | (with_reducible first | exact HB.out | apply below_alloc | apply pw_below_drewN | apply below_drew1 | refine below_set ?_ GE444.out | refine below_set ?_ GE445.out) | exact HB.out)⟩⟩
                  · replace c18 := Bool.eq_false_iff.mpr c18
                    subst c18
                    have H1 : (some false) = some r := by rw [if_neg (show ¬ (false = true) by decide)] at H; exact H
                    clear H
                    have H := H1
                    clear H1
                    obtain rfl := Option.some.inj H
                    have hnb23 := NB444_445.out
                    have hnc23 := NB445_444.out
                    have hcz24_0 : wr.cell? ⟨gb444, 0, none⟩ = some (.slice A0_0 l0_0.length c0_0) := (blk_cell BK444.out 0).trans rfl
                    have hcz24_1 : wr.cell? ⟨gb444, 1, none⟩ = some (.int .u32 a0_1) := (blk_cell BK444.out 1).trans rfl
                    have hfz24_0 := blk_frozen BK444.out 0
                    have hfz24_1 := blk_frozen BK444.out 1
                    try go_wp2
                    have n0_ := Aside0.mk (blk_drew BK444.out)
                    have n1_ := Aside0.mk (blk_drew BK445.out)
                    have n2_ := Aside0.mk (below_drew1 HB.out)
                    clear BK444
                    clear BK445
                    clear HB
                    have BK444 := n0_
                    have BK445 := n1_
                    have HB := n2_
                    clear n0_ n1_ n2_
                    have p446 : 0 ≤ (x5_2 : Int) := of_decide_eq_true (by first | (with_reducible assumption) | assumption)
                    have q446 : x5_2 < (l0_0.length : Int) := of_decide_eq_true (by first | (with_reducible assumption) | assumption)
                    obtain ⟨ad446, A446_2, c446_2, e446, hx446_0, hx446_1, hx446_2, hx446_3, hl446_2, hi446_2⟩ := at_T40 HR0_0.out x5_2 p446 q446
                    have hw446_3 := hx446_3
                    have hw446_2 := hx446_2
                    have hw446_1 := hx446_1
                    have hw446_0 := hx446_0
                    cases e446
                    replace hx446_0 := (HB.out.cell (World.block_lt_of_cell? w _ hx446_0)).trans hx446_0
                    replace hx446_1 := (HB.out.cell (World.block_lt_of_cell? w _ hx446_1)).trans hx446_1
                    replace hx446_2 := (HB.out.cell (World.block_lt_of_cell? w _ hx446_2)).trans hx446_2
                    replace hx446_3 := (HB.out.cell (World.block_lt_of_cell? w _ hx446_3)).trans hx446_3
                    have HR446_2 := Aside0.mk hi446_2
                    have HC446_2 := Aside0.mk hl446_2
                    clear hi446_2 hl446_2
                    replace p446 := eq_true p446
                    replace q446 := eq_true q446
                    have p447 : 0 ≤ (x5_2 : Int) := of_decide_eq_true (by first | (with_reducible assumption) | assumption)
                    have q447 : x5_2 < (l1_0.length : Int) := of_decide_eq_true (by first | (with_reducible assumption) | assumption)
                    obtain ⟨ad447, A447_2, c447_2, e447, hx447_0, hx447_1, hx447_2, hx447_3, hl447_2, hi447_2⟩ := at_T40 HR1_0.out x5_2 p447 q447
                    have hw447_3 := hx447_3
                    have hw447_2 := hx447_2
                    have hw447_1 := hx447_1
                    have hw447_0 := hx447_0
                    cases e447
                    replace hx447_0 := (HB.out.cell (World.block_lt_of_cell? w _ hx447_0)).trans hx447_0
                    replace hx447_1 := (HB.out.cell (World.block_lt_of_cell? w _ hx447_1)).trans hx447_1
                    replace hx447_2 := (HB.out.cell (World.block_lt_of_cell? w _ hx447_2)).trans hx447_2
                    replace hx447_3 := (HB.out.cell (World.block_lt_of_cell? w _ hx447_3)).trans hx447_3
                    have HR447_2 := Aside0.mk hi447_2
                    have HC447_2 := Aside0.mk hl447_2
                    clear hi447_2 hl447_2
                    replace p447 := eq_true p447
                    replace q447 := eq_true q447
                    refine start_ (n := 12) (S := fun w' => w'.cell? ⟨gb444, 0, none⟩ = some (.slice (some ad446) l0_0.length c0_0) ∧ w'.cell? ⟨gb444, 1, none⟩ = some (.int .u32 a0_1) ∧ w'.cell? ⟨gb445, 0, none⟩ = some (.slice (some ad447) l1_0.length c1_0) ∧ w'.cell? ⟨gb445, 1, none⟩ = some (.int .u32 a1_1) ∧ w'.cell? (ad446.add ((x5_2).toNat * 4)) = some (.int .u32 ((rd_T40 l0_0 x5_2).f0)) ∧ w'.cell? ⟨(ad446.add ((x5_2).toNat * 4)).block, (ad446.add ((x5_2).toNat * 4)).off + 1, none⟩ = some (.int .u32 ((rd_T40 l0_0 x5_2).f1)) ∧ w'.cell? ⟨(ad446.add ((x5_2).toNat * 4)).block, (ad446.add ((x5_2).toNat * 4)).off + 2, none⟩ = some (.slice A446_2 ((rd_T40 l0_0 x5_2).f2).length c446_2) ∧ w'.cell? ⟨(ad446.add ((x5_2).toNat * 4)).block, (ad446.add ((x5_2).toNat * 4)).off + 3, none⟩ = some (.int .u32 ((rd_T40 l0_0 x5_2).f3)) ∧ w'.cell? (ad447.add ((x5_2).toNat * 4)) = some (.int .u32 ((rd_T40 l1_0 x5_2).f0)) ∧ w'.cell? ⟨(ad447.add ((x5_2).toNat * 4)).block, (ad447.add ((x5_2).toNat * 4)).off + 1, none⟩ = some (.int .u32 ((rd_T40 l1_0 x5_2).f1)) ∧ w'.cell? ⟨(ad447.add ((x5_2).toNat * 4)).block, (ad447.add ((x5_2).toNat * 4)).off + 2, none⟩ = some (.slice A447_2 ((rd_T40 l1_0 x5_2).f2).length c447_2) ∧ w'.cell? ⟨(ad447.add ((x5_2).toNat * 4)).block, (ad447.add ((x5_2).toNat * 4)).off + 3, none⟩ = some (.int .u32 ((rd_T40 l1_0 x5_2).f3))) (ds := []) #[false, false, false, false, false, false, false, false, false, false, false, false] (by kernel_rfl) rfl rfl ⟨(blk_cell BK444.out 0).trans rfl, (blk_cell BK444.out 1).trans rfl, (blk_cell BK445.out 0).trans rfl, (blk_cell BK445.out 1).trans rfl, ((HB.out.cell (World.block_lt_of_cell? w _ hw446_0)).trans hw446_0), ((HB.out.cell (World.block_lt_of_cell? w _ hw446_1)).trans hw446_1), ((HB.out.cell (World.block_lt_of_cell? w _ hw446_2)).trans hw446_2), ((HB.out.cell (World.block_lt_of_cell? w _ hw446_3)).trans hw446_3), ((HB.out.cell (World.block_lt_of_cell? w _ hw447_0)).trans hw447_0), ((HB.out.cell (World.block_lt_of_cell? w _ hw447_1)).trans hw447_1), ((HB.out.cell (World.block_lt_of_cell? w _ hw447_2)).trans hw447_2), ((HB.out.cell (World.block_lt_of_cell? w _ hw447_3)).trans hw447_3)⟩ (fun hHeld => ?_); refine with_tabW hurdleref10_Same.tab6 hurdleref10_Same.bits6 (fun HT_ HW_ => ?_)
                    generalize wr.drew = w25 at BK444 BK445 HB HR446_2 HR447_2 hx446_0 hx446_1 hx446_2 hx446_3 hx447_0 hx447_1 hx447_2 hx447_3 hHeld ⊢
                    refine pure_ (i := 0) (N := some 27) (v := ?_) (a' := ?_) #[true, false, false, false, false, false, false, false, false, false, false, false] rfl rfl (any_of HT_.out (by kernel_rfl)) (fun _ _ _ h => h) (Or.inl ⟨by rfl, ?_⟩) ?_ ?_
                    rotate_left
                    · intro w'
                      go_simp
                      with_reducible rfl
                    rotate_left
                    · simp only [Act.put, List.setIfInBounds_toArray, List.set_cons_zero, List.set_cons_succ, i64_w, i32_w]
                      rfl
                    refine pure_ (i := 2) (N := some 29) (v := ?_) (a' := ?_) #[true, false, true, false, false, false, false, false, false, false, false, false] rfl rfl (any_of HT_.out (by kernel_rfl)) (fun _ _ _ h => h) (Or.inl ⟨by rfl, ?_⟩) ?_ ?_
                    rotate_left
                    · intro w'
                      go_simp
                      with_reducible rfl
                    rotate_left
                    · simp only [Act.put, List.setIfInBounds_toArray, List.set_cons_zero, List.set_cons_succ, i64_w, i32_w]
                      rfl
                    refine pure_ (i := 5) (N := some 32) (v := ?_) (a' := ?_) #[true, false, true, false, false, true, false, false, false, false, false, false] rfl rfl (any_of HT_.out (by kernel_rfl)) (fun _ _ _ h => h) (Or.inl ⟨by rfl, ?_⟩) ?_ ?_
                    rotate_left
                    · intro w'
                      go_simp
                      with_reducible rfl
                    rotate_left
                    · simp only [Act.put, List.setIfInBounds_toArray, List.set_cons_zero, List.set_cons_succ, i64_w, i32_w]
                      rfl
                    refine pure_ (i := 7) (N := some 34) (v := ?_) (a' := ?_) #[true, false, true, false, false, true, false, true, false, false, false, false] rfl rfl (any_of HT_.out (by kernel_rfl)) (fun _ _ _ h => h) (Or.inl ⟨by rfl, ?_⟩) ?_ ?_
                    rotate_left
                    · intro w'
                      go_simp
                      with_reducible rfl
                    rotate_left
                    · simp only [Act.put, List.setIfInBounds_toArray, List.set_cons_zero, List.set_cons_succ, i64_w, i32_w]
                      rfl
                    refine take_ (i := 1) (N := some 28) (v := ?_) (a' := ?_) #[true, true, true, false, false, true, false, true, false, false, false, false] rfl rfl (take_ofW HT_.out HW_.out (by kernel_rfl)) (fun _ _ _ h => h) (Or.inl ⟨by rfl, ?_⟩) hHeld ?_ ?_
                    rotate_left
                    · rintro w' ⟨s0, s1, s2, s3, s4, s5, s6, s7, s8, s9, s10, s11⟩
                      go_simp
                      with_reducible rfl
                    rotate_left
                    · simp only [Act.put, List.setIfInBounds_toArray, List.set_cons_zero, List.set_cons_succ, i64_w, i32_w]
                      rfl
                    refine pure_ (i := 3) (N := some 30) (v := ?_) (a' := ?_) #[true, true, true, true, false, true, false, true, false, false, false, false] rfl rfl (any_of HT_.out (by kernel_rfl)) (fun _ _ _ h => h) (Or.inl ⟨by rfl, ?_⟩) ?_ ?_
                    rotate_left
                    · intro w'
                      go_simp
                      with_reducible rfl
                    rotate_left
                    · simp only [Act.put, List.setIfInBounds_toArray, List.set_cons_zero, List.set_cons_succ, i64_w, i32_w]
                      rfl
                    refine take_ (i := 4) (N := some 31) (v := ?_) (a' := ?_) #[true, true, true, true, true, true, false, true, false, false, false, false] rfl rfl (take_ofW HT_.out HW_.out (by kernel_rfl)) (fun _ _ _ h => h) (Or.inl ⟨by rfl, ?_⟩) hHeld ?_ ?_
                    rotate_left
                    · rintro w' ⟨s0, s1, s2, s3, s4, s5, s6, s7, s8, s9, s10, s11⟩
                      go_simp
                      with_reducible rfl
                    rotate_left
                    · simp only [Act.put, List.setIfInBounds_toArray, List.set_cons_zero, List.set_cons_succ, i64_w, i32_w]
                      rfl
                    refine take_ (i := 6) (N := some 33) (v := ?_) (a' := ?_) #[true, true, true, true, true, true, true, true, false, false, false, false] rfl rfl (take_ofW HT_.out HW_.out (by kernel_rfl)) (fun _ _ _ h => h) (Or.inl ⟨by rfl, ?_⟩) hHeld ?_ ?_
                    rotate_left
                    · rintro w' ⟨s0, s1, s2, s3, s4, s5, s6, s7, s8, s9, s10, s11⟩
                      go_simp
                      with_reducible rfl
                    rotate_left
                    · simp only [Act.put, List.setIfInBounds_toArray, List.set_cons_zero, List.set_cons_succ, i64_w, i32_w]
                      rfl
                    refine pure_ (i := 8) (N := some 35) (v := ?_) (a' := ?_) #[true, true, true, true, true, true, true, true, true, false, false, false] rfl rfl (any_of HT_.out (by kernel_rfl)) (fun _ _ _ h => h) (Or.inl ⟨by rfl, ?_⟩) ?_ ?_
                    rotate_left
                    · intro w'
                      go_simp
                      with_reducible rfl
                    rotate_left
                    · simp only [Act.put, List.setIfInBounds_toArray, List.set_cons_zero, List.set_cons_succ, i64_w, i32_w]
                      rfl
                    refine take_ (i := 9) (N := some 36) (v := ?_) (a' := ?_) #[true, true, true, true, true, true, true, true, true, true, false, false] rfl rfl (take_ofW HT_.out HW_.out (by kernel_rfl)) (fun _ _ _ h => h) (Or.inl ⟨by rfl, ?_⟩) hHeld ?_ ?_
                    rotate_left
                    · rintro w' ⟨s0, s1, s2, s3, s4, s5, s6, s7, s8, s9, s10, s11⟩
                      go_simp
                      with_reducible rfl
                    rotate_left
                    · simp only [Act.put, List.setIfInBounds_toArray, List.set_cons_zero, List.set_cons_succ, i64_w, i32_w]
                      rfl
                    refine one_ (i := 10) (N := some 37) #[true, true, true, true, true, true, true, true, true, true, true, false] rfl rfl (one_of HT_.out (by kernel_rfl)) (by decide) (fun K hK => ?_)
                    refine goes_ Try.func44 (by kernel_rfl) rfl #[.agg #[.int .u32 ((rd_T40 l0_0 x5_2).f0), .int .u32 ((rd_T40 l0_0 x5_2).f1), .slice A446_2 ((rd_T40 l0_0 x5_2).f2).length c446_2, .int .u32 ((rd_T40 l0_0 x5_2).f3)], .agg #[.int .u32 ((rd_T40 l1_0 x5_2).f0), .int .u32 ((rd_T40 l1_0 x5_2).f1), .slice A447_2 ((rd_T40 l1_0 x5_2).f2).length c447_2, .int .u32 ((rd_T40 l1_0 x5_2).f3)]] (by rfl) rfl rfl (by (try simp only [List.map_toArray, List.map_cons, List.map_nil]); first | done | rfl | (simp only [List.length_drop, List.length_take]; rfl)) ?_
                    with_reducible refine (hurdleref10_SameRule.calls k2 ((rd_T40 l0_0 x5_2).f0) ((rd_T40 l0_0 x5_2).f1) _ _ ((rd_T40 l0_0 x5_2).f2) ((rd_T40 l0_0 x5_2).f3) ((rd_T40 l1_0 x5_2).f0) ((rd_T40 l1_0 x5_2).f1) _ _ ((rd_T40 l1_0 x5_2).f2) ((rd_T40 l1_0 x5_2).f3) false _ ?side1 ?side2 ?side3 ?side4 A17.out).mono ?_
                    (case side1 => repeat (first | exact (Kd.C_below HR446_2.out HB.out) | (with_reducible refine Kd.C_alloc ?_ _) | (with_reducible refine Kd.C_drewN ?_ _) | (with_reducible refine Kd.C_drew ?_)))
                    (case side2 => exact HC446_2.out)
                    (case side3 => repeat (first | exact (Kd.C_below HR447_2.out HB.out) | (with_reducible refine Kd.C_alloc ?_ _) | (with_reducible refine Kd.C_drewN ?_ _) | (with_reducible refine Kd.C_drew ?_)))
                    (case side4 => exact HC447_2.out)
                    rintro e w26 ⟨rfl, hb⟩
                    refine ⟨_, rfl, ?_⟩
                    have n0_ := Aside0.mk (blk_below (g := gb444) (o := .cells #[.slice (some ad446) l0_0.length c0_0, .int .u32 a0_1] 25 (0, 0)) (by (with_reducible repeat (first | refine blk_drewN ?_ _ | refine blk_drew ?_ | refine blk_alloc ?_ _)); exact BK444.out) hb)
                    have n1_ := Aside0.mk (blk_below (g := gb445) (o := .cells #[.slice (some ad447) l1_0.length c1_0, .int .u32 a1_1] 25 (0, 0)) (by (with_reducible repeat (first | refine blk_drewN ?_ _ | refine blk_drew ?_ | refine blk_alloc ?_ _)); exact BK445.out) hb)
                    have n2_ := Aside0.mk (below_step (by repeat (first | (with_reducible first | exact HB.out | apply below_alloc | apply pw_below_drewN | apply below_drew1 | refine below_set ?_ GE444.out | refine below_set ?_ GE445.out) | exact HB.out)) hb)
                    clear BK444
                    clear BK445
                    clear HB
                    have BK444 := n0_
                    have BK445 := n1_
                    have HB := n2_
                    clear n0_ n1_ n2_
                    (try clear hb)
                    (try clear hb2)
                    (try clear hk)
                    (try clear hi)
                    refine hK.out _ _ ⟨(blk_cell BK444.out 0).trans rfl, (blk_cell BK444.out 1).trans rfl, (blk_cell BK445.out 0).trans rfl, (blk_cell BK445.out 1).trans rfl, ((HB.out.cell (World.block_lt_of_cell? w _ hw446_0)).trans hw446_0), ((HB.out.cell (World.block_lt_of_cell? w _ hw446_1)).trans hw446_1), ((HB.out.cell (World.block_lt_of_cell? w _ hw446_2)).trans hw446_2), ((HB.out.cell (World.block_lt_of_cell? w _ hw446_3)).trans hw446_3), ((HB.out.cell (World.block_lt_of_cell? w _ hw447_0)).trans hw447_0), ((HB.out.cell (World.block_lt_of_cell? w _ hw447_1)).trans hw447_1), ((HB.out.cell (World.block_lt_of_cell? w _ hw447_2)).trans hw447_2), ((HB.out.cell (World.block_lt_of_cell? w _ hw447_3)).trans hw447_3)⟩ (fun hHeld => ?_)
                    clear hK K
                    refine norm_ (a' := ?_) ?_ ?_
                    rotate_left
                    · show Act.put _ (some 37) _ = _
                      simp only [Act.put, List.setIfInBounds_toArray, List.set_cons_zero, List.set_cons_succ, i64_w, i32_w]
                      rfl
                    refine pure_ (i := 11) (N := some 38) (v := ?_) (a' := ?_) #[true, true, true, true, true, true, true, true, true, true, true, true] rfl rfl (any_of HT_.out (by kernel_rfl)) (fun _ _ _ h => h) (Or.inl ⟨by rfl, ?_⟩) ?_ ?_
                    rotate_left
                    · intro w'
                      go_simp
                      with_reducible rfl
                    rotate_left
                    · simp only [Act.put, List.setIfInBounds_toArray, List.set_cons_zero, List.set_cons_succ, i64_w, i32_w]
                      rfl
                    refine done_ (done_of HT_.out (by kernel_rfl)) ?_
                    try go_wp2
                    go_ret
                    exact ⟨by first | rfl | (simp [errW_none, errW_some] <;> rfl) | (simp [*, errW_none, errW_some] <;> rfl), by repeat (first | (with_reducible first | exact HB.out | apply below_alloc | apply pw_below_drewN | apply below_drew1 | refine below_set ?_ GE444.out | refine below_set ?_ GE445.out) | exact HB.out)⟩
                · rw [if_neg c16] at H
                  exact absurd H (by simp)
              · rw [if_neg c15] at H
                exact absurd H (by simp)
            · rw [if_neg c14] at H
              have c14b0 : decide (x5_2 < (l0_0.length : Int)) = false := decide_eq_false c14
              clear c14
              obtain rfl := Option.some.inj H
              have hnb27 := NB444_445.out
              have hnc27 := NB445_444.out
              have hcz28_0 : wr.cell? ⟨gb444, 0, none⟩ = some (.slice A0_0 l0_0.length c0_0) := (blk_cell BK444.out 0).trans rfl
              have hcz28_1 : wr.cell? ⟨gb444, 1, none⟩ = some (.int .u32 a0_1) := (blk_cell BK444.out 1).trans rfl
              have hfz28_0 := blk_frozen BK444.out 0
              have hfz28_1 := blk_frozen BK444.out 1
              go_wp2
              go_ret
              exact ⟨by first | rfl | (simp [errW_none, errW_some] <;> rfl) | (simp [*, errW_none, errW_some] <;> rfl), by repeat (first | (with_reducible first | exact HB.out | apply below_alloc | apply pw_below_drewN | apply below_drew1 | refine below_set ?_ GE444.out | refine below_set ?_ GE445.out) | exact HB.out)⟩
end Go.Proofs.Ytekpbgmmogpbdaa.P
namespace Go.Proofs.Ytekpbgmmogpbdaa.P
open Go.RowKit Go.Proofs.Ytekpbgmmogpbdaa.H Go.Proofs.YtekpbgmmogpbdaaW.PrintWords Go.Proofs.YtekpbgmmogpbdaaW.PrintLast Go.Proofs.YtekpbgmmogpbdaaW.PrintMore
attribute [local go_sem] max2_int min2_int max_two min_two max_three min_three max_four min_four
set_option linter.unusedVariables false
set_option linter.unusedSimpArgs false
def hurdlelaw10_PolicyBack.f (k : Nat) (l0_0 : List (S40)) (a0_1 : Int) : Option (Bool) := (hurdlelaw10_Great.f k l0_0 a0_1).bind fun t467 => (if t467 = true then ((hurdlelaw10_knows.f k).bind fun t468 => (some t468)) else ((policy_Print.f k l0_0 a0_1).bind fun bt469 => (if bt469.2 = 0 then ((policy_Parse.f bt469.1).bind fun bt472 => (if (bt469.1.size : Int) > 20000 then (if bt472.2.2.2 = 3 then ((hurdlelaw10_knows.f k).bind fun t479 => (some t479)) else (some false)) else ((hurdleref10_Same.f k l0_0 a0_1 bt472.1 bt472.2.1).bind fun t480 => (if t480 = true then (if bt472.2.2.2 = 0 then ((hurdlelaw10_knows.f k).bind fun t481 => (some t481)) else (some false)) else (some false))))) else (if bt469.1.toList = ([] : List UInt8) then ((hurdlelaw10_knows.f k).bind fun t471 => (some t471)) else (some false)))))
set_option maxHeartbeats 8000000 in
set_option maxRecDepth 100000 in
theorem hurdlelaw10_PolicyBack.calls (k : Nat) (A0_0 : Option Addr) (c0_0 : Nat) (l0_0 : List (S40)) (a0_1 : Int) (r : Bool) (w : World) (hr0_0 : Kd.C k40 w A0_0 l0_0.length l0_0) (hc0_0 : l0_0.length ≤ c0_0) (h : hurdlelaw10_PolicyBack.f k l0_0 a0_1 = some r) :
    Calls Try.prog 5 #[.agg #[.slice A0_0 l0_0.length c0_0, .int .u32 a0_1]] w fun e w' => e = .returned (.bool r) ∧ Below w.heap.size w w' := by
  have hu25 := Try.underlying25
  have HR0_0 := Aside0.mk hr0_0
  have HC0_0 := Aside0.mk hc0_0
  clear hr0_0 hc0_0
  have HB := Aside0.mk (Below.refl w.heap.size w)
  have H : ((hurdlelaw10_Great.f k l0_0 a0_1).bind fun t467 => (if t467 = true then ((hurdlelaw10_knows.f k).bind fun t468 => (some t468)) else ((policy_Print.f k l0_0 a0_1).bind fun bt469 => (if bt469.2 = 0 then ((policy_Parse.f bt469.1).bind fun bt472 => (if (bt469.1.size : Int) > 20000 then (if bt472.2.2.2 = 3 then ((hurdlelaw10_knows.f k).bind fun t479 => (some t479)) else (some false)) else ((hurdleref10_Same.f k l0_0 a0_1 bt472.1 bt472.2.1).bind fun t480 => (if t480 = true then (if bt472.2.2.2 = 0 then ((hurdlelaw10_knows.f k).bind fun t481 => (some t481)) else (some false)) else (some false))))) else (if bt469.1.toList = ([] : List UInt8) then ((hurdlelaw10_knows.f k).bind fun t471 => (some t471)) else (some false)))))) = some r := h
  clear h
  replace H := Option.bind_eq_some_iff.mp H
  obtain ⟨t467, A20, H⟩ := H
  replace H : (if t467 = true then ((hurdlelaw10_knows.f k).bind fun t468 => (some t468)) else ((policy_Print.f k l0_0 a0_1).bind fun bt469 => (if bt469.2 = 0 then ((policy_Parse.f bt469.1).bind fun bt472 => (if (bt469.1.size : Int) > 20000 then (if bt472.2.2.2 = 3 then ((hurdlelaw10_knows.f k).bind fun t479 => (some t479)) else (some false)) else ((hurdleref10_Same.f k l0_0 a0_1 bt472.1 bt472.2.1).bind fun t480 => (if t480 = true then (if bt472.2.2.2 = 0 then ((hurdlelaw10_knows.f k).bind fun t481 => (some t481)) else (some false)) else (some false))))) else (if bt469.1.toList = ([] : List UInt8) then ((hurdlelaw10_knows.f k).bind fun t471 => (some t471)) else (some false))))) = some r := H
  have A2 := Aside0.mk A20
  clear A20
  by_cases c3 : t467 = true
  · subst c3
    have H1 : ((hurdlelaw10_knows.f k).bind fun t468 => (some t468)) = some r := by rw [if_pos rfl] at H; exact H
    clear H
    have H := H1
    clear H1
    replace H := Option.bind_eq_some_iff.mp H
    obtain ⟨t468, A40, H⟩ := H
    replace H : (some t468) = some r := H
    have A4 := Aside0.mk A40
    clear A40
    obtain rfl := Option.some.inj H
    go_enter Try.func5, Try.ntmps5
    go_wp2_with (first | ((with_reducible refine gate_dst (N := 1) rfl ?_); refine box_event ?hg (N := 1) ?hd (cs := #[.slice A0_0 l0_0.length c0_0, .int .u32 a0_1]) (t := 25) ?hr ?_; (case hd => rfl); (case hg => rfl); (case hr => first | (go_simp; done) | (go_simp; rfl)); intro gb466 hg w5 hbox hb; have n0_ := Aside0.mk (below_step (by repeat (first | (with_reducible first | exact HB.out | apply below_alloc | apply pw_below_drewN | apply below_drew1) | exact HB.out)) hb); have n1_ := Aside0.mk (hbox); have n2_ := Aside0.mk ((by rw [hg]; exact (below_size (by repeat (first | (with_reducible first | exact HB.out | apply below_alloc | apply pw_below_drewN | apply below_drew1) | exact HB.out))) : w.heap.size ≤ gb466)); have n3_ := Aside0.mk ((by rw [hg]; exact (below_size (by repeat (first | (with_reducible first | exact HB.out | apply below_alloc | apply pw_below_drewN | apply below_drew1) | exact HB.out))) : w.heap.size ≤ gb466)); clear HB; have HB := n0_; have BK466 := n1_; have GW466 := n2_; have GE466 := n3_; clear n0_ n1_ n2_ n3_; clear hb hbox hg; have hcz6_0 : w5.cell? ⟨gb466, 0, none⟩ = some (.slice A0_0 l0_0.length c0_0) := (blk_cell BK466.out 0).trans rfl; have hcz6_1 : w5.cell? ⟨gb466, 1, none⟩ = some (.int .u32 a0_1) := (blk_cell BK466.out 1).trans rfl; have hfz6_0 := blk_frozen BK466.out 0; have hfz6_1 := blk_frozen BK466.out 1) | ((with_reducible refine gate_callee (f := 14) rfl ?_); refine goesL_ (some 9) rfl rfl Try.func14 (by kernel_rfl) rfl #[.agg #[.slice A0_0 l0_0.length c0_0, .int .u32 a0_1]] rfl (by (try simp only [List.map_toArray, List.map_cons, List.map_nil]); first | done | rfl | (simp only [List.length_drop, List.length_take]; rfl)) ?_; (with_reducible refine (hurdlelaw10_Great.calls k _ _ l0_0 a0_1 true _ ?side1 ?side2 A2.out).mono ?_); (case side1 => repeat (first | exact (Kd.C_below HR0_0.out HB.out) | (with_reducible refine Kd.C_alloc ?_ _) | (with_reducible refine Kd.C_drewN ?_ _) | (with_reducible refine Kd.C_drew ?_))); (case side2 => exact HC0_0.out); rintro e w7 ⟨rfl, hb⟩; refine ⟨_, rfl, ?_⟩; have n0_ := Aside0.mk (blk_below (g := gb466) (o := .cells #[.slice A0_0 l0_0.length c0_0, .int .u32 a0_1] 25 (0, 0)) (by (with_reducible repeat (first | refine blk_drewN ?_ _ | refine blk_drew ?_ | refine blk_alloc ?_ _)); exact BK466.out) hb); have n1_ := Aside0.mk (below_step (by repeat (first | (with_reducible first | exact HB.out | apply below_alloc | apply pw_below_drewN | apply below_drew1 | refine below_set ?_ GE466.out) | exact HB.out)) hb); clear BK466; clear HB; have BK466 := n0_; have HB := n1_; clear n0_ n1_; (try clear hb); (try clear hb2); (try clear hk); (try clear hi)) | ((with_reducible refine gate_callee (f := 15) rfl ?_); refine goesL_ (some 10) rfl rfl Try.func15 (by kernel_rfl) rfl #[] rfl (by (try simp only [List.map_toArray, List.map_cons, List.map_nil]); first | done | rfl | (simp only [List.length_drop, List.length_take]; rfl)) ?_; (with_reducible refine (hurdlelaw10_knows.calls k  t468 _ A4.out).mono ?_); rintro e w8 ⟨rfl, hb⟩; refine ⟨_, rfl, ?_⟩; have n0_ := Aside0.mk (blk_below (g := gb466) (o := .cells #[.slice A0_0 l0_0.length c0_0, .int .u32 a0_1] 25 (0, 0)) (by (with_reducible repeat (first | refine blk_drewN ?_ _ | refine blk_drew ?_ | refine blk_alloc ?_ _)); exact BK466.out) hb); have n1_ := Aside0.mk (below_step (by repeat (first | (with_reducible first | exact HB.out | apply below_alloc | apply pw_below_drewN | apply below_drew1 | refine below_set ?_ GE466.out) | exact HB.out)) hb); clear BK466; clear HB; have BK466 := n0_; have HB := n1_; clear n0_ n1_; (try clear hb); (try clear hb2); (try clear hk); (try clear hi)))
    go_ret
    exact ⟨by first | rfl | (simp [errW_none, errW_some] <;> rfl) | (simp [*, errW_none, errW_some] <;> rfl), by repeat (first | (with_reducible first | exact HB.out | apply below_alloc | apply pw_below_drewN | apply below_drew1 | refine below_set ?_ GE466.out) | exact HB.out)⟩
  · replace c3 := Bool.eq_false_iff.mpr c3
    subst c3
    have H1 : ((policy_Print.f k l0_0 a0_1).bind fun bt469 => (if bt469.2 = 0 then ((policy_Parse.f bt469.1).bind fun bt472 => (if (bt469.1.size : Int) > 20000 then (if bt472.2.2.2 = 3 then ((hurdlelaw10_knows.f k).bind fun t479 => (some t479)) else (some false)) else ((hurdleref10_Same.f k l0_0 a0_1 bt472.1 bt472.2.1).bind fun t480 => (if t480 = true then (if bt472.2.2.2 = 0 then ((hurdlelaw10_knows.f k).bind fun t481 => (some t481)) else (some false)) else (some false))))) else (if bt469.1.toList = ([] : List UInt8) then ((hurdlelaw10_knows.f k).bind fun t471 => (some t471)) else (some false)))) = some r := by rw [if_neg (show ¬ (false = true) by decide)] at H; exact H
    clear H
    have H := H1
    clear H1
    replace H := Option.bind_eq_some_iff.mp H
    obtain ⟨⟨t469, t470⟩, A90, H⟩ := H
    replace H : (if t470 = 0 then ((policy_Parse.f t469).bind fun bt472 => (if (t469.size : Int) > 20000 then (if bt472.2.2.2 = 3 then ((hurdlelaw10_knows.f k).bind fun t479 => (some t479)) else (some false)) else ((hurdleref10_Same.f k l0_0 a0_1 bt472.1 bt472.2.1).bind fun t480 => (if t480 = true then (if bt472.2.2.2 = 0 then ((hurdlelaw10_knows.f k).bind fun t481 => (some t481)) else (some false)) else (some false))))) else (if t469.toList = ([] : List UInt8) then ((hurdlelaw10_knows.f k).bind fun t471 => (some t471)) else (some false))) = some r := H
    have A9 := Aside0.mk A90
    clear A90
    by_cases c10 : t470 = 0
    · rw [if_pos c10] at H
      have c10b0 : (t470 == 0) = true := beq_iff_eq.mpr c10
      have c10b1 : (t470 != 0) = false := bne_eq_false_iff_eq.mpr c10
      clear c10
      replace H := Option.bind_eq_some_iff.mp H
      obtain ⟨⟨t472, t475, t476, t477⟩, A110, H⟩ := H
      replace H : (if (t469.size : Int) > 20000 then (if t477 = 3 then ((hurdlelaw10_knows.f k).bind fun t479 => (some t479)) else (some false)) else ((hurdleref10_Same.f k l0_0 a0_1 t472 t475).bind fun t480 => (if t480 = true then (if t477 = 0 then ((hurdlelaw10_knows.f k).bind fun t481 => (some t481)) else (some false)) else (some false)))) = some r := H
      have A11 := Aside0.mk A110
      clear A110
      by_cases c12 : (t469.size : Int) > 20000
      · rw [if_pos c12] at H
        have c12b0 : decide (20000 < (t469.size : Int)) = true := decide_eq_true c12
        have c12b1 : decide (20000 < t469.size) = true := decide_eq_true (by omega)
        clear c12
        by_cases c13 : t477 = 3
        · rw [if_pos c13] at H
          have c13b0 : (t477 == 3) = true := beq_iff_eq.mpr c13
          have c13b1 : (t477 != 3) = false := bne_eq_false_iff_eq.mpr c13
          clear c13
          replace H := Option.bind_eq_some_iff.mp H
          obtain ⟨t479, A140, H⟩ := H
          replace H : (some t479) = some r := H
          have A14 := Aside0.mk A140
          clear A140
          obtain rfl := Option.some.inj H
          go_enter Try.func5, Try.ntmps5
          go_wp2_with (first | ((with_reducible refine gate_dst (N := 1) rfl ?_); refine box_event ?hg (N := 1) ?hd (cs := #[.slice A0_0 l0_0.length c0_0, .int .u32 a0_1]) (t := 25) ?hr ?_; (case hd => rfl); (case hg => rfl); (case hr => first | (go_simp; done) | (go_simp; rfl)); intro gb466 hg w15 hbox hb; have n0_ := Aside0.mk (below_step (by repeat (first | (with_reducible first | exact HB.out | apply below_alloc | apply pw_below_drewN | apply below_drew1) | exact HB.out)) hb); have n1_ := Aside0.mk (hbox); have n2_ := Aside0.mk ((by rw [hg]; exact (below_size (by repeat (first | (with_reducible first | exact HB.out | apply below_alloc | apply pw_below_drewN | apply below_drew1) | exact HB.out))) : w.heap.size ≤ gb466)); have n3_ := Aside0.mk ((by rw [hg]; exact (below_size (by repeat (first | (with_reducible first | exact HB.out | apply below_alloc | apply pw_below_drewN | apply below_drew1) | exact HB.out))) : w.heap.size ≤ gb466)); clear HB; have HB := n0_; have BK466 := n1_; have GW466 := n2_; have GE466 := n3_; clear n0_ n1_ n2_ n3_; clear hb hbox hg; have hcz16_0 : w15.cell? ⟨gb466, 0, none⟩ = some (.slice A0_0 l0_0.length c0_0) := (blk_cell BK466.out 0).trans rfl; have hcz16_1 : w15.cell? ⟨gb466, 1, none⟩ = some (.int .u32 a0_1) := (blk_cell BK466.out 1).trans rfl; have hfz16_0 := blk_frozen BK466.out 0; have hfz16_1 := blk_frozen BK466.out 1) | ((with_reducible refine gate_callee (f := 14) rfl ?_); refine goesL_ (some 9) rfl rfl Try.func14 (by kernel_rfl) rfl #[.agg #[.slice A0_0 l0_0.length c0_0, .int .u32 a0_1]] rfl (by (try simp only [List.map_toArray, List.map_cons, List.map_nil]); first | done | rfl | (simp only [List.length_drop, List.length_take]; rfl)) ?_; (with_reducible refine (hurdlelaw10_Great.calls k _ _ l0_0 a0_1 false _ ?side1 ?side2 A2.out).mono ?_); (case side1 => repeat (first | exact (Kd.C_below HR0_0.out HB.out) | (with_reducible refine Kd.C_alloc ?_ _) | (with_reducible refine Kd.C_drewN ?_ _) | (with_reducible refine Kd.C_drew ?_))); (case side2 => exact HC0_0.out); rintro e w17 ⟨rfl, hb⟩; refine ⟨_, rfl, ?_⟩; have n0_ := Aside0.mk (blk_below (g := gb466) (o := .cells #[.slice A0_0 l0_0.length c0_0, .int .u32 a0_1] 25 (0, 0)) (by (with_reducible repeat (first | refine blk_drewN ?_ _ | refine blk_drew ?_ | refine blk_alloc ?_ _)); exact BK466.out) hb); have n1_ := Aside0.mk (below_step (by repeat (first | (with_reducible first | exact HB.out | apply below_alloc | apply pw_below_drewN | apply below_drew1 | refine below_set ?_ GE466.out) | exact HB.out)) hb); clear BK466; clear HB; have BK466 := n0_; have HB := n1_; clear n0_ n1_; (try clear hb); (try clear hb2); (try clear hk); (try clear hi); have hcz18_0 : w17.cell? ⟨gb466, 0, none⟩ = some (.slice A0_0 l0_0.length c0_0) := (blk_cell BK466.out 0).trans rfl; have hcz18_1 : w17.cell? ⟨gb466, 1, none⟩ = some (.int .u32 a0_1) := (blk_cell BK466.out 1).trans rfl; have hfz18_0 := blk_frozen BK466.out 0; have hfz18_1 := blk_frozen BK466.out 1) | ((with_reducible refine gate_callee (f := 16) rfl ?_); refine goesL_ (some 13) rfl rfl Try.func16 (by kernel_rfl) rfl #[.agg #[.slice A0_0 l0_0.length c0_0, .int .u32 a0_1]] rfl (by (try simp only [List.map_toArray, List.map_cons, List.map_nil]); first | done | rfl | (simp only [List.length_drop, List.length_take]; rfl)) ?_; (with_reducible refine (policy_Print.calls k _ _ l0_0 a0_1 t469 t470 _ ?side1 ?side2 A9.out).mono ?_); (case side1 => repeat (first | exact (Kd.C_below HR0_0.out HB.out) | (with_reducible refine Kd.C_alloc ?_ _) | (with_reducible refine Kd.C_drewN ?_ _) | (with_reducible refine Kd.C_drew ?_))); (case side2 => exact HC0_0.out); rintro e w19 ⟨rfl, hb⟩; refine ⟨_, rfl, ?_⟩; have n0_ := Aside0.mk (blk_below (g := gb466) (o := .cells #[.slice A0_0 l0_0.length c0_0, .int .u32 a0_1] 25 (0, 0)) (by (with_reducible repeat (first | refine blk_drewN ?_ _ | refine blk_drew ?_ | refine blk_alloc ?_ _)); exact BK466.out) hb); have n1_ := Aside0.mk (below_step (by repeat (first | (with_reducible first | exact HB.out | apply below_alloc | apply pw_below_drewN | apply below_drew1 | refine below_set ?_ GE466.out) | exact HB.out)) hb); clear BK466; clear HB; have BK466 := n0_; have HB := n1_; clear n0_ n1_; (try clear hb); (try clear hb2); (try clear hk); (try clear hi)) | ((with_reducible refine gate_callee (f := 20) rfl ?_); refine goesL_ (some 25) rfl rfl Try.func20 (by kernel_rfl) rfl #[.string t469] rfl (by (try simp only [List.map_toArray, List.map_cons, List.map_nil]); first | done | rfl | (simp only [List.length_drop, List.length_take]; rfl)) ?_; (with_reducible refine (policy_Parse.calls t469 t472 t475 t476 t477 _ A11.out).mono ?_); rintro e w20 ⟨v473, rfl, ho0, hb⟩; refine ⟨_, rfl, ?_⟩; have n0_ := Aside0.mk (Kd.S_lower ho0 (below_size (by repeat (first | (with_reducible first | exact HB.out | apply below_alloc | apply pw_below_drewN | apply below_drew1 | refine below_set ?_ GE466.out) | exact HB.out)))); have n1_ := Aside0.mk (blk_below (g := gb466) (o := .cells #[.slice A0_0 l0_0.length c0_0, .int .u32 a0_1] 25 (0, 0)) (by (with_reducible repeat (first | refine blk_drewN ?_ _ | refine blk_drew ?_ | refine blk_alloc ?_ _)); exact BK466.out) hb); have n2_ := Aside0.mk (below_step (by repeat (first | (with_reducible first | exact HB.out | apply below_alloc | apply pw_below_drewN | apply below_drew1 | refine below_set ?_ GE466.out) | exact HB.out)) hb); clear BK466; clear HB; have HO474 := n0_; have BK466 := n1_; have HB := n2_; clear n0_ n1_ n2_; (try clear hb); (try clear hb2); (try clear hk); (try clear hi); (try clear ho0)) | ((with_reducible refine gate_dst (N := 5) rfl ?_); refine box_event ?hg (N := 5) ?hd (cs := #[.slice none 0 0, .int .u32 0]) (t := 25) ?hr ?_; (case hd => rfl); (case hg => rfl); (case hr => first | (go_simp; done) | (go_simp; rfl)); intro gb478 hg w21 hbox hb; have n0_ := Aside0.mk (Kd.S_below (by (with_reducible repeat (first | apply Kd.S_alloc | apply Kd.S_drewN | apply Kd.S_drew)); exact HO474.out) hb); have n1_ := Aside0.mk (blk_below (g := gb466) (o := .cells #[.slice A0_0 l0_0.length c0_0, .int .u32 a0_1] 25 (0, 0)) (by (with_reducible repeat (first | refine blk_drewN ?_ _ | refine blk_drew ?_ | refine blk_alloc ?_ _)); exact BK466.out) hb); have n2_ := Aside0.mk (below_step (by repeat (first | (with_reducible first | exact HB.out | apply below_alloc | apply pw_below_drewN | apply below_drew1 | refine below_set ?_ GE466.out) | exact HB.out)) hb); have n3_ := Aside0.mk (hbox); have n4_ := Aside0.mk ((by rw [hg]; exact (below_size (by repeat (first | (with_reducible first | exact HB.out | apply below_alloc | apply pw_below_drewN | apply below_drew1 | refine below_set ?_ GE466.out) | exact HB.out))) : w.heap.size ≤ gb478)); have n5_ := Aside0.mk ((by rw [hg]; exact (below_size (by repeat (first | (with_reducible first | exact HB.out | apply below_alloc | apply pw_below_drewN | apply below_drew1 | refine below_set ?_ GE466.out) | exact HB.out))) : w.heap.size ≤ gb478)); have n6_ := Aside0.mk ((by rw [hg]; exact Nat.ne_of_lt (blk_lt (g := gb466) (o := .cells #[.slice A0_0 l0_0.length c0_0, .int .u32 a0_1] 25 (0, 0)) (by (with_reducible repeat (first | refine blk_drewN ?_ _ | refine blk_drew ?_ | refine blk_alloc ?_ _)); exact BK466.out)) : gb466 ≠ gb478)); have n7_ := Aside0.mk ((by rw [hg]; exact Nat.ne_of_gt (blk_lt (g := gb466) (o := .cells #[.slice A0_0 l0_0.length c0_0, .int .u32 a0_1] 25 (0, 0)) (by (with_reducible repeat (first | refine blk_drewN ?_ _ | refine blk_drew ?_ | refine blk_alloc ?_ _)); exact BK466.out)) : gb478 ≠ gb466)); clear HO474; clear BK466; clear HB; have HO474 := n0_; have BK466 := n1_; have HB := n2_; have BK478 := n3_; have GW478 := n4_; have GE478 := n5_; have NB466_478 := n6_; have NB478_466 := n7_; clear n0_ n1_ n2_ n3_ n4_ n5_ n6_ n7_; clear hb hbox hg; obtain ⟨Ao22, co22, eo22⟩ := Kd.S_slice HO474.out; subst eo22; have hnb23 := NB478_466.out; have hnc23 := NB466_478.out; have hcz24_0 : w21.cell? ⟨gb478, 0, none⟩ = some (.slice none 0 0) := (blk_cell BK478.out 0).trans rfl; have hcz24_1 : w21.cell? ⟨gb478, 1, none⟩ = some (.int .u32 0) := (blk_cell BK478.out 1).trans rfl; have hfz24_0 := blk_frozen BK478.out 0; have hfz24_1 := blk_frozen BK478.out 1) | (go_at_call 15; (with_reducible refine (hurdlelaw10_knows.calls k  t479 _ A14.out).mono ?_); rintro e w25 ⟨rfl, hb⟩; have n0_ := Aside0.mk (Kd.S_below (by (with_reducible repeat (first | apply Kd.S_alloc | apply Kd.S_drewN | apply Kd.S_drew)); exact (Kd.S_mono (Kd.S_far (p := ⟨gb478, 1, none⟩) (Kd.S_far (p := ⟨gb478, 0, none⟩) (Kd.S_types HO474.out BK478.out (by decide)) (fun _ hk => hk.2) (.slice Ao22 t472.length co22)) (fun _ hk => hk.2) (.int .u32 t475)) (fun _ h_ => h_.1))) hb); have n1_ := Aside0.mk (blk_below (g := gb466) (o := .cells #[.slice A0_0 l0_0.length c0_0, .int .u32 a0_1] 25 (0, 0)) (by (with_reducible repeat (first | refine blk_drewN ?_ _ | refine blk_drew ?_ | refine blk_alloc ?_ _)); refine blk_far ?_ NB466_478.out _; (with_reducible repeat (first | refine blk_drewN ?_ _ | refine blk_drew ?_ | refine blk_alloc ?_ _)); refine blk_far ?_ NB466_478.out _; (with_reducible repeat (first | refine blk_drewN ?_ _ | refine blk_drew ?_ | refine blk_alloc ?_ _)); exact BK466.out) hb); have n2_ := Aside0.mk (blk_below (g := gb478) (o := .cells #[.slice Ao22 t472.length co22, .int .u32 t475] 25 (0, 0)) (by (with_reducible repeat (first | refine blk_drewN ?_ _ | refine blk_drew ?_ | refine blk_alloc ?_ _)); refine blk_put (cs := #[.slice Ao22 t472.length co22, .int .u32 0]) ?_ 1 _ rfl; (with_reducible repeat (first | refine blk_drewN ?_ _ | refine blk_drew ?_ | refine blk_alloc ?_ _)); refine blk_put (cs := #[.slice none 0 0, .int .u32 0]) ?_ 0 _ rfl; (with_reducible repeat (first | refine blk_drewN ?_ _ | refine blk_drew ?_ | refine blk_alloc ?_ _)); exact BK478.out) hb); have n3_ := Aside0.mk (below_step (by repeat (first | (with_reducible first | exact HB.out | apply below_alloc | apply pw_below_drewN | apply below_drew1 | refine below_set ?_ GE466.out | refine below_set ?_ GE478.out) | exact HB.out)) hb); clear HO474; clear BK466; clear BK478; clear HB; have HO474 := n0_; have BK466 := n1_; have BK478 := n2_; have HB := n3_; clear n0_ n1_ n2_ n3_; (try clear hb); (try clear hb2); (try clear hk); (try clear hi)))
          go_ret
          exact ⟨by first | rfl | (simp [errW_none, errW_some] <;> rfl) | (simp [*, errW_none, errW_some] <;> rfl), by repeat (first | (with_reducible first | exact HB.out | apply below_alloc | apply pw_below_drewN | apply below_drew1 | refine below_set ?_ GE466.out | refine below_set ?_ GE478.out) | exact HB.out)⟩
        · rw [if_neg c13] at H
          have c13b0 : (t477 == 3) = false := beq_eq_false_iff_ne.mpr c13
          have c13b1 : (t477 != 3) = true := bne_iff_ne.mpr c13
          obtain rfl := Option.some.inj H
          go_enter Try.func5, Try.ntmps5
          go_wp2_with (first | ((with_reducible refine gate_dst (N := 1) rfl ?_); refine box_event ?hg (N := 1) ?hd (cs := #[.slice A0_0 l0_0.length c0_0, .int .u32 a0_1]) (t := 25) ?hr ?_; (case hd => rfl); (case hg => rfl); (case hr => first | (go_simp; done) | (go_simp; rfl)); intro gb466 hg w26 hbox hb; have n0_ := Aside0.mk (below_step (by repeat (first | (with_reducible first | exact HB.out | apply below_alloc | apply pw_below_drewN | apply below_drew1) | exact HB.out)) hb); have n1_ := Aside0.mk (hbox); have n2_ := Aside0.mk ((by rw [hg]; exact (below_size (by repeat (first | (with_reducible first | exact HB.out | apply below_alloc | apply pw_below_drewN | apply below_drew1) | exact HB.out))) : w.heap.size ≤ gb466)); have n3_ := Aside0.mk ((by rw [hg]; exact (below_size (by repeat (first | (with_reducible first | exact HB.out | apply below_alloc | apply pw_below_drewN | apply below_drew1) | exact HB.out))) : w.heap.size ≤ gb466)); clear HB; have HB := n0_; have BK466 := n1_; have GW466 := n2_; have GE466 := n3_; clear n0_ n1_ n2_ n3_; clear hb hbox hg; have hcz27_0 : w26.cell? ⟨gb466, 0, none⟩ = some (.slice A0_0 l0_0.length c0_0) := (blk_cell BK466.out 0).trans rfl; have hcz27_1 : w26.cell? ⟨gb466, 1, none⟩ = some (.int .u32 a0_1) := (blk_cell BK466.out 1).trans rfl; have hfz27_0 := blk_frozen BK466.out 0; have hfz27_1 := blk_frozen BK466.out 1) | ((with_reducible refine gate_callee (f := 14) rfl ?_); refine goesL_ (some 9) rfl rfl Try.func14 (by kernel_rfl) rfl #[.agg #[.slice A0_0 l0_0.length c0_0, .int .u32 a0_1]] rfl (by (try simp only [List.map_toArray, List.map_cons, List.map_nil]); first | done | rfl | (simp only [List.length_drop, List.length_take]; rfl)) ?_; (with_reducible refine (hurdlelaw10_Great.calls k _ _ l0_0 a0_1 false _ ?side1 ?side2 A2.out).mono ?_); (case side1 => repeat (first | exact (Kd.C_below HR0_0.out HB.out) | (with_reducible refine Kd.C_alloc ?_ _) | (with_reducible refine Kd.C_drewN ?_ _) | (with_reducible refine Kd.C_drew ?_))); (case side2 => exact HC0_0.out); rintro e w28 ⟨rfl, hb⟩; refine ⟨_, rfl, ?_⟩; have n0_ := Aside0.mk (blk_below (g := gb466) (o := .cells #[.slice A0_0 l0_0.length c0_0, .int .u32 a0_1] 25 (0, 0)) (by (with_reducible repeat (first | refine blk_drewN ?_ _ | refine blk_drew ?_ | refine blk_alloc ?_ _)); exact BK466.out) hb); have n1_ := Aside0.mk (below_step (by repeat (first | (with_reducible first | exact HB.out | apply below_alloc | apply pw_below_drewN | apply below_drew1 | refine below_set ?_ GE466.out) | exact HB.out)) hb); clear BK466; clear HB; have BK466 := n0_; have HB := n1_; clear n0_ n1_; (try clear hb); (try clear hb2); (try clear hk); (try clear hi); have hcz29_0 : w28.cell? ⟨gb466, 0, none⟩ = some (.slice A0_0 l0_0.length c0_0) := (blk_cell BK466.out 0).trans rfl; have hcz29_1 : w28.cell? ⟨gb466, 1, none⟩ = some (.int .u32 a0_1) := (blk_cell BK466.out 1).trans rfl; have hfz29_0 := blk_frozen BK466.out 0; have hfz29_1 := blk_frozen BK466.out 1) | ((with_reducible refine gate_callee (f := 16) rfl ?_); refine goesL_ (some 13) rfl rfl Try.func16 (by kernel_rfl) rfl #[.agg #[.slice A0_0 l0_0.length c0_0, .int .u32 a0_1]] rfl (by (try simp only [List.map_toArray, List.map_cons, List.map_nil]); first | done | rfl | (simp only [List.length_drop, List.length_take]; rfl)) ?_; (with_reducible refine (policy_Print.calls k _ _ l0_0 a0_1 t469 t470 _ ?side1 ?side2 A9.out).mono ?_); (case side1 => repeat (first | exact (Kd.C_below HR0_0.out HB.out) | (with_reducible refine Kd.C_alloc ?_ _) | (with_reducible refine Kd.C_drewN ?_ _) | (with_reducible refine Kd.C_drew ?_))); (case side2 => exact HC0_0.out); rintro e w30 ⟨rfl, hb⟩; refine ⟨_, rfl, ?_⟩; have n0_ := Aside0.mk (blk_below (g := gb466) (o := .cells #[.slice A0_0 l0_0.length c0_0, .int .u32 a0_1] 25 (0, 0)) (by (with_reducible repeat (first | refine blk_drewN ?_ _ | refine blk_drew ?_ | refine blk_alloc ?_ _)); exact BK466.out) hb); have n1_ := Aside0.mk (below_step (by repeat (first | (with_reducible first | exact HB.out | apply below_alloc | apply pw_below_drewN | apply below_drew1 | refine below_set ?_ GE466.out) | exact HB.out)) hb); clear BK466; clear HB; have BK466 := n0_; have HB := n1_; clear n0_ n1_; (try clear hb); (try clear hb2); (try clear hk); (try clear hi)) | ((with_reducible refine gate_callee (f := 20) rfl ?_); refine goesL_ (some 25) rfl rfl Try.func20 (by kernel_rfl) rfl #[.string t469] rfl (by (try simp only [List.map_toArray, List.map_cons, List.map_nil]); first | done | rfl | (simp only [List.length_drop, List.length_take]; rfl)) ?_; (with_reducible refine (policy_Parse.calls t469 t472 t475 t476 t477 _ A11.out).mono ?_); rintro e w31 ⟨v473, rfl, ho0, hb⟩; refine ⟨_, rfl, ?_⟩; have n0_ := Aside0.mk (Kd.S_lower ho0 (below_size (by repeat (first | (with_reducible first | exact HB.out | apply below_alloc | apply pw_below_drewN | apply below_drew1 | refine below_set ?_ GE466.out) | exact HB.out)))); have n1_ := Aside0.mk (blk_below (g := gb466) (o := .cells #[.slice A0_0 l0_0.length c0_0, .int .u32 a0_1] 25 (0, 0)) (by (with_reducible repeat (first | refine blk_drewN ?_ _ | refine blk_drew ?_ | refine blk_alloc ?_ _)); exact BK466.out) hb); have n2_ := Aside0.mk (below_step (by repeat (first | (with_reducible first | exact HB.out | apply below_alloc | apply pw_below_drewN | apply below_drew1 | refine below_set ?_ GE466.out) | exact HB.out)) hb); clear BK466; clear HB; have HO474 := n0_; have BK466 := n1_; have HB := n2_; clear n0_ n1_ n2_; (try clear hb); (try clear hb2); (try clear hk); (try clear hi); (try clear ho0)) | ((with_reducible refine gate_dst (N := 5) rfl ?_); refine box_event ?hg (N := 5) ?hd (cs := #[.slice none 0 0, .int .u32 0]) (t := 25) ?hr ?_; (case hd => rfl); (case hg => rfl); (case hr => first | (go_simp; done) | (go_simp; rfl)); intro gb478 hg w32 hbox hb; have n0_ := Aside0.mk (Kd.S_below (by (with_reducible repeat (first | apply Kd.S_alloc | apply Kd.S_drewN | apply Kd.S_drew)); exact HO474.out) hb); have n1_ := Aside0.mk (blk_below (g := gb466) (o := .cells #[.slice A0_0 l0_0.length c0_0, .int .u32 a0_1] 25 (0, 0)) (by (with_reducible repeat (first | refine blk_drewN ?_ _ | refine blk_drew ?_ | refine blk_alloc ?_ _)); exact BK466.out) hb); have n2_ := Aside0.mk (below_step (by repeat (first | (with_reducible first | exact HB.out | apply below_alloc | apply pw_below_drewN | apply below_drew1 | refine below_set ?_ GE466.out) | exact HB.out)) hb); have n3_ := Aside0.mk (hbox); have n4_ := Aside0.mk ((by rw [hg]; exact (below_size (by repeat (first | (with_reducible first | exact HB.out | apply below_alloc | apply pw_below_drewN | apply below_drew1 | refine below_set ?_ GE466.out) | exact HB.out))) : w.heap.size ≤ gb478)); have n5_ := Aside0.mk ((by rw [hg]; exact (below_size (by repeat (first | (with_reducible first | exact HB.out | apply below_alloc | apply pw_below_drewN | apply below_drew1 | refine below_set ?_ GE466.out) | exact HB.out))) : w.heap.size ≤ gb478)); have n6_ := Aside0.mk ((by rw [hg]; exact Nat.ne_of_lt (blk_lt (g := gb466) (o := .cells #[.slice A0_0 l0_0.length c0_0, .int .u32 a0_1] 25 (0, 0)) (by (with_reducible repeat (first | refine blk_drewN ?_ _ | refine blk_drew ?_ | refine blk_alloc ?_ _)); exact BK466.out)) : gb466 ≠ gb478)); have n7_ := Aside0.mk ((by rw [hg]; exact Nat.ne_of_gt (blk_lt (g := gb466) (o := .cells #[.slice A0_0 l0_0.length c0_0, .int .u32 a0_1] 25 (0, 0)) (by (with_reducible repeat (first | refine blk_drewN ?_ _ | refine blk_drew ?_ | refine blk_alloc ?_ _)); exact BK466.out)) : gb478 ≠ gb466)); clear HO474; clear BK466; clear HB; have HO474 := n0_; have BK466 := n1_; have HB := n2_; have BK478 := n3_; have GW478 := n4_; have GE478 := n5_; have NB466_478 := n6_; have NB478_466 := n7_; clear n0_ n1_ n2_ n3_ n4_ n5_ n6_ n7_; clear hb hbox hg; obtain ⟨Ao33, co33, eo33⟩ := Kd.S_slice HO474.out; subst eo33; have hnb34 := NB478_466.out; have hnc34 := NB466_478.out; have hcz35_0 : w32.cell? ⟨gb478, 0, none⟩ = some (.slice none 0 0) := (blk_cell BK478.out 0).trans rfl; have hcz35_1 : w32.cell? ⟨gb478, 1, none⟩ = some (.int .u32 0) := (blk_cell BK478.out 1).trans rfl; have hfz35_0 := blk_frozen BK478.out 0; have hfz35_1 := blk_frozen BK478.out 1))
          go_ret
          exact ⟨by first | rfl | (simp [errW_none, errW_some] <;> rfl) | (simp [*, errW_none, errW_some] <;> rfl), by repeat (first | (with_reducible first | exact HB.out | apply below_alloc | apply pw_below_drewN | apply below_drew1 | refine below_set ?_ GE466.out | refine below_set ?_ GE478.out) | exact HB.out)⟩
      · rw [if_neg c12] at H
        have c12b0 : decide (20000 < (t469.size : Int)) = false := decide_eq_false c12
        have c12b1 : decide (20000 < t469.size) = false := decide_eq_false (by omega)
        clear c12
        replace H := Option.bind_eq_some_iff.mp H
        obtain ⟨t480, A360, H⟩ := H
        replace H : (if t480 = true then (if t477 = 0 then ((hurdlelaw10_knows.f k).bind fun t481 => (some t481)) else (some false)) else (some false)) = some r := H
        have A36 := Aside0.mk A360
        clear A360
        by_cases c37 : t480 = true
        · subst c37
          have H1 : (if t477 = 0 then ((hurdlelaw10_knows.f k).bind fun t481 => (some t481)) else (some false)) = some r := by rw [if_pos rfl] at H; exact H
          clear H
          have H := H1
          clear H1
          by_cases c38 : t477 = 0
          · rw [if_pos c38] at H
            have c38b0 : (t477 == 0) = true := beq_iff_eq.mpr c38
            have c38b1 : (t477 != 0) = false := bne_eq_false_iff_eq.mpr c38
            clear c38
            replace H := Option.bind_eq_some_iff.mp H
            obtain ⟨t481, A390, H⟩ := H
            replace H : (some t481) = some r := H
            have A39 := Aside0.mk A390
            clear A390
            obtain rfl := Option.some.inj H
            go_enter Try.func5, Try.ntmps5
            go_wp2_with (first | ((with_reducible refine gate_dst (N := 1) rfl ?_); refine box_event ?hg (N := 1) ?hd (cs := #[.slice A0_0 l0_0.length c0_0, .int .u32 a0_1]) (t := 25) ?hr ?_; (case hd => rfl); (case hg => rfl); (case hr => first | (go_simp; done) | (go_simp; rfl)); intro gb466 hg w40 hbox hb; have n0_ := Aside0.mk (below_step (by repeat (first | (with_reducible first | exact HB.out | apply below_alloc | apply pw_below_drewN | apply below_drew1) | exact HB.out)) hb); have n1_ := Aside0.mk (hbox); have n2_ := Aside0.mk ((by rw [hg]; exact (below_size (by repeat (first | (with_reducible first | exact HB.out | apply below_alloc | apply pw_below_drewN | apply below_drew1) | exact HB.out))) : w.heap.size ≤ gb466)); have n3_ := Aside0.mk ((by rw [hg]; exact (below_size (by repeat (first | (with_reducible first | exact HB.out | apply below_alloc | apply pw_below_drewN | apply below_drew1) | exact HB.out))) : w.heap.size ≤ gb466)); clear HB; have HB := n0_; have BK466 := n1_; have GW466 := n2_; have GE466 := n3_; clear n0_ n1_ n2_ n3_; clear hb hbox hg; have hcz41_0 : w40.cell? ⟨gb466, 0, none⟩ = some (.slice A0_0 l0_0.length c0_0) := (blk_cell BK466.out 0).trans rfl; have hcz41_1 : w40.cell? ⟨gb466, 1, none⟩ = some (.int .u32 a0_1) := (blk_cell BK466.out 1).trans rfl; have hfz41_0 := blk_frozen BK466.out 0; have hfz41_1 := blk_frozen BK466.out 1) | ((with_reducible refine gate_callee (f := 14) rfl ?_); refine goesL_ (some 9) rfl rfl Try.func14 (by kernel_rfl) rfl #[.agg #[.slice A0_0 l0_0.length c0_0, .int .u32 a0_1]] rfl (by (try simp only [List.map_toArray, List.map_cons, List.map_nil]); first | done | rfl | (simp only [List.length_drop, List.length_take]; rfl)) ?_; (with_reducible refine (hurdlelaw10_Great.calls k _ _ l0_0 a0_1 false _ ?side1 ?side2 A2.out).mono ?_); (case side1 => repeat (first | exact (Kd.C_below HR0_0.out HB.out) | (with_reducible refine Kd.C_alloc ?_ _) | (with_reducible refine Kd.C_drewN ?_ _) | (with_reducible refine Kd.C_drew ?_))); (case side2 => exact HC0_0.out); rintro e w42 ⟨rfl, hb⟩; refine ⟨_, rfl, ?_⟩; have n0_ := Aside0.mk (blk_below (g := gb466) (o := .cells #[.slice A0_0 l0_0.length c0_0, .int .u32 a0_1] 25 (0, 0)) (by (with_reducible repeat (first | refine blk_drewN ?_ _ | refine blk_drew ?_ | refine blk_alloc ?_ _)); exact BK466.out) hb); have n1_ := Aside0.mk (below_step (by repeat (first | (with_reducible first | exact HB.out | apply below_alloc | apply pw_below_drewN | apply below_drew1 | refine below_set ?_ GE466.out) | exact HB.out)) hb); clear BK466; clear HB; have BK466 := n0_; have HB := n1_; clear n0_ n1_; (try clear hb); (try clear hb2); (try clear hk); (try clear hi); have hcz43_0 : w42.cell? ⟨gb466, 0, none⟩ = some (.slice A0_0 l0_0.length c0_0) := (blk_cell BK466.out 0).trans rfl; have hcz43_1 : w42.cell? ⟨gb466, 1, none⟩ = some (.int .u32 a0_1) := (blk_cell BK466.out 1).trans rfl; have hfz43_0 := blk_frozen BK466.out 0; have hfz43_1 := blk_frozen BK466.out 1) | ((with_reducible refine gate_callee (f := 16) rfl ?_); refine goesL_ (some 13) rfl rfl Try.func16 (by kernel_rfl) rfl #[.agg #[.slice A0_0 l0_0.length c0_0, .int .u32 a0_1]] rfl (by (try simp only [List.map_toArray, List.map_cons, List.map_nil]); first | done | rfl | (simp only [List.length_drop, List.length_take]; rfl)) ?_; (with_reducible refine (policy_Print.calls k _ _ l0_0 a0_1 t469 t470 _ ?side1 ?side2 A9.out).mono ?_); (case side1 => repeat (first | exact (Kd.C_below HR0_0.out HB.out) | (with_reducible refine Kd.C_alloc ?_ _) | (with_reducible refine Kd.C_drewN ?_ _) | (with_reducible refine Kd.C_drew ?_))); (case side2 => exact HC0_0.out); rintro e w44 ⟨rfl, hb⟩; refine ⟨_, rfl, ?_⟩; have n0_ := Aside0.mk (blk_below (g := gb466) (o := .cells #[.slice A0_0 l0_0.length c0_0, .int .u32 a0_1] 25 (0, 0)) (by (with_reducible repeat (first | refine blk_drewN ?_ _ | refine blk_drew ?_ | refine blk_alloc ?_ _)); exact BK466.out) hb); have n1_ := Aside0.mk (below_step (by repeat (first | (with_reducible first | exact HB.out | apply below_alloc | apply pw_below_drewN | apply below_drew1 | refine below_set ?_ GE466.out) | exact HB.out)) hb); clear BK466; clear HB; have BK466 := n0_; have HB := n1_; clear n0_ n1_; (try clear hb); (try clear hb2); (try clear hk); (try clear hi)) | ((with_reducible refine gate_callee (f := 20) rfl ?_); refine goesL_ (some 25) rfl rfl Try.func20 (by kernel_rfl) rfl #[.string t469] rfl (by (try simp only [List.map_toArray, List.map_cons, List.map_nil]); first | done | rfl | (simp only [List.length_drop, List.length_take]; rfl)) ?_; (with_reducible refine (policy_Parse.calls t469 t472 t475 t476 t477 _ A11.out).mono ?_); rintro e w45 ⟨v473, rfl, ho0, hb⟩; refine ⟨_, rfl, ?_⟩; have n0_ := Aside0.mk (Kd.S_lower ho0 (below_size (by repeat (first | (with_reducible first | exact HB.out | apply below_alloc | apply pw_below_drewN | apply below_drew1 | refine below_set ?_ GE466.out) | exact HB.out)))); have n1_ := Aside0.mk (blk_below (g := gb466) (o := .cells #[.slice A0_0 l0_0.length c0_0, .int .u32 a0_1] 25 (0, 0)) (by (with_reducible repeat (first | refine blk_drewN ?_ _ | refine blk_drew ?_ | refine blk_alloc ?_ _)); exact BK466.out) hb); have n2_ := Aside0.mk (below_step (by repeat (first | (with_reducible first | exact HB.out | apply below_alloc | apply pw_below_drewN | apply below_drew1 | refine below_set ?_ GE466.out) | exact HB.out)) hb); clear BK466; clear HB; have HO474 := n0_; have BK466 := n1_; have HB := n2_; clear n0_ n1_ n2_; (try clear hb); (try clear hb2); (try clear hk); (try clear hi); (try clear ho0)) | ((with_reducible refine gate_dst (N := 5) rfl ?_); refine box_event ?hg (N := 5) ?hd (cs := #[.slice none 0 0, .int .u32 0]) (t := 25) ?hr ?_; (case hd => rfl); (case hg => rfl); (case hr => first | (go_simp; done) | (go_simp; rfl)); intro gb478 hg w46 hbox hb; have n0_ := Aside0.mk (Kd.S_below (by (with_reducible repeat (first | apply Kd.S_alloc | apply Kd.S_drewN | apply Kd.S_drew)); exact HO474.out) hb); have n1_ := Aside0.mk (blk_below (g := gb466) (o := .cells #[.slice A0_0 l0_0.length c0_0, .int .u32 a0_1] 25 (0, 0)) (by (with_reducible repeat (first | refine blk_drewN ?_ _ | refine blk_drew ?_ | refine blk_alloc ?_ _)); exact BK466.out) hb); have n2_ := Aside0.mk (below_step (by repeat (first | (with_reducible first | exact HB.out | apply below_alloc | apply pw_below_drewN | apply below_drew1 | refine below_set ?_ GE466.out) | exact HB.out)) hb); have n3_ := Aside0.mk (hbox); have n4_ := Aside0.mk ((by rw [hg]; exact (below_size (by repeat (first | (with_reducible first | exact HB.out | apply below_alloc | apply pw_below_drewN | apply below_drew1 | refine below_set ?_ GE466.out) | exact HB.out))) : w.heap.size ≤ gb478)); have n5_ := Aside0.mk ((by rw [hg]; exact (below_size (by repeat (first | (with_reducible first | exact HB.out | apply below_alloc | apply pw_below_drewN | apply below_drew1 | refine below_set ?_ GE466.out) | exact HB.out))) : w.heap.size ≤ gb478)); have n6_ := Aside0.mk ((by rw [hg]; exact Nat.ne_of_lt (blk_lt (g := gb466) (o := .cells #[.slice A0_0 l0_0.length c0_0, .int .u32 a0_1] 25 (0, 0)) (by (with_reducible repeat (first | refine blk_drewN ?_ _ | refine blk_drew ?_ | refine blk_alloc ?_ _)); exact BK466.out)) : gb466 ≠ gb478)); have n7_ := Aside0.mk ((by rw [hg]; exact Nat.ne_of_gt (blk_lt (g := gb466) (o := .cells #[.slice A0_0 l0_0.length c0_0, .int .u32 a0_1] 25 (0, 0)) (by (with_reducible repeat (first | refine blk_drewN ?_ _ | refine blk_drew ?_ | refine blk_alloc ?_ _)); exact BK466.out)) : gb478 ≠ gb466)); clear HO474; clear BK466; clear HB; have HO474 := n0_; have BK466 := n1_; have HB := n2_; have BK478 := n3_; have GW478 := n4_; have GE478 := n5_; have NB466_478 := n6_; have NB478_466 := n7_; clear n0_ n1_ n2_ n3_ n4_ n5_ n6_ n7_; clear hb hbox hg; obtain ⟨Ao47, co47, eo47⟩ := Kd.S_slice HO474.out; subst eo47; have hnb48 := NB478_466.out; have hnc48 := NB466_478.out; have hcz49_0 : w46.cell? ⟨gb478, 0, none⟩ = some (.slice none 0 0) := (blk_cell BK478.out 0).trans rfl; have hcz49_1 : w46.cell? ⟨gb478, 1, none⟩ = some (.int .u32 0) := (blk_cell BK478.out 1).trans rfl; have hfz49_0 := blk_frozen BK478.out 0; have hfz49_1 := blk_frozen BK478.out 1; have hcz50_0 : w46.cell? ⟨gb466, 0, none⟩ = some (.slice A0_0 l0_0.length c0_0) := (blk_cell BK466.out 0).trans rfl; have hcz50_1 : w46.cell? ⟨gb466, 1, none⟩ = some (.int .u32 a0_1) := (blk_cell BK466.out 1).trans rfl; have hfz50_0 := blk_frozen BK466.out 0; have hfz50_1 := blk_frozen BK466.out 1) | ((with_reducible refine gate_callee (f := 22) rfl ?_); refine goesL_ (some 39) rfl rfl Try.func22 (by kernel_rfl) rfl #[.agg #[.slice A0_0 l0_0.length c0_0, .int .u32 a0_1], .agg #[.slice Ao47 t472.length co47, .int .u32 t475]] rfl (by (try simp only [List.map_toArray, List.map_cons, List.map_nil]); first | done | rfl | (simp only [List.length_drop, List.length_take]; rfl)) ?_; (with_reducible refine (hurdleref10_Same.calls k _ _ l0_0 a0_1 _ _ t472 t475 true _ ?side1 ?side2 ?side3 ?side4 A36.out).mono ?_); (case side1 => exact Kd.C_below HR0_0.out (by repeat (first | (with_reducible first | exact HB.out | apply below_alloc | apply pw_below_drewN | apply below_drew1 | refine below_set ?_ GE466.out | refine below_set ?_ GE478.out) | exact HB.out))); (case side2 => exact HC0_0.out); (case side3 => refine (Kd.S_reads' (e := 40) (base := w.heap.size) (ok := fun k_ => True) (n := t472.length) (c := co47) ?_).2.2; exact (by (with_reducible repeat (first | apply Kd.S_alloc | apply Kd.S_drewN | apply Kd.S_drew)); exact (Kd.S_mono (Kd.S_far (p := ⟨gb478, 1, none⟩) (Kd.S_far (p := ⟨gb478, 0, none⟩) (Kd.S_types HO474.out BK478.out (by decide)) (fun _ hk => hk.2) (.slice Ao47 t472.length co47)) (fun _ hk => hk.2) (.int .u32 t475)) (fun _ h_ => h_.1)))); (case side4 => exact (Kd.S_reads' HO474.out).2.1); rintro e w51 ⟨rfl, hb⟩; refine ⟨_, rfl, ?_⟩; have n0_ := Aside0.mk (Kd.S_below (by (with_reducible repeat (first | apply Kd.S_alloc | apply Kd.S_drewN | apply Kd.S_drew)); exact (Kd.S_mono (Kd.S_far (p := ⟨gb478, 1, none⟩) (Kd.S_far (p := ⟨gb478, 0, none⟩) (Kd.S_types HO474.out BK478.out (by decide)) (fun _ hk => hk.2) (.slice Ao47 t472.length co47)) (fun _ hk => hk.2) (.int .u32 t475)) (fun _ h_ => h_.1))) hb); have n1_ := Aside0.mk (blk_below (g := gb466) (o := .cells #[.slice A0_0 l0_0.length c0_0, .int .u32 a0_1] 25 (0, 0)) (by (with_reducible repeat (first | refine blk_drewN ?_ _ | refine blk_drew ?_ | refine blk_alloc ?_ _)); refine blk_far ?_ NB466_478.out _; (with_reducible repeat (first | refine blk_drewN ?_ _ | refine blk_drew ?_ | refine blk_alloc ?_ _)); refine blk_far ?_ NB466_478.out _; (with_reducible repeat (first | refine blk_drewN ?_ _ | refine blk_drew ?_ | refine blk_alloc ?_ _)); exact BK466.out) hb); have n2_ := Aside0.mk (blk_below (g := gb478) (o := .cells #[.slice Ao47 t472.length co47, .int .u32 t475] 25 (0, 0)) (by (with_reducible repeat (first | refine blk_drewN ?_ _ | refine blk_drew ?_ | refine blk_alloc ?_ _)); refine blk_put (cs := #[.slice Ao47 t472.length co47, .int .u32 0]) ?_ 1 _ rfl; (with_reducible repeat (first | refine blk_drewN ?_ _ | refine blk_drew ?_ | refine blk_alloc ?_ _)); refine blk_put (cs := #[.slice none 0 0, .int .u32 0]) ?_ 0 _ rfl; (with_reducible repeat (first | refine blk_drewN ?_ _ | refine blk_drew ?_ | refine blk_alloc ?_ _)); exact BK478.out) hb); have n3_ := Aside0.mk (below_step (by repeat (first | (with_reducible first | exact HB.out | apply below_alloc | apply pw_below_drewN | apply below_drew1 | refine below_set ?_ GE466.out | refine below_set ?_ GE478.out) | exact HB.out)) hb); clear HO474; clear BK466; clear BK478; clear HB; have HO474 := n0_; have BK466 := n1_; have BK478 := n2_; have HB := n3_; clear n0_ n1_ n2_ n3_; (try clear hb); (try clear hb2); (try clear hk); (try clear hi)) | (go_at_call 15; (with_reducible refine (hurdlelaw10_knows.calls k  t481 _ A39.out).mono ?_); rintro e w52 ⟨rfl, hb⟩; have n0_ := Aside0.mk (Kd.S_below (by (with_reducible repeat (first | apply Kd.S_alloc | apply Kd.S_drewN | apply Kd.S_drew)); exact HO474.out) hb); have n1_ := Aside0.mk (blk_below (g := gb466) (o := .cells #[.slice A0_0 l0_0.length c0_0, .int .u32 a0_1] 25 (0, 0)) (by (with_reducible repeat (first | refine blk_drewN ?_ _ | refine blk_drew ?_ | refine blk_alloc ?_ _)); exact BK466.out) hb); have n2_ := Aside0.mk (blk_below (g := gb478) (o := .cells #[.slice Ao47 t472.length co47, .int .u32 t475] 25 (0, 0)) (by (with_reducible repeat (first | refine blk_drewN ?_ _ | refine blk_drew ?_ | refine blk_alloc ?_ _)); exact BK478.out) hb); have n3_ := Aside0.mk (below_step (by repeat (first | (with_reducible first | exact HB.out | apply below_alloc | apply pw_below_drewN | apply below_drew1 | refine below_set ?_ GE466.out | refine below_set ?_ GE478.out) | exact HB.out)) hb); clear HO474; clear BK466; clear BK478; clear HB; have HO474 := n0_; have BK466 := n1_; have BK478 := n2_; have HB := n3_; clear n0_ n1_ n2_ n3_; (try clear hb); (try clear hb2); (try clear hk); (try clear hi)))
            go_ret
            exact ⟨by first | rfl | (simp [errW_none, errW_some] <;> rfl) | (simp [*, errW_none, errW_some] <;> rfl), by repeat (first | (with_reducible first | exact HB.out | apply below_alloc | apply pw_below_drewN | apply below_drew1 | refine below_set ?_ GE466.out | refine below_set ?_ GE478.out) | exact HB.out)⟩
          · rw [if_neg c38] at H
            have c38b0 : (t477 == 0) = false := beq_eq_false_iff_ne.mpr c38
            have c38b1 : (t477 != 0) = true := bne_iff_ne.mpr c38
            obtain rfl := Option.some.inj H
            go_enter Try.func5, Try.ntmps5
            go_wp2_with (first | ((with_reducible refine gate_dst (N := 1) rfl ?_); refine box_event ?hg (N := 1) ?hd (cs := #[.slice A0_0 l0_0.length c0_0, .int .u32 a0_1]) (t := 25) ?hr ?_; (case hd => rfl); (case hg => rfl); (case hr => first | (go_simp; done) | (go_simp; rfl)); intro gb466 hg w53 hbox hb; have n0_ := Aside0.mk (below_step (by repeat (first | (with_reducible first | exact HB.out | apply below_alloc | apply pw_below_drewN | apply below_drew1) | exact HB.out)) hb); have n1_ := Aside0.mk (hbox); have n2_ := Aside0.mk ((by rw [hg]; exact (below_size (by repeat (first | (with_reducible first | exact HB.out | apply below_alloc | apply pw_below_drewN | apply below_drew1) | exact HB.out))) : w.heap.size ≤ gb466)); have n3_ := Aside0.mk ((by rw [hg]; exact (below_size (by repeat (first | (with_reducible first | exact HB.out | apply below_alloc | apply pw_below_drewN | apply below_drew1) | exact HB.out))) : w.heap.size ≤ gb466)); clear HB; have HB := n0_; have BK466 := n1_; have GW466 := n2_; have GE466 := n3_; clear n0_ n1_ n2_ n3_; clear hb hbox hg; have hcz54_0 : w53.cell? ⟨gb466, 0, none⟩ = some (.slice A0_0 l0_0.length c0_0) := (blk_cell BK466.out 0).trans rfl; have hcz54_1 : w53.cell? ⟨gb466, 1, none⟩ = some (.int .u32 a0_1) := (blk_cell BK466.out 1).trans rfl; have hfz54_0 := blk_frozen BK466.out 0; have hfz54_1 := blk_frozen BK466.out 1) | ((with_reducible refine gate_callee (f := 14) rfl ?_); refine goesL_ (some 9) rfl rfl Try.func14 (by kernel_rfl) rfl #[.agg #[.slice A0_0 l0_0.length c0_0, .int .u32 a0_1]] rfl (by (try simp only [List.map_toArray, List.map_cons, List.map_nil]); first | done | rfl | (simp only [List.length_drop, List.length_take]; rfl)) ?_; (with_reducible refine (hurdlelaw10_Great.calls k _ _ l0_0 a0_1 false _ ?side1 ?side2 A2.out).mono ?_); (case side1 => repeat (first | exact (Kd.C_below HR0_0.out HB.out) | (with_reducible refine Kd.C_alloc ?_ _) | (with_reducible refine Kd.C_drewN ?_ _) | (with_reducible refine Kd.C_drew ?_))); (case side2 => exact HC0_0.out); rintro e w55 ⟨rfl, hb⟩; refine ⟨_, rfl, ?_⟩; have n0_ := Aside0.mk (blk_below (g := gb466) (o := .cells #[.slice A0_0 l0_0.length c0_0, .int .u32 a0_1] 25 (0, 0)) (by (with_reducible repeat (first | refine blk_drewN ?_ _ | refine blk_drew ?_ | refine blk_alloc ?_ _)); exact BK466.out) hb); have n1_ := Aside0.mk (below_step (by repeat (first | (with_reducible first | exact HB.out | apply below_alloc | apply pw_below_drewN | apply below_drew1 | refine below_set ?_ GE466.out) | exact HB.out)) hb); clear BK466; clear HB; have BK466 := n0_; have HB := n1_; clear n0_ n1_; (try clear hb); (try clear hb2); (try clear hk); (try clear hi); have hcz56_0 : w55.cell? ⟨gb466, 0, none⟩ = some (.slice A0_0 l0_0.length c0_0) := (blk_cell BK466.out 0).trans rfl; have hcz56_1 : w55.cell? ⟨gb466, 1, none⟩ = some (.int .u32 a0_1) := (blk_cell BK466.out 1).trans rfl; have hfz56_0 := blk_frozen BK466.out 0; have hfz56_1 := blk_frozen BK466.out 1) | ((with_reducible refine gate_callee (f := 16) rfl ?_); refine goesL_ (some 13) rfl rfl Try.func16 (by kernel_rfl) rfl #[.agg #[.slice A0_0 l0_0.length c0_0, .int .u32 a0_1]] rfl (by (try simp only [List.map_toArray, List.map_cons, List.map_nil]); first | done | rfl | (simp only [List.length_drop, List.length_take]; rfl)) ?_; (with_reducible refine (policy_Print.calls k _ _ l0_0 a0_1 t469 t470 _ ?side1 ?side2 A9.out).mono ?_); (case side1 => repeat (first | exact (Kd.C_below HR0_0.out HB.out) | (with_reducible refine Kd.C_alloc ?_ _) | (with_reducible refine Kd.C_drewN ?_ _) | (with_reducible refine Kd.C_drew ?_))); (case side2 => exact HC0_0.out); rintro e w57 ⟨rfl, hb⟩; refine ⟨_, rfl, ?_⟩; have n0_ := Aside0.mk (blk_below (g := gb466) (o := .cells #[.slice A0_0 l0_0.length c0_0, .int .u32 a0_1] 25 (0, 0)) (by (with_reducible repeat (first | refine blk_drewN ?_ _ | refine blk_drew ?_ | refine blk_alloc ?_ _)); exact BK466.out) hb); have n1_ := Aside0.mk (below_step (by repeat (first | (with_reducible first | exact HB.out | apply below_alloc | apply pw_below_drewN | apply below_drew1 | refine below_set ?_ GE466.out) | exact HB.out)) hb); clear BK466; clear HB; have BK466 := n0_; have HB := n1_; clear n0_ n1_; (try clear hb); (try clear hb2); (try clear hk); (try clear hi)) | ((with_reducible refine gate_callee (f := 20) rfl ?_); refine goesL_ (some 25) rfl rfl Try.func20 (by kernel_rfl) rfl #[.string t469] rfl (by (try simp only [List.map_toArray, List.map_cons, List.map_nil]); first | done | rfl | (simp only [List.length_drop, List.length_take]; rfl)) ?_; (with_reducible refine (policy_Parse.calls t469 t472 t475 t476 t477 _ A11.out).mono ?_); rintro e w58 ⟨v473, rfl, ho0, hb⟩; refine ⟨_, rfl, ?_⟩; have n0_ := Aside0.mk (Kd.S_lower ho0 (below_size (by repeat (first | (with_reducible first | exact HB.out | apply below_alloc | apply pw_below_drewN | apply below_drew1 | refine below_set ?_ GE466.out) | exact HB.out)))); have n1_ := Aside0.mk (blk_below (g := gb466) (o := .cells #[.slice A0_0 l0_0.length c0_0, .int .u32 a0_1] 25 (0, 0)) (by (with_reducible repeat (first | refine blk_drewN ?_ _ | refine blk_drew ?_ | refine blk_alloc ?_ _)); exact BK466.out) hb); have n2_ := Aside0.mk (below_step (by repeat (first | (with_reducible first | exact HB.out | apply below_alloc | apply pw_below_drewN | apply below_drew1 | refine below_set ?_ GE466.out) | exact HB.out)) hb); clear BK466; clear HB; have HO474 := n0_; have BK466 := n1_; have HB := n2_; clear n0_ n1_ n2_; (try clear hb); (try clear hb2); (try clear hk); (try clear hi); (try clear ho0)) | ((with_reducible refine gate_dst (N := 5) rfl ?_); refine box_event ?hg (N := 5) ?hd (cs := #[.slice none 0 0, .int .u32 0]) (t := 25) ?hr ?_; (case hd => rfl); (case hg => rfl); (case hr => first | (go_simp; done) | (go_simp; rfl)); intro gb478 hg w59 hbox hb; have n0_ := Aside0.mk (Kd.S_below (by (with_reducible repeat (first | apply Kd.S_alloc | apply Kd.S_drewN | apply Kd.S_drew)); exact HO474.out) hb); have n1_ := Aside0.mk (blk_below (g := gb466) (o := .cells #[.slice A0_0 l0_0.length c0_0, .int .u32 a0_1] 25 (0, 0)) (by (with_reducible repeat (first | refine blk_drewN ?_ _ | refine blk_drew ?_ | refine blk_alloc ?_ _)); exact BK466.out) hb); have n2_ := Aside0.mk (below_step (by repeat (first | (with_reducible first | exact HB.out | apply below_alloc | apply pw_below_drewN | apply below_drew1 | refine below_set ?_ GE466.out) | exact HB.out)) hb); have n3_ := Aside0.mk (hbox); have n4_ := Aside0.mk ((by rw [hg]; exact (below_size (by repeat (first | (with_reducible first | exact HB.out | apply below_alloc | apply pw_below_drewN | apply below_drew1 | refine below_set ?_ GE466.out) | exact HB.out))) : w.heap.size ≤ gb478)); have n5_ := Aside0.mk ((by rw [hg]; exact (below_size (by repeat (first | (with_reducible first | exact HB.out | apply below_alloc | apply pw_below_drewN | apply below_drew1 | refine below_set ?_ GE466.out) | exact HB.out))) : w.heap.size ≤ gb478)); have n6_ := Aside0.mk ((by rw [hg]; exact Nat.ne_of_lt (blk_lt (g := gb466) (o := .cells #[.slice A0_0 l0_0.length c0_0, .int .u32 a0_1] 25 (0, 0)) (by (with_reducible repeat (first | refine blk_drewN ?_ _ | refine blk_drew ?_ | refine blk_alloc ?_ _)); exact BK466.out)) : gb466 ≠ gb478)); have n7_ := Aside0.mk ((by rw [hg]; exact Nat.ne_of_gt (blk_lt (g := gb466) (o := .cells #[.slice A0_0 l0_0.length c0_0, .int .u32 a0_1] 25 (0, 0)) (by (with_reducible repeat (first | refine blk_drewN ?_ _ | refine blk_drew ?_ | refine blk_alloc ?_ _)); exact BK466.out)) : gb478 ≠ gb466)); clear HO474; clear BK466; clear HB; have HO474 := n0_; have BK466 := n1_; have HB := n2_; have BK478 := n3_; have GW478 := n4_; have GE478 := n5_; have NB466_478 := n6_; have NB478_466 := n7_; clear n0_ n1_ n2_ n3_ n4_ n5_ n6_ n7_; clear hb hbox hg; obtain ⟨Ao60, co60, eo60⟩ := Kd.S_slice HO474.out; subst eo60; have hnb61 := NB478_466.out; have hnc61 := NB466_478.out; have hcz62_0 : w59.cell? ⟨gb478, 0, none⟩ = some (.slice none 0 0) := (blk_cell BK478.out 0).trans rfl; have hcz62_1 : w59.cell? ⟨gb478, 1, none⟩ = some (.int .u32 0) := (blk_cell BK478.out 1).trans rfl; have hfz62_0 := blk_frozen BK478.out 0; have hfz62_1 := blk_frozen BK478.out 1; have hcz63_0 : w59.cell? ⟨gb466, 0, none⟩ = some (.slice A0_0 l0_0.length c0_0) := (blk_cell BK466.out 0).trans rfl; have hcz63_1 : w59.cell? ⟨gb466, 1, none⟩ = some (.int .u32 a0_1) := (blk_cell BK466.out 1).trans rfl; have hfz63_0 := blk_frozen BK466.out 0; have hfz63_1 := blk_frozen BK466.out 1) | ((with_reducible refine gate_callee (f := 22) rfl ?_); refine goesL_ (some 39) rfl rfl Try.func22 (by kernel_rfl) rfl #[.agg #[.slice A0_0 l0_0.length c0_0, .int .u32 a0_1], .agg #[.slice Ao60 t472.length co60, .int .u32 t475]] rfl (by (try simp only [List.map_toArray, List.map_cons, List.map_nil]); first | done | rfl | (simp only [List.length_drop, List.length_take]; rfl)) ?_; (with_reducible refine (hurdleref10_Same.calls k _ _ l0_0 a0_1 _ _ t472 t475 true _ ?side1 ?side2 ?side3 ?side4 A36.out).mono ?_); (case side1 => exact Kd.C_below HR0_0.out (by repeat (first | (with_reducible first | exact HB.out | apply below_alloc | apply pw_below_drewN | apply below_drew1 | refine below_set ?_ GE466.out | refine below_set ?_ GE478.out) | exact HB.out))); (case side2 => exact HC0_0.out); (case side3 => refine (Kd.S_reads' (e := 40) (base := w.heap.size) (ok := fun k_ => True) (n := t472.length) (c := co60) ?_).2.2; exact (by (with_reducible repeat (first | apply Kd.S_alloc | apply Kd.S_drewN | apply Kd.S_drew)); exact (Kd.S_mono (Kd.S_far (p := ⟨gb478, 1, none⟩) (Kd.S_far (p := ⟨gb478, 0, none⟩) (Kd.S_types HO474.out BK478.out (by decide)) (fun _ hk => hk.2) (.slice Ao60 t472.length co60)) (fun _ hk => hk.2) (.int .u32 t475)) (fun _ h_ => h_.1)))); (case side4 => exact (Kd.S_reads' HO474.out).2.1); rintro e w64 ⟨rfl, hb⟩; refine ⟨_, rfl, ?_⟩; have n0_ := Aside0.mk (Kd.S_below (by (with_reducible repeat (first | apply Kd.S_alloc | apply Kd.S_drewN | apply Kd.S_drew)); exact (Kd.S_mono (Kd.S_far (p := ⟨gb478, 1, none⟩) (Kd.S_far (p := ⟨gb478, 0, none⟩) (Kd.S_types HO474.out BK478.out (by decide)) (fun _ hk => hk.2) (.slice Ao60 t472.length co60)) (fun _ hk => hk.2) (.int .u32 t475)) (fun _ h_ => h_.1))) hb); have n1_ := Aside0.mk (blk_below (g := gb466) (o := .cells #[.slice A0_0 l0_0.length c0_0, .int .u32 a0_1] 25 (0, 0)) (by (with_reducible repeat (first | refine blk_drewN ?_ _ | refine blk_drew ?_ | refine blk_alloc ?_ _)); refine blk_far ?_ NB466_478.out _; (with_reducible repeat (first | refine blk_drewN ?_ _ | refine blk_drew ?_ | refine blk_alloc ?_ _)); refine blk_far ?_ NB466_478.out _; (with_reducible repeat (first | refine blk_drewN ?_ _ | refine blk_drew ?_ | refine blk_alloc ?_ _)); exact BK466.out) hb); have n2_ := Aside0.mk (blk_below (g := gb478) (o := .cells #[.slice Ao60 t472.length co60, .int .u32 t475] 25 (0, 0)) (by (with_reducible repeat (first | refine blk_drewN ?_ _ | refine blk_drew ?_ | refine blk_alloc ?_ _)); refine blk_put (cs := #[.slice Ao60 t472.length co60, .int .u32 0]) ?_ 1 _ rfl; (with_reducible repeat (first | refine blk_drewN ?_ _ | refine blk_drew ?_ | refine blk_alloc ?_ _)); refine blk_put (cs := #[.slice none 0 0, .int .u32 0]) ?_ 0 _ rfl; (with_reducible repeat (first | refine blk_drewN ?_ _ | refine blk_drew ?_ | refine blk_alloc ?_ _)); exact BK478.out) hb); have n3_ := Aside0.mk (below_step (by repeat (first | (with_reducible first | exact HB.out | apply below_alloc | apply pw_below_drewN | apply below_drew1 | refine below_set ?_ GE466.out | refine below_set ?_ GE478.out) | exact HB.out)) hb); clear HO474; clear BK466; clear BK478; clear HB; have HO474 := n0_; have BK466 := n1_; have BK478 := n2_; have HB := n3_; clear n0_ n1_ n2_ n3_; (try clear hb); (try clear hb2); (try clear hk); (try clear hi)))
            go_ret
            exact ⟨by first | rfl | (simp [errW_none, errW_some] <;> rfl) | (simp [*, errW_none, errW_some] <;> rfl), by repeat (first | (with_reducible first | exact HB.out | apply below_alloc | apply pw_below_drewN | apply below_drew1 | refine below_set ?_ GE466.out | refine below_set ?_ GE478.out) | exact HB.out)⟩
        · replace c37 := Bool.eq_false_iff.mpr c37
          subst c37
          have H1 : (some false) = some r := by rw [if_neg (show ¬ (false = true) by decide)] at H; exact H
          clear H
          have H := H1
          clear H1
          obtain rfl := Option.some.inj H
          go_enter Try.func5, Try.ntmps5
          go_wp2_with (first | ((with_reducible refine gate_dst (N := 1) rfl ?_); refine box_event ?hg (N := 1) ?hd (cs := #[.slice A0_0 l0_0.length c0_0, .int .u32 a0_1]) (t := 25) ?hr ?_; (case hd => rfl); (case hg => rfl); (case hr => first | (go_simp; done) | (go_simp; rfl)); intro gb466 hg w65 hbox hb; have n0_ := Aside0.mk (below_step (by repeat (first | (with_reducible first | exact HB.out | apply below_alloc | apply pw_below_drewN | apply below_drew1) | exact HB.out)) hb); have n1_ := Aside0.mk (hbox); have n2_ := Aside0.mk ((by rw [hg]; exact (below_size (by repeat (first | (with_reducible first | exact HB.out | apply below_alloc | apply pw_below_drewN | apply below_drew1) | exact HB.out))) : w.heap.size ≤ gb466)); have n3_ := Aside0.mk ((by rw [hg]; exact (below_size (by repeat (first | (with_reducible first | exact HB.out | apply below_alloc | apply pw_below_drewN | apply below_drew1) | exact HB.out))) : w.heap.size ≤ gb466)); clear HB; have HB := n0_; have BK466 := n1_; have GW466 := n2_; have GE466 := n3_; clear n0_ n1_ n2_ n3_; clear hb hbox hg; have hcz66_0 : w65.cell? ⟨gb466, 0, none⟩ = some (.slice A0_0 l0_0.length c0_0) := (blk_cell BK466.out 0).trans rfl; have hcz66_1 : w65.cell? ⟨gb466, 1, none⟩ = some (.int .u32 a0_1) := (blk_cell BK466.out 1).trans rfl; have hfz66_0 := blk_frozen BK466.out 0; have hfz66_1 := blk_frozen BK466.out 1) | ((with_reducible refine gate_callee (f := 14) rfl ?_); refine goesL_ (some 9) rfl rfl Try.func14 (by kernel_rfl) rfl #[.agg #[.slice A0_0 l0_0.length c0_0, .int .u32 a0_1]] rfl (by (try simp only [List.map_toArray, List.map_cons, List.map_nil]); first | done | rfl | (simp only [List.length_drop, List.length_take]; rfl)) ?_; (with_reducible refine (hurdlelaw10_Great.calls k _ _ l0_0 a0_1 false _ ?side1 ?side2 A2.out).mono ?_); (case side1 => repeat (first | exact (Kd.C_below HR0_0.out HB.out) | (with_reducible refine Kd.C_alloc ?_ _) | (with_reducible refine Kd.C_drewN ?_ _) | (with_reducible refine Kd.C_drew ?_))); (case side2 => exact HC0_0.out); rintro e w67 ⟨rfl, hb⟩; refine ⟨_, rfl, ?_⟩; have n0_ := Aside0.mk (blk_below (g := gb466) (o := .cells #[.slice A0_0 l0_0.length c0_0, .int .u32 a0_1] 25 (0, 0)) (by (with_reducible repeat (first | refine blk_drewN ?_ _ | refine blk_drew ?_ | refine blk_alloc ?_ _)); exact BK466.out) hb); have n1_ := Aside0.mk (below_step (by repeat (first | (with_reducible first | exact HB.out | apply below_alloc | apply pw_below_drewN | apply below_drew1 | refine below_set ?_ GE466.out) | exact HB.out)) hb); clear BK466; clear HB; have BK466 := n0_; have HB := n1_; clear n0_ n1_; (try clear hb); (try clear hb2); (try clear hk); (try clear hi); have hcz68_0 : w67.cell? ⟨gb466, 0, none⟩ = some (.slice A0_0 l0_0.length c0_0) := (blk_cell BK466.out 0).trans rfl; have hcz68_1 : w67.cell? ⟨gb466, 1, none⟩ = some (.int .u32 a0_1) := (blk_cell BK466.out 1).trans rfl; have hfz68_0 := blk_frozen BK466.out 0; have hfz68_1 := blk_frozen BK466.out 1) | ((with_reducible refine gate_callee (f := 16) rfl ?_); refine goesL_ (some 13) rfl rfl Try.func16 (by kernel_rfl) rfl #[.agg #[.slice A0_0 l0_0.length c0_0, .int .u32 a0_1]] rfl (by (try simp only [List.map_toArray, List.map_cons, List.map_nil]); first | done | rfl | (simp only [List.length_drop, List.length_take]; rfl)) ?_; (with_reducible refine (policy_Print.calls k _ _ l0_0 a0_1 t469 t470 _ ?side1 ?side2 A9.out).mono ?_); (case side1 => repeat (first | exact (Kd.C_below HR0_0.out HB.out) | (with_reducible refine Kd.C_alloc ?_ _) | (with_reducible refine Kd.C_drewN ?_ _) | (with_reducible refine Kd.C_drew ?_))); (case side2 => exact HC0_0.out); rintro e w69 ⟨rfl, hb⟩; refine ⟨_, rfl, ?_⟩; have n0_ := Aside0.mk (blk_below (g := gb466) (o := .cells #[.slice A0_0 l0_0.length c0_0, .int .u32 a0_1] 25 (0, 0)) (by (with_reducible repeat (first | refine blk_drewN ?_ _ | refine blk_drew ?_ | refine blk_alloc ?_ _)); exact BK466.out) hb); have n1_ := Aside0.mk (below_step (by repeat (first | (with_reducible first | exact HB.out | apply below_alloc | apply pw_below_drewN | apply below_drew1 | refine below_set ?_ GE466.out) | exact HB.out)) hb); clear BK466; clear HB; have BK466 := n0_; have HB := n1_; clear n0_ n1_; (try clear hb); (try clear hb2); (try clear hk); (try clear hi)) | ((with_reducible refine gate_callee (f := 20) rfl ?_); refine goesL_ (some 25) rfl rfl Try.func20 (by kernel_rfl) rfl #[.string t469] rfl (by (try simp only [List.map_toArray, List.map_cons, List.map_nil]); first | done | rfl | (simp only [List.length_drop, List.length_take]; rfl)) ?_; (with_reducible refine (policy_Parse.calls t469 t472 t475 t476 t477 _ A11.out).mono ?_); rintro e w70 ⟨v473, rfl, ho0, hb⟩; refine ⟨_, rfl, ?_⟩; have n0_ := Aside0.mk (Kd.S_lower ho0 (below_size (by repeat (first | (with_reducible first | exact HB.out | apply below_alloc | apply pw_below_drewN | apply below_drew1 | refine below_set ?_ GE466.out) | exact HB.out)))); have n1_ := Aside0.mk (blk_below (g := gb466) (o := .cells #[.slice A0_0 l0_0.length c0_0, .int .u32 a0_1] 25 (0, 0)) (by (with_reducible repeat (first | refine blk_drewN ?_ _ | refine blk_drew ?_ | refine blk_alloc ?_ _)); exact BK466.out) hb); have n2_ := Aside0.mk (below_step (by repeat (first | (with_reducible first | exact HB.out | apply below_alloc | apply pw_below_drewN | apply below_drew1 | refine below_set ?_ GE466.out) | exact HB.out)) hb); clear BK466; clear HB; have HO474 := n0_; have BK466 := n1_; have HB := n2_; clear n0_ n1_ n2_; (try clear hb); (try clear hb2); (try clear hk); (try clear hi); (try clear ho0)) | ((with_reducible refine gate_dst (N := 5) rfl ?_); refine box_event ?hg (N := 5) ?hd (cs := #[.slice none 0 0, .int .u32 0]) (t := 25) ?hr ?_; (case hd => rfl); (case hg => rfl); (case hr => first | (go_simp; done) | (go_simp; rfl)); intro gb478 hg w71 hbox hb; have n0_ := Aside0.mk (Kd.S_below (by (with_reducible repeat (first | apply Kd.S_alloc | apply Kd.S_drewN | apply Kd.S_drew)); exact HO474.out) hb); have n1_ := Aside0.mk (blk_below (g := gb466) (o := .cells #[.slice A0_0 l0_0.length c0_0, .int .u32 a0_1] 25 (0, 0)) (by (with_reducible repeat (first | refine blk_drewN ?_ _ | refine blk_drew ?_ | refine blk_alloc ?_ _)); exact BK466.out) hb); have n2_ := Aside0.mk (below_step (by repeat (first | (with_reducible first | exact HB.out | apply below_alloc | apply pw_below_drewN | apply below_drew1 | refine below_set ?_ GE466.out) | exact HB.out)) hb); have n3_ := Aside0.mk (hbox); have n4_ := Aside0.mk ((by rw [hg]; exact (below_size (by repeat (first | (with_reducible first | exact HB.out | apply below_alloc | apply pw_below_drewN | apply below_drew1 | refine below_set ?_ GE466.out) | exact HB.out))) : w.heap.size ≤ gb478)); have n5_ := Aside0.mk ((by rw [hg]; exact (below_size (by repeat (first | (with_reducible first | exact HB.out | apply below_alloc | apply pw_below_drewN | apply below_drew1 | refine below_set ?_ GE466.out) | exact HB.out))) : w.heap.size ≤ gb478)); have n6_ := Aside0.mk ((by rw [hg]; exact Nat.ne_of_lt (blk_lt (g := gb466) (o := .cells #[.slice A0_0 l0_0.length c0_0, .int .u32 a0_1] 25 (0, 0)) (by (with_reducible repeat (first | refine blk_drewN ?_ _ | refine blk_drew ?_ | refine blk_alloc ?_ _)); exact BK466.out)) : gb466 ≠ gb478)); have n7_ := Aside0.mk ((by rw [hg]; exact Nat.ne_of_gt (blk_lt (g := gb466) (o := .cells #[.slice A0_0 l0_0.length c0_0, .int .u32 a0_1] 25 (0, 0)) (by (with_reducible repeat (first | refine blk_drewN ?_ _ | refine blk_drew ?_ | refine blk_alloc ?_ _)); exact BK466.out)) : gb478 ≠ gb466)); clear HO474; clear BK466; clear HB; have HO474 := n0_; have BK466 := n1_; have HB := n2_; have BK478 := n3_; have GW478 := n4_; have GE478 := n5_; have NB466_478 := n6_; have NB478_466 := n7_; clear n0_ n1_ n2_ n3_ n4_ n5_ n6_ n7_; clear hb hbox hg; obtain ⟨Ao72, co72, eo72⟩ := Kd.S_slice HO474.out; subst eo72; have hnb73 := NB478_466.out; have hnc73 := NB466_478.out; have hcz74_0 : w71.cell? ⟨gb478, 0, none⟩ = some (.slice none 0 0) := (blk_cell BK478.out 0).trans rfl; have hcz74_1 : w71.cell? ⟨gb478, 1, none⟩ = some (.int .u32 0) := (blk_cell BK478.out 1).trans rfl; have hfz74_0 := blk_frozen BK478.out 0; have hfz74_1 := blk_frozen BK478.out 1; have hcz75_0 : w71.cell? ⟨gb466, 0, none⟩ = some (.slice A0_0 l0_0.length c0_0) := (blk_cell BK466.out 0).trans rfl; have hcz75_1 : w71.cell? ⟨gb466, 1, none⟩ = some (.int .u32 a0_1) := (blk_cell BK466.out 1).trans rfl; have hfz75_0 := blk_frozen BK466.out 0; have hfz75_1 := blk_frozen BK466.out 1) | ((with_reducible refine gate_callee (f := 22) rfl ?_); refine goesL_ (some 39) rfl rfl Try.func22 (by kernel_rfl) rfl #[.agg #[.slice A0_0 l0_0.length c0_0, .int .u32 a0_1], .agg #[.slice Ao72 t472.length co72, .int .u32 t475]] rfl (by (try simp only [List.map_toArray, List.map_cons, List.map_nil]); first | done | rfl | (simp only [List.length_drop, List.length_take]; rfl)) ?_; (with_reducible refine (hurdleref10_Same.calls k _ _ l0_0 a0_1 _ _ t472 t475 false _ ?side1 ?side2 ?side3 ?side4 A36.out).mono ?_); (case side1 => exact Kd.C_below HR0_0.out (by repeat (first | (with_reducible first | exact HB.out | apply below_alloc | apply pw_below_drewN | apply below_drew1 | refine below_set ?_ GE466.out | refine below_set ?_ GE478.out) | exact HB.out))); (case side2 => exact HC0_0.out); (case side3 => refine (Kd.S_reads' (e := 40) (base := w.heap.size) (ok := fun k_ => True) (n := t472.length) (c := co72) ?_).2.2; exact (by (with_reducible repeat (first | apply Kd.S_alloc | apply Kd.S_drewN | apply Kd.S_drew)); exact (Kd.S_mono (Kd.S_far (p := ⟨gb478, 1, none⟩) (Kd.S_far (p := ⟨gb478, 0, none⟩) (Kd.S_types HO474.out BK478.out (by decide)) (fun _ hk => hk.2) (.slice Ao72 t472.length co72)) (fun _ hk => hk.2) (.int .u32 t475)) (fun _ h_ => h_.1)))); (case side4 => exact (Kd.S_reads' HO474.out).2.1); rintro e w76 ⟨rfl, hb⟩; refine ⟨_, rfl, ?_⟩; have n0_ := Aside0.mk (Kd.S_below (by (with_reducible repeat (first | apply Kd.S_alloc | apply Kd.S_drewN | apply Kd.S_drew)); exact (Kd.S_mono (Kd.S_far (p := ⟨gb478, 1, none⟩) (Kd.S_far (p := ⟨gb478, 0, none⟩) (Kd.S_types HO474.out BK478.out (by decide)) (fun _ hk => hk.2) (.slice Ao72 t472.length co72)) (fun _ hk => hk.2) (.int .u32 t475)) (fun _ h_ => h_.1))) hb); have n1_ := Aside0.mk (blk_below (g := gb466) (o := .cells #[.slice A0_0 l0_0.length c0_0, .int .u32 a0_1] 25 (0, 0)) (by (with_reducible repeat (first | refine blk_drewN ?_ _ | refine blk_drew ?_ | refine blk_alloc ?_ _)); refine blk_far ?_ NB466_478.out _; (with_reducible repeat (first | refine blk_drewN ?_ _ | refine blk_drew ?_ | refine blk_alloc ?_ _)); refine blk_far ?_ NB466_478.out _; (with_reducible repeat (first | refine blk_drewN ?_ _ | refine blk_drew ?_ | refine blk_alloc ?_ _)); exact BK466.out) hb); have n2_ := Aside0.mk (blk_below (g := gb478) (o := .cells #[.slice Ao72 t472.length co72, .int .u32 t475] 25 (0, 0)) (by (with_reducible repeat (first | refine blk_drewN ?_ _ | refine blk_drew ?_ | refine blk_alloc ?_ _)); refine blk_put (cs := #[.slice Ao72 t472.length co72, .int .u32 0]) ?_ 1 _ rfl; (with_reducible repeat (first | refine blk_drewN ?_ _ | refine blk_drew ?_ | refine blk_alloc ?_ _)); refine blk_put (cs := #[.slice none 0 0, .int .u32 0]) ?_ 0 _ rfl; (with_reducible repeat (first | refine blk_drewN ?_ _ | refine blk_drew ?_ | refine blk_alloc ?_ _)); exact BK478.out) hb); have n3_ := Aside0.mk (below_step (by repeat (first | (with_reducible first | exact HB.out | apply below_alloc | apply pw_below_drewN | apply below_drew1 | refine below_set ?_ GE466.out | refine below_set ?_ GE478.out) | exact HB.out)) hb); clear HO474; clear BK466; clear BK478; clear HB; have HO474 := n0_; have BK466 := n1_; have BK478 := n2_; have HB := n3_; clear n0_ n1_ n2_ n3_; (try clear hb); (try clear hb2); (try clear hk); (try clear hi)))
          go_ret
          exact ⟨by first | rfl | (simp [errW_none, errW_some] <;> rfl) | (simp [*, errW_none, errW_some] <;> rfl), by repeat (first | (with_reducible first | exact HB.out | apply below_alloc | apply pw_below_drewN | apply below_drew1 | refine below_set ?_ GE466.out | refine below_set ?_ GE478.out) | exact HB.out)⟩
    · rw [if_neg c10] at H
      have c10b0 : (t470 == 0) = false := beq_eq_false_iff_ne.mpr c10
      have c10b1 : (t470 != 0) = true := bne_iff_ne.mpr c10
      by_cases c77 : t469.toList = ([] : List UInt8)
      · rw [if_pos c77] at H
        have c77b0 : (t469.toList == ([] : List UInt8)) = true := beq_iff_eq.mpr c77
        have c77b1 : (t469.toList != ([] : List UInt8)) = false := bne_eq_false_iff_eq.mpr c77
        clear c77
        replace H := Option.bind_eq_some_iff.mp H
        obtain ⟨t471, A780, H⟩ := H
        replace H : (some t471) = some r := H
        have A78 := Aside0.mk A780
        clear A780
        obtain rfl := Option.some.inj H
        go_enter Try.func5, Try.ntmps5
        go_wp2_with (first | ((with_reducible refine gate_dst (N := 1) rfl ?_); refine box_event ?hg (N := 1) ?hd (cs := #[.slice A0_0 l0_0.length c0_0, .int .u32 a0_1]) (t := 25) ?hr ?_; (case hd => rfl); (case hg => rfl); (case hr => first | (go_simp; done) | (go_simp; rfl)); intro gb466 hg w79 hbox hb; have n0_ := Aside0.mk (below_step (by repeat (first | (with_reducible first | exact HB.out | apply below_alloc | apply pw_below_drewN | apply below_drew1) | exact HB.out)) hb); have n1_ := Aside0.mk (hbox); have n2_ := Aside0.mk ((by rw [hg]; exact (below_size (by repeat (first | (with_reducible first | exact HB.out | apply below_alloc | apply pw_below_drewN | apply below_drew1) | exact HB.out))) : w.heap.size ≤ gb466)); have n3_ := Aside0.mk ((by rw [hg]; exact (below_size (by repeat (first | (with_reducible first | exact HB.out | apply below_alloc | apply pw_below_drewN | apply below_drew1) | exact HB.out))) : w.heap.size ≤ gb466)); clear HB; have HB := n0_; have BK466 := n1_; have GW466 := n2_; have GE466 := n3_; clear n0_ n1_ n2_ n3_; clear hb hbox hg; have hcz80_0 : w79.cell? ⟨gb466, 0, none⟩ = some (.slice A0_0 l0_0.length c0_0) := (blk_cell BK466.out 0).trans rfl; have hcz80_1 : w79.cell? ⟨gb466, 1, none⟩ = some (.int .u32 a0_1) := (blk_cell BK466.out 1).trans rfl; have hfz80_0 := blk_frozen BK466.out 0; have hfz80_1 := blk_frozen BK466.out 1) | ((with_reducible refine gate_callee (f := 14) rfl ?_); refine goesL_ (some 9) rfl rfl Try.func14 (by kernel_rfl) rfl #[.agg #[.slice A0_0 l0_0.length c0_0, .int .u32 a0_1]] rfl (by (try simp only [List.map_toArray, List.map_cons, List.map_nil]); first | done | rfl | (simp only [List.length_drop, List.length_take]; rfl)) ?_; (with_reducible refine (hurdlelaw10_Great.calls k _ _ l0_0 a0_1 false _ ?side1 ?side2 A2.out).mono ?_); (case side1 => repeat (first | exact (Kd.C_below HR0_0.out HB.out) | (with_reducible refine Kd.C_alloc ?_ _) | (with_reducible refine Kd.C_drewN ?_ _) | (with_reducible refine Kd.C_drew ?_))); (case side2 => exact HC0_0.out); rintro e w81 ⟨rfl, hb⟩; refine ⟨_, rfl, ?_⟩; have n0_ := Aside0.mk (blk_below (g := gb466) (o := .cells #[.slice A0_0 l0_0.length c0_0, .int .u32 a0_1] 25 (0, 0)) (by (with_reducible repeat (first | refine blk_drewN ?_ _ | refine blk_drew ?_ | refine blk_alloc ?_ _)); exact BK466.out) hb); have n1_ := Aside0.mk (below_step (by repeat (first | (with_reducible first | exact HB.out | apply below_alloc | apply pw_below_drewN | apply below_drew1 | refine below_set ?_ GE466.out) | exact HB.out)) hb); clear BK466; clear HB; have BK466 := n0_; have HB := n1_; clear n0_ n1_; (try clear hb); (try clear hb2); (try clear hk); (try clear hi); have hcz82_0 : w81.cell? ⟨gb466, 0, none⟩ = some (.slice A0_0 l0_0.length c0_0) := (blk_cell BK466.out 0).trans rfl; have hcz82_1 : w81.cell? ⟨gb466, 1, none⟩ = some (.int .u32 a0_1) := (blk_cell BK466.out 1).trans rfl; have hfz82_0 := blk_frozen BK466.out 0; have hfz82_1 := blk_frozen BK466.out 1) | ((with_reducible refine gate_callee (f := 16) rfl ?_); refine goesL_ (some 13) rfl rfl Try.func16 (by kernel_rfl) rfl #[.agg #[.slice A0_0 l0_0.length c0_0, .int .u32 a0_1]] rfl (by (try simp only [List.map_toArray, List.map_cons, List.map_nil]); first | done | rfl | (simp only [List.length_drop, List.length_take]; rfl)) ?_; (with_reducible refine (policy_Print.calls k _ _ l0_0 a0_1 t469 t470 _ ?side1 ?side2 A9.out).mono ?_); (case side1 => repeat (first | exact (Kd.C_below HR0_0.out HB.out) | (with_reducible refine Kd.C_alloc ?_ _) | (with_reducible refine Kd.C_drewN ?_ _) | (with_reducible refine Kd.C_drew ?_))); (case side2 => exact HC0_0.out); rintro e w83 ⟨rfl, hb⟩; refine ⟨_, rfl, ?_⟩; have n0_ := Aside0.mk (blk_below (g := gb466) (o := .cells #[.slice A0_0 l0_0.length c0_0, .int .u32 a0_1] 25 (0, 0)) (by (with_reducible repeat (first | refine blk_drewN ?_ _ | refine blk_drew ?_ | refine blk_alloc ?_ _)); exact BK466.out) hb); have n1_ := Aside0.mk (below_step (by repeat (first | (with_reducible first | exact HB.out | apply below_alloc | apply pw_below_drewN | apply below_drew1 | refine below_set ?_ GE466.out) | exact HB.out)) hb); clear BK466; clear HB; have BK466 := n0_; have HB := n1_; clear n0_ n1_; (try clear hb); (try clear hb2); (try clear hk); (try clear hi)) | (go_at_call 15; (with_reducible refine (hurdlelaw10_knows.calls k  t471 _ A78.out).mono ?_); rintro e w84 ⟨rfl, hb⟩; have n0_ := Aside0.mk (blk_below (g := gb466) (o := .cells #[.slice A0_0 l0_0.length c0_0, .int .u32 a0_1] 25 (0, 0)) (by (with_reducible repeat (first | refine blk_drewN ?_ _ | refine blk_drew ?_ | refine blk_alloc ?_ _)); exact BK466.out) hb); have n1_ := Aside0.mk (below_step (by repeat (first | (with_reducible first | exact HB.out | apply below_alloc | apply pw_below_drewN | apply below_drew1 | refine below_set ?_ GE466.out) | exact HB.out)) hb); clear BK466; clear HB; have BK466 := n0_; have HB := n1_; clear n0_ n1_; (try clear hb); (try clear hb2); (try clear hk); (try clear hi)))
        go_ret
        exact ⟨by first | rfl | (simp [errW_none, errW_some] <;> rfl) | (simp [*, errW_none, errW_some] <;> rfl), by repeat (first | (with_reducible first | exact HB.out | apply below_alloc | apply pw_below_drewN | apply below_drew1 | refine below_set ?_ GE466.out) | exact HB.out)⟩
      · rw [if_neg c77] at H
        have c77b0 : (t469.toList == ([] : List UInt8)) = false := beq_eq_false_iff_ne.mpr c77
        have c77b1 : (t469.toList != ([] : List UInt8)) = true := bne_iff_ne.mpr c77
        obtain rfl := Option.some.inj H
        go_enter Try.func5, Try.ntmps5
        go_wp2_with (first | ((with_reducible refine gate_dst (N := 1) rfl ?_); refine box_event ?hg (N := 1) ?hd (cs := #[.slice A0_0 l0_0.length c0_0, .int .u32 a0_1]) (t := 25) ?hr ?_; (case hd => rfl); (case hg => rfl); (case hr => first | (go_simp; done) | (go_simp; rfl)); intro gb466 hg w85 hbox hb; have n0_ := Aside0.mk (below_step (by repeat (first | (with_reducible first | exact HB.out | apply below_alloc | apply pw_below_drewN | apply below_drew1) | exact HB.out)) hb); have n1_ := Aside0.mk (hbox); have n2_ := Aside0.mk ((by rw [hg]; exact (below_size (by repeat (first | (with_reducible first | exact HB.out | apply below_alloc | apply pw_below_drewN | apply below_drew1) | exact HB.out))) : w.heap.size ≤ gb466)); have n3_ := Aside0.mk ((by rw [hg]; exact (below_size (by repeat (first | (with_reducible first | exact HB.out | apply below_alloc | apply pw_below_drewN | apply below_drew1) | exact HB.out))) : w.heap.size ≤ gb466)); clear HB; have HB := n0_; have BK466 := n1_; have GW466 := n2_; have GE466 := n3_; clear n0_ n1_ n2_ n3_; clear hb hbox hg; have hcz86_0 : w85.cell? ⟨gb466, 0, none⟩ = some (.slice A0_0 l0_0.length c0_0) := (blk_cell BK466.out 0).trans rfl; have hcz86_1 : w85.cell? ⟨gb466, 1, none⟩ = some (.int .u32 a0_1) := (blk_cell BK466.out 1).trans rfl; have hfz86_0 := blk_frozen BK466.out 0; have hfz86_1 := blk_frozen BK466.out 1) | ((with_reducible refine gate_callee (f := 14) rfl ?_); refine goesL_ (some 9) rfl rfl Try.func14 (by kernel_rfl) rfl #[.agg #[.slice A0_0 l0_0.length c0_0, .int .u32 a0_1]] rfl (by (try simp only [List.map_toArray, List.map_cons, List.map_nil]); first | done | rfl | (simp only [List.length_drop, List.length_take]; rfl)) ?_; (with_reducible refine (hurdlelaw10_Great.calls k _ _ l0_0 a0_1 false _ ?side1 ?side2 A2.out).mono ?_); (case side1 => repeat (first | exact (Kd.C_below HR0_0.out HB.out) | (with_reducible refine Kd.C_alloc ?_ _) | (with_reducible refine Kd.C_drewN ?_ _) | (with_reducible refine Kd.C_drew ?_))); (case side2 => exact HC0_0.out); rintro e w87 ⟨rfl, hb⟩; refine ⟨_, rfl, ?_⟩; have n0_ := Aside0.mk (blk_below (g := gb466) (o := .cells #[.slice A0_0 l0_0.length c0_0, .int .u32 a0_1] 25 (0, 0)) (by (with_reducible repeat (first | refine blk_drewN ?_ _ | refine blk_drew ?_ | refine blk_alloc ?_ _)); exact BK466.out) hb); have n1_ := Aside0.mk (below_step (by repeat (first | (with_reducible first | exact HB.out | apply below_alloc | apply pw_below_drewN | apply below_drew1 | refine below_set ?_ GE466.out) | exact HB.out)) hb); clear BK466; clear HB; have BK466 := n0_; have HB := n1_; clear n0_ n1_; (try clear hb); (try clear hb2); (try clear hk); (try clear hi); have hcz88_0 : w87.cell? ⟨gb466, 0, none⟩ = some (.slice A0_0 l0_0.length c0_0) := (blk_cell BK466.out 0).trans rfl; have hcz88_1 : w87.cell? ⟨gb466, 1, none⟩ = some (.int .u32 a0_1) := (blk_cell BK466.out 1).trans rfl; have hfz88_0 := blk_frozen BK466.out 0; have hfz88_1 := blk_frozen BK466.out 1) | ((with_reducible refine gate_callee (f := 16) rfl ?_); refine goesL_ (some 13) rfl rfl Try.func16 (by kernel_rfl) rfl #[.agg #[.slice A0_0 l0_0.length c0_0, .int .u32 a0_1]] rfl (by (try simp only [List.map_toArray, List.map_cons, List.map_nil]); first | done | rfl | (simp only [List.length_drop, List.length_take]; rfl)) ?_; (with_reducible refine (policy_Print.calls k _ _ l0_0 a0_1 t469 t470 _ ?side1 ?side2 A9.out).mono ?_); (case side1 => repeat (first | exact (Kd.C_below HR0_0.out HB.out) | (with_reducible refine Kd.C_alloc ?_ _) | (with_reducible refine Kd.C_drewN ?_ _) | (with_reducible refine Kd.C_drew ?_))); (case side2 => exact HC0_0.out); rintro e w89 ⟨rfl, hb⟩; refine ⟨_, rfl, ?_⟩; have n0_ := Aside0.mk (blk_below (g := gb466) (o := .cells #[.slice A0_0 l0_0.length c0_0, .int .u32 a0_1] 25 (0, 0)) (by (with_reducible repeat (first | refine blk_drewN ?_ _ | refine blk_drew ?_ | refine blk_alloc ?_ _)); exact BK466.out) hb); have n1_ := Aside0.mk (below_step (by repeat (first | (with_reducible first | exact HB.out | apply below_alloc | apply pw_below_drewN | apply below_drew1 | refine below_set ?_ GE466.out) | exact HB.out)) hb); clear BK466; clear HB; have BK466 := n0_; have HB := n1_; clear n0_ n1_; (try clear hb); (try clear hb2); (try clear hk); (try clear hi)))
        go_ret
        exact ⟨by first | rfl | (simp [errW_none, errW_some] <;> rfl) | (simp [*, errW_none, errW_some] <;> rfl), by repeat (first | (with_reducible first | exact HB.out | apply below_alloc | apply pw_below_drewN | apply below_drew1 | refine below_set ?_ GE466.out) | exact HB.out)⟩
end Go.Proofs.Ytekpbgmmogpbdaa.P
set_option linter.unusedVariables false
set_option linter.unusedSimpArgs false
set_option maxRecDepth 100000
namespace Go.Proofs.Ytekpbgmmogpbdaa.H
open Go.RowKit Go.Proofs.Ytekpbgmmogpbdaa.P Go.Proofs.YtekpbgmmogpbdaaW.PrintWords
theorem sameRule_l0 (a b c : Int) (l : List S61) (hl : l.length ≤ 1000) : ∀ (d i : Nat), i + d = l.length →
    Ev (fun k => hurdleref10_SameRule.l0 k (i : Int) a b l c a b l c) true := by
  intro d
  induction d with
  | zero =>
    intro i hi
    refine Ev.step (f := fun _ => some true) (fun k => ?_) (Ev.now _)
    simp only [hurdleref10_SameRule.l0]
    rw [if_neg (by omega)]
  | succ d ih =>
    intro i hi
    refine Ev.step (f := fun k => hurdleref10_SameRule.l0 k ((i + 1 : Nat) : Int) a b l c a b l c) (fun k => ?_) (ih (i + 1) (by omega))
    simp only [hurdleref10_SameRule.l0]
    rw [if_pos (by omega), if_pos (by omega), if_pos (by omega), if_neg (by simp), wS i (by omega)]
theorem sameRule_ev (x : S40) (hl : x.f2.length ≤ 1000) : Ev (fun k => hurdleref10_SameRule.f k x.f0 x.f1 x.f2 x.f3 x.f0 x.f1 x.f2 x.f3) true := by
  unfold hurdleref10_SameRule.f
  simp only [if_true]
  refine Ev.step (f := fun k => hurdleref10_SameRule.l0 k ((0 : Nat) : Int) x.f0 x.f1 x.f2 x.f3 x.f0 x.f1 x.f2 x.f3) (fun k => ?_) (sameRule_l0 _ _ _ _ hl x.f2.length 0 (by omega))
  simp only [hurdleref10_SameRule.j0]
  rw [if_neg (by simp)]
  rfl
theorem same_l0 (df : Int) (L : List S40) (hl : L.length ≤ 1000) (hc : ∀ x ∈ L, x.f2.length ≤ 1000) : ∀ (d i : Nat), i + d = L.length →
    Ev (fun k => hurdleref10_Same.l0 k (i : Int) L df L df) true := by
  intro d
  induction d with
  | zero =>
    intro i hi
    refine Ev.step (f := fun _ => some true) (fun k => ?_) (Ev.now _)
    simp only [hurdleref10_Same.l0]
    rw [if_neg (by omega)]
  | succ d ih =>
    intro i hi
    have hlt : i < L.length := by omega
    refine Ev.step (f := fun k => (hurdleref10_SameRule.f k L[i].f0 L[i].f1 L[i].f2 L[i].f3 L[i].f0 L[i].f1 L[i].f2 L[i].f3).bind fun t => if t = true then hurdleref10_Same.l0 k ((i + 1 : Nat) : Int) L df L df else some false) (fun k => ?_) ?_
    · simp only [hurdleref10_Same.l0]
      rw [if_pos (by omega), if_pos (by omega), if_pos (by omega), rd40 L i hlt, wS i (by omega)]
    · refine Ev.bind (sameRule_ev L[i] (hc _ (List.getElem_mem hlt))) ?_
      exact Ev.congr (fun k => if_pos rfl) (ih (i + 1) (by omega))
theorem same_ev (L : List S40) (df : Int) (hl : L.length ≤ 1000) (hc : ∀ x ∈ L, x.f2.length ≤ 1000) : Ev (fun k => hurdleref10_Same.f k L df L df) true := by
  unfold hurdleref10_Same.f
  simp only [if_true]
  refine Ev.step (f := fun k => hurdleref10_Same.l0 k ((0 : Nat) : Int) L df L df) (fun k => ?_) (same_l0 df L hl hc L.length 0 (by omega))
  simp only [hurdleref10_Same.j0]
  rw [if_neg (by simp)]
  rfl
end Go.Proofs.Ytekpbgmmogpbdaa.H
set_option linter.unusedVariables false
set_option linter.unusedSimpArgs false
set_option maxRecDepth 100000
namespace Go.Proofs.Ytekpbgmmogpbdaa.H
open Go.RowKit Go.Proofs.Ytekpbgmmogpbdaa.P Go.Proofs.YtekpbgmmogpbdaaW.PrintWords
def greatB (L : List S40) : Bool := L.any (fun x => decide (20 < x.f2.length)) || decide (100 < L.length)
theorem great_l0 (df : Int) (L : List S40) (hl : L.length ≤ 9223372036854775807) : ∀ (d i : Nat), i + d = L.length →
    Ev (fun k => hurdlelaw10_Great.l0 k (i : Int) L df) ((L.drop i).any (fun x => decide (20 < x.f2.length)) || decide (100 < L.length)) := by
  intro d
  induction d with
  | zero =>
    intro i hi
    refine Ev.step (f := fun _ => some (decide ((L.length : Int) > 100))) (fun k => ?_) ?_
    · simp only [hurdlelaw10_Great.l0]
      rw [if_neg (by omega)]
    · rw [List.drop_eq_nil_of_le (by omega), List.any_nil, Bool.false_or, show decide ((L.length : Int) > 100) = decide (100 < L.length) from decide_eq_decide.2 (by omega)]
      exact Ev.now _
  | succ d ih =>
    intro i hi
    have hlt : i < L.length := by omega
    have hd : L.drop i = L[i] :: L.drop (i + 1) := List.drop_eq_getElem_cons hlt
    by_cases hr : 20 < L[i].f2.length
    · refine Ev.step (f := fun _ => some true) (fun k => ?_) ?_
      · simp only [hurdlelaw10_Great.l0]
        rw [if_pos (by omega), if_pos (by omega), rd40 L i hlt, if_pos (by omega)]
      · rw [hd, List.any_cons, decide_eq_true hr, Bool.true_or, Bool.true_or]
        exact Ev.now _
    · refine Ev.step (f := fun k => hurdlelaw10_Great.l0 k ((i + 1 : Nat) : Int) L df) (fun k => ?_) ?_
      · simp only [hurdlelaw10_Great.l0]
        rw [if_pos (by omega), if_pos (by omega), rd40 L i hlt, if_neg (by omega), show wrap64 ((i : Int) + 1) = ((i + 1 : Nat) : Int) by unfold wrap64; omega]
      · rw [hd, List.any_cons, decide_eq_false hr, Bool.false_or]
        exact ih (i + 1) (by omega)
theorem great_ev (L : List S40) (df : Int) (hl : L.length ≤ 9223372036854775807) : Ev (fun k => hurdlelaw10_Great.f k L df) (greatB L) := great_l0 df L hl L.length 0 (by omega)
theorem great_false {L : List S40} (h : greatB L = false) : L.length ≤ 100 ∧ ∀ x ∈ L, x.f2.length ≤ 20 := by
  unfold greatB at h
  rw [Bool.or_eq_false_iff] at h
  refine ⟨by have := of_decide_eq_false h.2; omega, fun x hx => ?_⟩
  have := List.any_eq_false.1 h.1 x hx
  simp at this
  omega
theorem C_len {α : Type} {d : Kd α} {w : World} {A : Option Addr} {n : Nat} {L : List α} (h : d.C w A n L) : n ≤ 9223372036854775807 := h.2.1
end Go.Proofs.Ytekpbgmmogpbdaa.H
set_option linter.unusedVariables false
set_option linter.unusedSimpArgs false
set_option maxRecDepth 100000
namespace Go.Proofs.Ytekpbgmmogpbdaa.H
open Go.RowKit Go.Proofs.Ytekpbgmmogpbdaa.P Go.Proofs.YtekpbgmmogpbdaaW.PrintWords Go.ChangeShapes Go.WideShapes
section
variable {H : Type} {enc : TypeId × Value → H} {w : World} {base : Nat} {spare : Nat → Bool} {held : Bool} {fuel : Nat} {x : DataW H × List MemPlace}
theorem open_kd {α : Type} (d : Kd α) (Q : α → Prop) {t e : TypeId} (ht : Try.prog.underlying t = some (.slice e)) (hs : Try.prog.cellsOf e = d.sz) {cs : List Value}
    (el : ∀ (n : Nat) (cs : List Value) (x : DataW H × List MemPlace), cs.length = d.sz → DataW.trod enc Try.prog w base spare held n e cs = some x → ∃ a : α, d.K w a cs ∧ Q a)
    (h : DataW.trod enc Try.prog w base spare held fuel t cs = some x) :
    ∃ A c L, cs = [.slice A L.length c] ∧ L.length ≤ c ∧ d.C w A L.length L ∧ ∀ a ∈ L, Q a := by
  rcases DataW.trod_slice ht h with ⟨rfl, _⟩ | ⟨a, len, cap, elems, rest, n, _, rfl, _, hb, hl, hm, hlen, hel, _⟩
  · exact ⟨none, 0, [], rfl, Nat.le_refl _, ⟨rfl, by simp, fun h => absurd h (by simp)⟩, by simp⟩
  · have key : ∀ i, i < len → ∃ cs', w.cells? base (a.add (i * d.sz)) d.sz = some cs' ∧ ∃ z : α, d.K w z cs' ∧ Q z := by
      intro i hi
      have h1 := hel i hi
      rw [hs, List.getElem?_eq_getElem (show i < elems.length by omega)] at h1
      obtain ⟨cs', h2, h3⟩ := Option.bind_eq_some_iff.1 h1
      exact ⟨cs', h2, el n cs' _ (World.cells?_some h2).2.1 h3⟩
    have : ∃ L : List α, L.length = len ∧ ∀ i (hi : i < L.length), ∃ cs', w.cells? base (a.add (i * d.sz)) d.sz = some cs' ∧ d.K w L[i] cs' ∧ Q L[i] := by
      have : ∀ m, m ≤ len → ∃ L : List α, L.length = m ∧ ∀ i (hi : i < L.length), ∃ cs', w.cells? base (a.add (i * d.sz)) d.sz = some cs' ∧ d.K w L[i] cs' ∧ Q L[i] := by
        intro m
        induction m with
        | zero => intro _; exact ⟨[], rfl, fun i hi => absurd hi (by simp)⟩
        | succ m ih =>
          intro hm
          obtain ⟨L, hL, hp⟩ := ih (by omega)
          obtain ⟨cs', h1, z, h2, h3⟩ := key m (by omega)
          refine ⟨L ++ [z], by simp [hL], fun i hi => ?_⟩
          by_cases hlt : i < L.length
          · obtain ⟨c2, g1, g2, g3⟩ := hp i hlt
            exact ⟨c2, g1, by rw [List.getElem_append_left hlt]; exact g2, by rw [List.getElem_append_left hlt]; exact g3⟩
          · have e : i = m := by simp at hi; omega
            subst e
            have hz : (L ++ [z])[i] = z := by rw [List.getElem_append_right (by omega)]; simp [hL]
            exact ⟨cs', h1, by rw [hz]; exact h2, by rw [hz]; exact h3⟩
      exact this len (Nat.le_refl _)
    obtain ⟨L, hL, hp⟩ := this
    subst hL
    refine ⟨some a, cap, L, rfl, hl, ⟨rfl, ?_, fun _ => ⟨a, rfl, fun j p hj => ?_⟩⟩, fun z hz => ?_⟩
    · unfold maxLen at hm; omega
    · obtain ⟨hlt, rfl⟩ := List.getElem?_eq_some_iff.1 hj
      obtain ⟨cs', h1, h2, h3⟩ := hp j hlt
      obtain ⟨_, h5, h6⟩ := World.cells?_some h1
      refine ⟨cs', h5, h2, fun i u hu => ?_⟩
      have hi : i < d.sz := by rw [← h5]; exact (List.getElem?_eq_some_iff.1 hu).1
      have := h6 i hi
      rw [hu] at this
      rw [← Go.Proofs.YtekpbgmmogpbdaaW.PrintWords.add_add]
      exact this
    · obtain ⟨i, hi, rfl⟩ := List.mem_iff_getElem.1 hz
      obtain ⟨_, _, _, h⟩ := hp i hi
      exact h
theorem wf32 {n : Int} (h : (Lit.int .u32 n).wf = true) : u32P n := by have := bounds_u32 h; unfold u32P; omega
theorem wf64 {n : Int} (h : (Lit.int .u64 n).wf = true) : u64P n := by have := bounds_u64 h; unfold u64P; omega
theorem el_cond (n : Nat) (cs : List Value) (x : DataW H × List MemPlace) (hl : cs.length = 4) (h : DataW.trod enc Try.prog w base spare held n 61 cs = some x) : ∃ a : S61, k61.K w a cs ∧ condK a := by
  obtain ⟨xs, m, _, hx, hl2, hlx, hfi⟩ := DataW.trod_struct Try.underlying61 h
  have h1 : Try.prog.cellsOf 3 = 1 := by kernel_rfl
  have h2 : Try.prog.cellsOf 41 = 1 := by kernel_rfl
  match cs, hl with
  | [c0, c1, c2, c3], _ =>
    match xs, hlx with
    | [y0, y1, y2, y3], _ =>
      have f0 : DataW.trod enc Try.prog w base spare held m 3 ((List.drop 0 [c0, c1, c2, c3]).take (Try.prog.cellsOf 3)) = some y0 := hfi 0 _ rfl
      have f1 : DataW.trod enc Try.prog w base spare held m 3 ((List.drop 1 [c0, c1, c2, c3]).take (Try.prog.cellsOf 3)) = some y1 := hfi 1 _ rfl
      have f2 : DataW.trod enc Try.prog w base spare held m 41 ((List.drop 2 [c0, c1, c2, c3]).take (Try.prog.cellsOf 41)) = some y2 := hfi 2 _ rfl
      have f3 : DataW.trod enc Try.prog w base spare held m 41 ((List.drop 3 [c0, c1, c2, c3]).take (Try.prog.cellsOf 41)) = some y3 := hfi 3 _ rfl
      simp only [h1, h2, Value.cells, List.drop_zero, List.drop_succ_cons, List.take_succ_cons, List.take_zero] at f0 f1 f2 f3
      obtain ⟨x0, e0, g0, w0⟩ := DataW.trod_int Try.underlying3 f0
      obtain ⟨x1, e1, g1, w1⟩ := DataW.trod_int Try.underlying3 f1
      obtain ⟨x2, e2, g2, w2⟩ := DataW.trod_int Try.underlying41 f2
      obtain ⟨x3, e3, g3, w3⟩ := DataW.trod_int Try.underlying41 f3
      simp only [List.cons.injEq, and_true] at e0 e1 e2 e3
      subst e0 e1 e2 e3
      exact ⟨⟨x0, x1, x2, x3⟩, k61_mk w ⟨x0, x1, x2, x3⟩, wf64 w2, wf64 w3⟩
theorem el_rule (n : Nat) (cs : List Value) (x : DataW H × List MemPlace) (hl : cs.length = 4) (h : DataW.trod enc Try.prog w base spare held n 40 cs = some x) : ∃ a : S40, k40.K w a cs ∧ ruleK a := by
  obtain ⟨xs, m, _, hx, hl2, hlx, hfi⟩ := DataW.trod_struct Try.underlying40 h
  have h1 : Try.prog.cellsOf 23 = 1 := by kernel_rfl
  have h2 : Try.prog.cellsOf 38 = 1 := by kernel_rfl
  match cs, hl with
  | [c0, c1, c2, c3], _ =>
    match xs, hlx with
    | [y0, y1, y2, y3], _ =>
      have f0 : DataW.trod enc Try.prog w base spare held m 23 ((List.drop 0 [c0, c1, c2, c3]).take (Try.prog.cellsOf 23)) = some y0 := hfi 0 _ rfl
      have f1 : DataW.trod enc Try.prog w base spare held m 23 ((List.drop 1 [c0, c1, c2, c3]).take (Try.prog.cellsOf 23)) = some y1 := hfi 1 _ rfl
      have f2 : DataW.trod enc Try.prog w base spare held m 38 ((List.drop 2 [c0, c1, c2, c3]).take (Try.prog.cellsOf 38)) = some y2 := hfi 2 _ rfl
      have f3 : DataW.trod enc Try.prog w base spare held m 23 ((List.drop 3 [c0, c1, c2, c3]).take (Try.prog.cellsOf 23)) = some y3 := hfi 3 _ rfl
      simp only [h1, h2, Value.cells, List.drop_zero, List.drop_succ_cons, List.take_succ_cons, List.take_zero] at f0 f1 f2 f3
      obtain ⟨x0, e0, g0, w0⟩ := DataW.trod_int Try.underlying23 f0
      obtain ⟨x1, e1, g1, w1⟩ := DataW.trod_int Try.underlying23 f1
      obtain ⟨A, c, L, e2, hc, hr, hk⟩ := open_kd k61 condK Try.underlying38 (by kernel_rfl) el_cond f2
      obtain ⟨x3, e3, g3, w3⟩ := DataW.trod_int Try.underlying23 f3
      simp only [List.cons.injEq, and_true] at e0 e1 e2 e3
      subst e0 e1 e2 e3
      exact ⟨⟨x0, x1, L, x3⟩, k40_mk w ⟨x0, x1, L, x3⟩ hc hr, wf32 w0, wf32 w1, wf32 w3, hk⟩
theorem open_policy {r : Reach} {b0 : Nat} {v : Value} {d : DataW H} {ps : List MemPlace} (hval : Value.okWide Try.prog w r b0 25 v) (hd : DataW.Trod enc Try.prog w base spare held 25 v d ps) :
    ∃ (A : Option Addr) (c : Nat) (L : List S40) (df : Int), v = .agg #[.slice A L.length c, .int .u32 df] ∧ L.length ≤ c ∧ k40.C w A L.length L ∧ polK L df := by
  obtain ⟨cs, rfl, hsz⟩ := okWide_struct Try.underlying25 hval
  obtain ⟨fuel, hf⟩ := hd
  obtain ⟨xs, n, _, hx, hl, hlx, hfi⟩ := DataW.trod_struct Try.underlying25 hf
  have h9 : Try.prog.cellsOf 25 = 2 := by kernel_rfl
  have h1 : Try.prog.cellsOf 23 = 1 := by kernel_rfl
  have h2 : Try.prog.cellsOf 22 = 1 := by kernel_rfl
  have hc9 : cs.toList.length = 2 := by simpa [h9] using hsz
  obtain ⟨L, hL⟩ : ∃ L, cs.toList = L := ⟨_, rfl⟩
  have hcs : cs = L.toArray := by rw [← hL]
  rw [hL] at hc9
  subst hcs
  match L, hc9 with
  | [c0, c1], _ =>
    match xs, hlx with
    | [y0, y1], _ =>
      have f0 : DataW.trod enc Try.prog w base spare held n 22 ((List.drop 0 [c0, c1]).take (Try.prog.cellsOf 22)) = some y0 := hfi 0 _ rfl
      have f1 : DataW.trod enc Try.prog w base spare held n 23 ((List.drop 1 [c0, c1]).take (Try.prog.cellsOf 23)) = some y1 := hfi 1 _ rfl
      simp only [h1, h2, Value.cells, List.drop_zero, List.drop_succ_cons, List.take_succ_cons, List.take_zero] at f0 f1
      obtain ⟨A, c, L, e0, hc, hr, hk⟩ := open_kd k40 ruleK Try.underlying22 (by kernel_rfl) el_rule f0
      obtain ⟨df, e1, g1, w1⟩ := DataW.trod_int Try.underlying23 f1
      simp only [List.cons.injEq, and_true] at e0 e1
      subst e0 e1
      exact ⟨A, c, L, df, rfl, hc, hr, hk, wf32 w1⟩
end
end Go.Proofs.Ytekpbgmmogpbdaa.H
set_option linter.unusedVariables false
set_option linter.unusedSimpArgs false
set_option maxRecDepth 100000
namespace Go.Proofs.Ytekpbgmmogpbdaa.H
open Go.RowKit Go.Proofs.Ytekpbgmmogpbdaa.P Go.Proofs.YtekpbgmmogpbdaaW.PrintWords Go.Proofs.YtekpbgmmogpbdaaW.PrintLast
theorem kn_bindB : Ev (fun k => (hurdlelaw10_knows.f k).bind fun t => some t) true := Ev.bind knows_ev (Ev.now _)
theorem polT_size (L : List S40) (df : Int) (h : polOk L df) : (polT L df).length ≤ 100000 := by
  have hz : ∀ M : List S40, (∀ x ∈ M, ruleOk x) → (M.flatMap fun x => ruleT x ++ [10]).length ≤ 301 * M.length := by
    intro M
    induction M with
    | nil => intro _; simp
    | cons x M ih =>
      intro hM
      have h1 := ruleT_len (hM x (by simp))
      have h2 := ih (fun y hy => hM y (by simp [hy]))
      simp only [List.flatMap_cons, List.length_append, List.length_cons, List.length_nil]
      omega
  have h1 := hz L h.2.1
  have h2 := h.1
  have z3 := act_sz _ (toN h.2.2.1).1
  have l3 : (actL df).length ≤ 24 := by unfold actL; rw [← size_list]; exact z3
  unfold polT
  rw [dfltT_eq]
  simp only [List.length_append, List.length_cons, List.length_nil]
  omega
theorem back_ev (L : List S40) (df : Int) (h : polK L df) (hl : L.length ≤ 9223372036854775807) : Ev (fun k => hurdlelaw10_PolicyBack.f k L df) true := by
  unfold hurdlelaw10_PolicyBack.f
  refine Ev.bind (great_ev L df hl) ?_
  by_cases hg : greatB L = true
  · exact Ev.congr (fun k => if_pos hg) kn_bindB
  · refine Ev.congr (fun k => if_neg hg) ?_
    obtain ⟨g1, g2⟩ := great_false (Bool.eq_false_iff.2 hg)
    have hc : ∀ x ∈ L, x.f2.length ≤ 1000 := fun x hx => by have := g2 x hx; omega
    refine Ev.bind (print_ev L df h (by omega) hc) ?_
    by_cases hb : polB L df = true
    · have ho := (polOk_iff h).1 hb
      have hz := polT_size L df ho
      simp only [if_pos hb, if_true]
      rw [parse_f _ (by rw [size_of]; omega)]
      simp only [Option.bind_some, data_of, size_of]
      by_cases h2 : ((polT L df).length : Int) > 20000
      · simp only [if_pos h2]
        have e : (parseV (polT L df)).2.2.2 = 3 := by unfold parseV; rw [if_pos (by omega)]
        simp only [if_pos e]
        exact kn_bindB
      · simp only [if_neg h2, parse_polT ho (by omega)]
        exact Ev.bind (same_ev L df (by omega) hc) (by simpa using kn_bindB)
    · simp only [if_neg hb]
      have e : (⟨#[]⟩ : ByteArray).toList = ([] : List UInt8) := by rw [ByteArray.toList_eq]
      simp only [e, if_true]
      exact Ev.congr (fun k => if_neg (by decide)) kn_bindB
theorem PolicyBack_row (A : Option Addr) (c : Nat) (L : List S40) (df : Int) (W : World) (hc : L.length ≤ c) (hr : k40.C W A L.length L) (hk : polK L df) :
    Calls Try.prog 5 #[.agg #[.slice A L.length c, .int .u32 df]] W fun e w' => e = .returned (.bool true) ∧ Below W.heap.size W w' := by
  obtain ⟨k, h⟩ := Ev.rounds (back_ev L df hk (C_len hr))
  exact (hurdlelaw10_PolicyBack.calls k A c L df true W hr hc h).mono (fun e w' h => h)
end Go.Proofs.Ytekpbgmmogpbdaa.H
namespace Go.Proofs.Ytekpbgmmogpbdaa.policyBack
open Go.ChangeShapes Go.WideShapes Go.ChangeAt Go.RowKit
open Go.ChangeMaps (open_string shut_string)
set_option linter.unusedVariables false
theorem laidOut : laidOutB Try.prog = true := by kernel_rfl
theorem own : ownKnob Try.prog.godebug = none := by kernel_rfl
set_option maxRecDepth 100000 in
theorem lifted (os : Os) (started : os.Started) (H : Type) (enc : TypeId × Value → H) :
    ReturnsInHanded {} Try.checked os 5 .any (Rows.policyBackSpec.pre6 enc Try.prog Try.f5 Rows.policyBackRow.domain false) (Rows.policyBackSpec.post enc Try.prog Try.f5 false true false false) := by
  refine returnsInHanded_of_change_sized (C := Try.checked) own started (by kernel_rfl) Try.func5
    (ChangeSpec.witness6 (enc := enc) (C := Try.checked) false ⟨#[], #[.agg #[.slice none 0 0, .int .u32 0]], []⟩ 8 (by kernel_rfl) (by kernel_rfl) (by kernel_rfl) (by kernel_rfl)) ?_
  intro W base args ds gs before hval0 hW hcnd hsz0 _
  have hsz : (DataW.weightsEach Try.prog (Try.f5.params.toList ++ Rows.policyBackSpec.plain.varTypes Try.prog) (ds ++ gs)).all (· ≤ reachBytes) = true := hsz0
  have hval : ∀ (j : Nat) t v, Try.f5.params[j]? = some t → args[j]? = some v → Value.okWide Try.prog W .any base t v := hval0
  have hW' := hW
  obtain ⟨p, q, hA0, hV, rfl, hfz, hnd⟩ := hW
  have hA : DataW.TrodAll enc Try.prog W 0 (fun _ => true) true Try.f5.params.toList args.toList ds p := hA0
  rw [Try.params5] at hA hval hsz
  obtain ⟨v0, vs0, d0, ds0, p0, q0, hargs, rfl, rfl, h0, r0⟩ := trodAll_cons hA
  obtain ⟨rfl, rfl, rfl⟩ := trodAll_nil r0
  obtain rfl : args = #[v0] := by cases args; simp_all
  obtain ⟨rfl, rfl⟩ := trodVars_none hV
  have k0 := h0
  have lt0 : ∀ x ∈ p0, x.block < W.heap.size := by obtain ⟨m, hm⟩ := k0; exact DataW.trod_lt m _ _ _ hm
  obtain ⟨A0, c0, L0, f0, rfl, hc0, hr0, b0⟩ := Go.Proofs.Ytekpbgmmogpbdaa.H.open_policy (hval 0 25 v0 rfl rfl) h0
  clear hA0 hval0 hsz0 hsz
  refine (Go.Proofs.Ytekpbgmmogpbdaa.H.PolicyBack_row A0 c0 L0 f0 W hc0 hr0 b0).mono fun e W' ⟨he, bel⟩ => ?_
  subst he
  exact ⟨_, rfl, _, _, _, [], _, [], hW', trodAll_mk1 (shut_bool Try.underlying4 _), (trodAll_cons_mk (Below.trod laidOut (by kernel_rfl) (of_decide_eq_true (by kernel_rfl)) k0 bel lt0) trodAll_mk0), rfl, bel.frame _, fun h => by cases h⟩
theorem over : Rows.policyBackRow.holds Try.pinned (OpenSpec.ofChange Rows.policyBackSpec) :=
  OpenClaim.holds_of_wide 5 Try.f5 rfl rfl rfl rfl rfl rfl rfl ⟨rfl, rfl, rfl, rfl, rfl⟩ rfl rfl rfl rfl rfl (by kernel_rfl) Try.func5 (by kernel_rfl)
    (of_decide_eq_true (by kernel_rfl)) (by unfold Func.isWrapper; first | (rw [if_pos (by decide +kernel)]; kernel_rfl) | (rw [if_neg (by decide +kernel)]; exact ⟨rfl, rfl⟩))
    (fun os started H enc _ => lifted os started H enc)
theorem proved : Rows.PolicyBackSaid := over
#print axioms proved
end Go.Proofs.Ytekpbgmmogpbdaa.policyBack
namespace Go.Proofs.Ytekpbgmmogpbdaa
theorem policyBack_holds : Rows.PolicyBackSaid := policyBack.proved
end Go.Proofs.Ytekpbgmmogpbdaa
