/- Which rules fit, which is the first one, and what a policy says, is what the document says, or the error is told (up to 100 rules, any record, any rule). -/
import Derived.ProofKit
import Derived.ChangeOld
import Derived.DataReads
import Derived.Test.YtekpbgmmogpbdaaRows
import Derived.ShutString
import Derived.SizedLaws
import Derived.Test.YtekpbgmmogpbdaaZDenoteJudges1
namespace Go.Proofs.Ytekpbgmmogpbdaa.P
open Go.RowKit Go.Proofs.Ytekpbgmmogpbdaa.H Go.Proofs.YtekpbgmmogpbdaaW.PrintWords Go.Proofs.YtekpbgmmogpbdaaW.PrintLast Go.Proofs.YtekpbgmmogpbdaaW.PrintMore
attribute [local go_sem] max2_int min2_int max_two min_two max_three min_three max_four min_four
set_option linter.unusedVariables false
set_option linter.unusedSimpArgs false
mutual
def hurdleref10_Right.j0 : Nat → Bool → List (S40) → Int → Option (Bool)
  | 0, _, _, _ => none
  | k + 1, x15, x241000, x241001 => if x15 = true then (some false) else (hurdleref10_Right.l0 k 0 x241000 x241001)
def hurdleref10_Right.l0 : Nat → Int → List (S40) → Int → Option (Bool)
  | 0, _, _, _ => none
  | k + 1, x3, x241000, x241001 => if x3 < (x241000.length : Int) then (if 0 ≤ x3 then (if (((rd_T40 x241000 x3).f2).length : Int) > 4 then (hurdleref10_Right.j2 k x3 true x241000 x241001 ((rd_T40 x241000 x3).f0) ((rd_T40 x241000 x3).f1) ((rd_T40 x241000 x3).f2) ((rd_T40 x241000 x3).f3)) else ((hurdleref09_Action.f k ((rd_T40 x241000 x3).f3)).bind fun t244 => (hurdleref10_Right.j2 k x3 (t244.toList == ([] : List UInt8)) x241000 x241001 ((rd_T40 x241000 x3).f0) ((rd_T40 x241000 x3).f1) ((rd_T40 x241000 x3).f2) ((rd_T40 x241000 x3).f3)))) else (none)) else (some true)
def hurdleref10_Right.j2 : Nat → Int → Bool → List (S40) → Int → Int → Int → List (S61) → Int → Option (Bool)
  | 0, _, _, _, _, _, _, _, _ => none
  | k + 1, x3, x37, x241000, x241001, x244000, x244001, x244002, x244003 => if x37 = true then (some false) else (hurdleref10_Right.l1 k x3 0 x241000 x241001 x244000 x244001 x244002 x244003)
def hurdleref10_Right.l1 : Nat → Int → Int → List (S40) → Int → Int → Int → List (S61) → Int → Option (Bool)
  | 0, _, _, _, _, _, _, _, _ => none
  | k + 1, x3, x5, x241000, x241001, x244000, x244001, x244002, x244003 => if x5 < (x244002.length : Int) then (if 0 ≤ x5 then ((hurdleref08_Right.f ((rd_T61 x244002 x5).f0) ((rd_T61 x244002 x5).f1) ((rd_T61 x244002 x5).f2) ((rd_T61 x244002 x5).f3)).bind fun t246 => (if t246 = true then (hurdleref10_Right.l1 k x3 (wrap64 (x5 + 1)) x241000 x241001 x244000 x244001 x244002 x244003) else (some false))) else (none)) else (hurdleref10_Right.l0 k (wrap64 (x3 + 1)) x241000 x241001)
end
def hurdleref10_Right.f (k : Nat) (l0_0 : List (S40)) (a0_1 : Int) : Option (Bool) := if (l0_0.length : Int) > 64 then (hurdleref10_Right.j0 k true l0_0 a0_1) else ((hurdleref09_Action.f k a0_1).bind fun t241 => (hurdleref10_Right.j0 k (t241.toList == ([] : List UInt8)) l0_0 a0_1))
set_option maxHeartbeats 8000000 in
set_option maxRecDepth 100000 in
theorem hurdleref10_Right.calls (k : Nat) (A0_0 : Option Addr) (c0_0 : Nat) (l0_0 : List (S40)) (a0_1 : Int) (r : Bool) (w : World) (hr0_0 : Kd.C k40 w A0_0 l0_0.length l0_0) (hc0_0 : l0_0.length ≤ c0_0) (h : hurdleref10_Right.f k l0_0 a0_1 = some r) :
    Calls Try.prog 17 #[.agg #[.slice A0_0 l0_0.length c0_0, .int .u32 a0_1]] w fun e w' => e = .returned (.bool r) ∧ Below w.heap.size w w' := by
  have hu25 := Try.underlying25
  have hu40 := Try.underlying40
  have hu61 := Try.underlying61
  have HR0_0 := Aside0.mk hr0_0
  have HC0_0 := Aside0.mk hc0_0
  clear hr0_0 hc0_0
  have HB := Aside0.mk (Below.refl w.heap.size w)
  have H : (if (l0_0.length : Int) > 64 then (hurdleref10_Right.j0 k true l0_0 a0_1) else ((hurdleref09_Action.f k a0_1).bind fun t241 => (hurdleref10_Right.j0 k (t241.toList == ([] : List UInt8)) l0_0 a0_1))) = some r := h
  clear h
  have HC2 := Aside0.mk H
  clear H
  go_enter Try.func17, Try.ntmps17
  go_upto_region 1 with (first | ((with_reducible refine gate_dst (N := 1) rfl ?_); refine box_event ?hg (N := 1) ?hd (cs := #[.slice A0_0 l0_0.length c0_0, .int .u32 a0_1]) (t := 25) ?hr ?_; (case hd => rfl); (case hg => rfl); (case hr => first | (go_simp; done) | (go_simp; rfl)); intro gb240 hg w3 hbox hb; have n0_ := Aside0.mk (below_step (by repeat (first | (with_reducible first | exact HB.out | apply below_alloc | apply pw_below_drewN | apply below_drew1) | exact HB.out)) hb); have n1_ := Aside0.mk (hbox); have n2_ := Aside0.mk ((by rw [hg]; exact (below_size (by repeat (first | (with_reducible first | exact HB.out | apply below_alloc | apply pw_below_drewN | apply below_drew1) | exact HB.out))) : w.heap.size ≤ gb240)); have n3_ := Aside0.mk ((by rw [hg]; exact (below_size (by repeat (first | (with_reducible first | exact HB.out | apply below_alloc | apply pw_below_drewN | apply below_drew1) | exact HB.out))) : w.heap.size ≤ gb240)); clear HB; have HB := n0_; have BK240 := n1_; have GW240 := n2_; have GE240 := n3_; clear n0_ n1_ n2_ n3_; clear hb hbox hg))
  (try simp only [Act.put, List.setIfInBounds_toArray, List.set_cons_zero, List.set_cons_succ])
  go_cut [15] (fun v15 wc => ∃ (kq : Nat) (x15_1 : Bool), v15 = .bool x15_1 ∧ Aside0 (hurdleref10_Right.j0 kq x15_1 l0_0 a0_1 = some r) ∧ Aside0 (kq ≤ k) ∧ Aside0 (wc.heap[gb240]? = some (.cells #[(.slice A0_0 l0_0.length c0_0), .int .u32 a0_1] 25 (0, 0))) ∧ Aside0 (Below w.heap.size w wc))
  case first =>
    have H := HC2.out
    clear HC2
    by_cases c4 : (l0_0.length : Int) > 64
    · rw [if_pos c4] at H
      have c4b0 : decide (64 < (l0_0.length : Int)) = true := decide_eq_true c4
      have c4b1 : decide (64 < l0_0.length) = true := decide_eq_true (by omega)
      clear c4
      (first | rw [c4b0] | (simp only [i64_w, i32_w]; rw [c4b0]) | skip)
      have H' := Aside0.mk H
      clear H
      have hcz5_0 : w3.cell? ⟨gb240, 0, none⟩ = some (.slice A0_0 l0_0.length c0_0) := (blk_cell BK240.out 0).trans rfl
      have hcz5_1 : w3.cell? ⟨gb240, 1, none⟩ = some (.int .u32 a0_1) := (blk_cell BK240.out 1).trans rfl
      have hfz5_0 := blk_frozen BK240.out 0
      have hfz5_1 := blk_frozen BK240.out 1
      go_wp2
      go_meet
      case rel => exact ⟨_, (true), (by first | rfl | (simp; done) | (simp [*]; done)), H', ⟨by first | omega | exact Nat.le_refl _⟩, ⟨by (with_reducible repeat (first | refine blk_drewN ?_ _ | refine blk_drew ?_ | refine blk_alloc ?_ _)); exact BK240.out⟩, ⟨by repeat (first | (with_reducible first | exact HB.out | apply below_alloc | apply pw_below_drewN | apply below_drew1 | refine below_set ?_ GE240.out) | exact HB.out)⟩⟩
    · rw [if_neg c4] at H
      have c4b0 : decide (64 < (l0_0.length : Int)) = false := decide_eq_false c4
      have c4b1 : decide (64 < l0_0.length) = false := decide_eq_false (by omega)
      clear c4
      (first | rw [c4b0] | (simp only [i64_w, i32_w]; rw [c4b0]) | skip)
      replace H := Option.bind_eq_some_iff.mp H
      obtain ⟨t241, A60, H⟩ := H
      replace H : (hurdleref10_Right.j0 k (t241.toList == ([] : List UInt8)) l0_0 a0_1) = some r := H
      have A6 := Aside0.mk A60
      clear A60
      have H' := Aside0.mk H
      clear H
      have hcz7_0 : w3.cell? ⟨gb240, 0, none⟩ = some (.slice A0_0 l0_0.length c0_0) := (blk_cell BK240.out 0).trans rfl
      have hcz7_1 : w3.cell? ⟨gb240, 1, none⟩ = some (.int .u32 a0_1) := (blk_cell BK240.out 1).trans rfl
      have hfz7_0 := blk_frozen BK240.out 0
      have hfz7_1 := blk_frozen BK240.out 1
      go_wp2_with (first | (go_at_call 33; (with_reducible refine (hurdleref09_Action.calls k a0_1 t241 _ A6.out).mono ?_); rintro e w8 ⟨rfl, hb⟩; have n0_ := Aside0.mk (blk_below (g := gb240) (o := .cells #[.slice A0_0 l0_0.length c0_0, .int .u32 a0_1] 25 (0, 0)) (by (with_reducible repeat (first | refine blk_drewN ?_ _ | refine blk_drew ?_ | refine blk_alloc ?_ _)); exact BK240.out) hb); have n1_ := Aside0.mk (below_step (by repeat (first | (with_reducible first | exact HB.out | apply below_alloc | apply pw_below_drewN | apply below_drew1 | refine below_set ?_ GE240.out) | exact HB.out)) hb); clear BK240; clear HB; have BK240 := n0_; have HB := n1_; clear n0_ n1_; (try clear hb); (try clear hb2); (try clear hk); (try clear hi)))
      go_meet
      case rel => exact ⟨_, ((t241.toList == ([] : List UInt8))), (by first | rfl | (simp; done) | (simp [*]; done)), H', ⟨by first | omega | exact Nat.le_refl _⟩, ⟨by (with_reducible repeat (first | refine blk_drewN ?_ _ | refine blk_drew ?_ | refine blk_alloc ?_ _)); exact BK240.out⟩, ⟨by repeat (first | (with_reducible first | exact HB.out | apply below_alloc | apply pw_below_drewN | apply below_drew1 | refine below_set ?_ GE240.out) | exact HB.out)⟩⟩
  case rest =>
    clear HC2
    try clear c1
    try clear p2
    try clear c4
    try clear c4b0
    try clear c4b1
    try clear hcz5_0
    try clear hcz5_1
    try clear hcz7_0
    try clear hcz7_1
    try clear hfz5_0
    try clear hfz5_1
    try clear hfz7_0
    try clear hfz7_1
    obtain ⟨kq, x15_1, rfl, HA, HJ1, BK240, HB⟩ := hcut
    cases kq with
    | zero => exact absurd HA.out (by simp [hurdleref10_Right.j0])
    | succ kj1 =>
      have H := HA.out
      clear HA
      simp only [hurdleref10_Right.j0] at H
      by_cases c9 : x15_1 = true
      · subst c9
        have H1 : (some false) = some r := by rw [if_pos rfl] at H; exact H
        clear H
        have H := H1
        clear H1
        obtain rfl := Option.some.inj H
        go_wp2
        go_ret
        exact ⟨by first | rfl | (simp [errW_none, errW_some] <;> rfl) | (simp [*, errW_none, errW_some] <;> rfl), by repeat (first | (with_reducible first | exact HB.out | apply below_alloc | apply pw_below_drewN | apply below_drew1 | refine below_set ?_ GE240.out) | exact HB.out)⟩
      · replace c9 := Bool.eq_false_iff.mpr c9
        subst c9
        have H1 : (hurdleref10_Right.l0 kj1 0 l0_0 a0_1) = some r := by rw [if_neg (show ¬ (false = true) by decide)] at H; exact H
        clear H
        have H := H1
        clear H1
        have H' := Aside0.mk H
        clear H
        go_wp2
        go_loopg [3] kj1 (fun kq v3 w' => ∃ (x3_2 : Int), v3 = .int .i64 x3_2 ∧ Aside0 (hurdleref10_Right.l0 kq x3_2 l0_0 a0_1 = some r) ∧ Aside0 (kq ≤ kj1) ∧ Aside0 (w'.heap[gb240]? = some (.cells #[(.slice A0_0 l0_0.length c0_0), .int .u32 a0_1] 25 (0, 0))) ∧ Aside0 (Below w.heap.size w w'))
        case atStart => exact ⟨(0), (by first | rfl | (simp; done) | (simp [*]; done)), H', ⟨Nat.le_refl _⟩, ⟨by (with_reducible repeat (first | refine blk_drewN ?_ _ | refine blk_drew ?_ | refine blk_alloc ?_ _)); exact BK240.out⟩, ⟨by repeat (first | (with_reducible first | exact HB.out | apply below_alloc | apply pw_below_drewN | apply below_drew1 | refine below_set ?_ GE240.out) | exact HB.out)⟩⟩
        case round =>
          clear H'
          try clear c1
          try clear p2
          try clear c4
          try clear c4b0
          try clear c4b1
          try clear c9
          try clear hcz5_0
          try clear hcz5_1
          try clear hcz7_0
          try clear hcz7_1
          try clear hfz5_0
          try clear hfz5_1
          try clear hfz7_0
          try clear hfz7_1
          try clear p2
          obtain ⟨x3_2, rfl, HA, HK2, BK240, HB⟩ := hrel
          cases gk with
          | zero => exact absurd HA.out (by simp [hurdleref10_Right.l0])
          | succ k2 =>
            have H := HA.out
            clear HA
            simp only [hurdleref10_Right.l0] at H
            by_cases c10 : x3_2 < (l0_0.length : Int)
            · rw [if_pos c10] at H
              have c10b0 : decide (x3_2 < (l0_0.length : Int)) = true := decide_eq_true c10
              clear c10
              by_cases c11 : 0 ≤ x3_2
              · rw [if_pos c11] at H
                have c11b0 : decide (0 ≤ x3_2) = true := decide_eq_true c11
                clear c11
                have HC12 := Aside0.mk H
                clear H
                have hcz13_0 : wr.cell? ⟨gb240, 0, none⟩ = some (.slice A0_0 l0_0.length c0_0) := (blk_cell BK240.out 0).trans rfl
                have hcz13_1 : wr.cell? ⟨gb240, 1, none⟩ = some (.int .u32 a0_1) := (blk_cell BK240.out 1).trans rfl
                have hfz13_0 := blk_frozen BK240.out 0
                have hfz13_1 := blk_frozen BK240.out 1
                have p242 : 0 ≤ (x3_2 : Int) := of_decide_eq_true (by first | (with_reducible assumption) | assumption)
                have q242 : x3_2 < (l0_0.length : Int) := of_decide_eq_true (by first | (with_reducible assumption) | assumption)
                obtain ⟨ad242, A242_2, c242_2, e242, hx242_0, hx242_1, hx242_2, hx242_3, hl242_2, hi242_2⟩ := at_T40 HR0_0.out x3_2 p242 q242
                cases e242
                replace hx242_0 := (HB.out.cell (World.block_lt_of_cell? w _ hx242_0)).trans hx242_0
                replace hx242_1 := (HB.out.cell (World.block_lt_of_cell? w _ hx242_1)).trans hx242_1
                replace hx242_2 := (HB.out.cell (World.block_lt_of_cell? w _ hx242_2)).trans hx242_2
                replace hx242_3 := (HB.out.cell (World.block_lt_of_cell? w _ hx242_3)).trans hx242_3
                have HR242_2 := Aside0.mk hi242_2
                have HC242_2 := Aside0.mk hl242_2
                clear hi242_2 hl242_2
                replace p242 := eq_true p242
                replace q242 := eq_true q242
                go_upto_region 7 with (first | ((with_reducible refine gate_dst (N := 4) rfl ?_); refine box_event ?hg (N := 4) ?hd (cs := #[.int .u32 0, .int .u32 0, .slice none 0 0, .int .u32 0]) (t := 40) ?hr ?_; (case hd => rfl); (case hg => rfl); (case hr => first | (go_simp; done) | (go_simp; rfl)); intro gb243 hg w14 hbox hb; have n0_ := Aside0.mk (blk_below (g := gb240) (o := .cells #[.slice (some ad242) l0_0.length c0_0, .int .u32 a0_1] 25 (0, 0)) (by (with_reducible repeat (first | refine blk_drewN ?_ _ | refine blk_drew ?_ | refine blk_alloc ?_ _)); exact BK240.out) hb); have n1_ := Aside0.mk (below_step (by repeat (first | (with_reducible first | exact HB.out | apply below_alloc | apply pw_below_drewN | apply below_drew1 | refine below_set ?_ GE240.out) | exact HB.out)) hb); have n2_ := Aside0.mk (hbox); have n3_ := Aside0.mk ((by rw [hg]; exact (below_size (by repeat (first | (with_reducible first | exact HB.out | apply below_alloc | apply pw_below_drewN | apply below_drew1 | refine below_set ?_ GE240.out) | exact HB.out))) : w.heap.size ≤ gb243)); have n4_ := Aside0.mk ((by rw [hg]; exact (below_size (by repeat (first | (with_reducible first | exact HB.out | apply below_alloc | apply pw_below_drewN | apply below_drew1 | refine below_set ?_ GE240.out) | exact HB.out))) : w.heap.size ≤ gb243)); have n5_ := Aside0.mk ((by rw [hg]; exact Nat.ne_of_lt (blk_lt (g := gb240) (o := .cells #[.slice (some ad242) l0_0.length c0_0, .int .u32 a0_1] 25 (0, 0)) (by (with_reducible repeat (first | refine blk_drewN ?_ _ | refine blk_drew ?_ | refine blk_alloc ?_ _)); exact BK240.out)) : gb240 ≠ gb243)); have n6_ := Aside0.mk ((by rw [hg]; exact Nat.ne_of_gt (blk_lt (g := gb240) (o := .cells #[.slice (some ad242) l0_0.length c0_0, .int .u32 a0_1] 25 (0, 0)) (by (with_reducible repeat (first | refine blk_drewN ?_ _ | refine blk_drew ?_ | refine blk_alloc ?_ _)); exact BK240.out)) : gb243 ≠ gb240)); clear BK240; clear HB; have BK240 := n0_; have HB := n1_; have BK243 := n2_; have GW243 := n3_; have GE243 := n4_; have NB240_243 := n5_; have NB243_240 := n6_; clear n0_ n1_ n2_ n3_ n4_ n5_ n6_; clear hb hbox hg; have hnb15 := NB243_240.out; have hnc15 := NB240_243.out; have hcz16_0 : w14.cell? ⟨gb243, 0, none⟩ = some (.int .u32 0) := (blk_cell BK243.out 0).trans rfl; have hcz16_1 : w14.cell? ⟨gb243, 1, none⟩ = some (.int .u32 0) := (blk_cell BK243.out 1).trans rfl; have hcz16_2 : w14.cell? ⟨gb243, 2, none⟩ = some (.slice none 0 0) := (blk_cell BK243.out 2).trans rfl; have hcz16_3 : w14.cell? ⟨gb243, 3, none⟩ = some (.int .u32 0) := (blk_cell BK243.out 3).trans rfl; have hfz16_0 := blk_frozen BK243.out 0; have hfz16_1 := blk_frozen BK243.out 1; have hfz16_2 := blk_frozen BK243.out 2; have hfz16_3 := blk_frozen BK243.out 3))
                (try simp only [Act.put, List.setIfInBounds_toArray, List.set_cons_zero, List.set_cons_succ])
                go_cut [37] (fun v37 wc => ∃ (kq : Nat) (x37_11 : Bool), v37 = .bool x37_11 ∧ Aside0 (hurdleref10_Right.j2 kq x3_2 x37_11 l0_0 a0_1 ((rd_T40 l0_0 x3_2).f0) ((rd_T40 l0_0 x3_2).f1) ((rd_T40 l0_0 x3_2).f2) ((rd_T40 l0_0 x3_2).f3) = some r) ∧ Aside0 (kq ≤ k2) ∧ Aside0 (wc.heap[gb240]? = some (.cells #[(.slice (some ad242) l0_0.length c0_0), .int .u32 a0_1] 25 (0, 0))) ∧ Aside0 (wc.heap[gb243]? = some (.cells #[.int .u32 ((rd_T40 l0_0 x3_2).f0), .int .u32 ((rd_T40 l0_0 x3_2).f1), (.slice A242_2 ((rd_T40 l0_0 x3_2).f2).length c242_2), .int .u32 ((rd_T40 l0_0 x3_2).f3)] 40 (0, 0))) ∧ Aside0 (Below w.heap.size w wc))
                case first =>
                  have H := HC12.out
                  clear HC12
                  by_cases c17 : (((rd_T40 l0_0 x3_2).f2).length : Int) > 4
                  · rw [if_pos c17] at H
                    have c17b0 : decide (4 < (((rd_T40 l0_0 x3_2).f2).length : Int)) = true := decide_eq_true c17
                    have c17b1 : decide (4 < ((rd_T40 l0_0 x3_2).f2).length) = true := decide_eq_true (by omega)
                    clear c17
                    (first | rw [c17b0] | (simp only [i64_w, i32_w]; rw [c17b0]) | skip)
                    have H' := Aside0.mk H
                    clear H
                    have hnb18 := NB243_240.out
                    have hnc18 := NB240_243.out
                    have hcz19_0 : w14.cell? ⟨gb243, 0, none⟩ = some (.int .u32 0) := (blk_cell BK243.out 0).trans rfl
                    have hcz19_1 : w14.cell? ⟨gb243, 1, none⟩ = some (.int .u32 0) := (blk_cell BK243.out 1).trans rfl
                    have hcz19_2 : w14.cell? ⟨gb243, 2, none⟩ = some (.slice none 0 0) := (blk_cell BK243.out 2).trans rfl
                    have hcz19_3 : w14.cell? ⟨gb243, 3, none⟩ = some (.int .u32 0) := (blk_cell BK243.out 3).trans rfl
                    have hfz19_0 := blk_frozen BK243.out 0
                    have hfz19_1 := blk_frozen BK243.out 1
                    have hfz19_2 := blk_frozen BK243.out 2
                    have hfz19_3 := blk_frozen BK243.out 3
                    go_wp2
                    go_meet
                    case rel => exact ⟨_, (true), (by first | rfl | (simp; done) | (simp [*]; done)), H', ⟨by have := HJ1.out; have := HK2.out; first | omega | exact Nat.le_refl _⟩, ⟨by (with_reducible repeat (first | refine blk_drewN ?_ _ | refine blk_drew ?_ | refine blk_alloc ?_ _)); refine blk_far ?_ NB240_243.out _; (with_reducible repeat (first | refine blk_drewN ?_ _ | refine blk_drew ?_ | refine blk_alloc ?_ _)); refine blk_far ?_ NB240_243.out _; (with_reducible repeat (first | refine blk_drewN ?_ _ | refine blk_drew ?_ | refine blk_alloc ?_ _)); refine blk_far ?_ NB240_243.out _; (with_reducible repeat (first | refine blk_drewN ?_ _ | refine blk_drew ?_ | refine blk_alloc ?_ _)); refine blk_far ?_ NB240_243.out _; (with_reducible repeat (first | refine blk_drewN ?_ _ | refine blk_drew ?_ | refine blk_alloc ?_ _)); exact BK240.out⟩, ⟨by (with_reducible repeat (first | refine blk_drewN ?_ _ | refine blk_drew ?_ | refine blk_alloc ?_ _)); refine blk_put (cs := #[.int .u32 ((rd_T40 l0_0 x3_2).f0), .int .u32 ((rd_T40 l0_0 x3_2).f1), .slice A242_2 ((rd_T40 l0_0 x3_2).f2).length c242_2, .int .u32 0]) ?_ 3 _ rfl; (with_reducible repeat (first | refine blk_drewN ?_ _ | refine blk_drew ?_ | refine blk_alloc ?_ _)); refine blk_put (cs := #[.int .u32 ((rd_T40 l0_0 x3_2).f0), .int .u32 ((rd_T40 l0_0 x3_2).f1), .slice none 0 0, .int .u32 0]) ?_ 2 _ rfl; (with_reducible repeat (first | refine blk_drewN ?_ _ | refine blk_drew ?_ | refine blk_alloc ?_ _)); refine blk_put (cs := #[.int .u32 ((rd_T40 l0_0 x3_2).f0), .int .u32 0, .slice none 0 0, .int .u32 0]) ?_ 1 _ rfl; (with_reducible repeat (first | refine blk_drewN ?_ _ | refine blk_drew ?_ | refine blk_alloc ?_ _)); refine blk_put (cs := #[.int .u32 0, .int .u32 0, .slice none 0 0, .int .u32 0]) ?_ 0 _ rfl; (with_reducible repeat (first | refine blk_drewN ?_ _ | refine blk_drew ?_ | refine blk_alloc ?_ _)); exact BK243.out⟩, ⟨by repeat (first | (with_reducible first | exact HB.out | apply below_alloc | apply pw_below_drewN | apply below_drew1 | refine below_set ?_ GE240.out | refine below_set ?_ GE243.out) | exact HB.out)⟩⟩
                  · rw [if_neg c17] at H
                    have c17b0 : decide (4 < (((rd_T40 l0_0 x3_2).f2).length : Int)) = false := decide_eq_false c17
                    have c17b1 : decide (4 < ((rd_T40 l0_0 x3_2).f2).length) = false := decide_eq_false (by omega)
                    clear c17
                    (first | rw [c17b0] | (simp only [i64_w, i32_w]; rw [c17b0]) | skip)
                    replace H := Option.bind_eq_some_iff.mp H
                    obtain ⟨t244, A200, H⟩ := H
                    replace H : (hurdleref10_Right.j2 k2 x3_2 (t244.toList == ([] : List UInt8)) l0_0 a0_1 ((rd_T40 l0_0 x3_2).f0) ((rd_T40 l0_0 x3_2).f1) ((rd_T40 l0_0 x3_2).f2) ((rd_T40 l0_0 x3_2).f3)) = some r := H
                    have A20 := Aside0.mk A200
                    clear A200
                    have H' := Aside0.mk H
                    clear H
                    have hnb21 := NB243_240.out
                    have hnc21 := NB240_243.out
                    have hcz22_0 : w14.cell? ⟨gb243, 0, none⟩ = some (.int .u32 0) := (blk_cell BK243.out 0).trans rfl
                    have hcz22_1 : w14.cell? ⟨gb243, 1, none⟩ = some (.int .u32 0) := (blk_cell BK243.out 1).trans rfl
                    have hcz22_2 : w14.cell? ⟨gb243, 2, none⟩ = some (.slice none 0 0) := (blk_cell BK243.out 2).trans rfl
                    have hcz22_3 : w14.cell? ⟨gb243, 3, none⟩ = some (.int .u32 0) := (blk_cell BK243.out 3).trans rfl
                    have hfz22_0 := blk_frozen BK243.out 0
                    have hfz22_1 := blk_frozen BK243.out 1
                    have hfz22_2 := blk_frozen BK243.out 2
                    have hfz22_3 := blk_frozen BK243.out 3
                    go_wp2_with (first | (go_at_call 33; (with_reducible refine (hurdleref09_Action.calls k2 ((rd_T40 l0_0 x3_2).f3) t244 _ A20.out).mono ?_); rintro e w23 ⟨rfl, hb⟩; have n0_ := Aside0.mk (blk_below (g := gb240) (o := .cells #[.slice (some ad242) l0_0.length c0_0, .int .u32 a0_1] 25 (0, 0)) (by (with_reducible repeat (first | refine blk_drewN ?_ _ | refine blk_drew ?_ | refine blk_alloc ?_ _)); refine blk_far ?_ NB240_243.out _; (with_reducible repeat (first | refine blk_drewN ?_ _ | refine blk_drew ?_ | refine blk_alloc ?_ _)); refine blk_far ?_ NB240_243.out _; (with_reducible repeat (first | refine blk_drewN ?_ _ | refine blk_drew ?_ | refine blk_alloc ?_ _)); refine blk_far ?_ NB240_243.out _; (with_reducible repeat (first | refine blk_drewN ?_ _ | refine blk_drew ?_ | refine blk_alloc ?_ _)); refine blk_far ?_ NB240_243.out _; (with_reducible repeat (first | refine blk_drewN ?_ _ | refine blk_drew ?_ | refine blk_alloc ?_ _)); exact BK240.out) hb); have n1_ := Aside0.mk (blk_below (g := gb243) (o := .cells #[.int .u32 ((rd_T40 l0_0 x3_2).f0), .int .u32 ((rd_T40 l0_0 x3_2).f1), .slice A242_2 ((rd_T40 l0_0 x3_2).f2).length c242_2, .int .u32 ((rd_T40 l0_0 x3_2).f3)] 40 (0, 0)) (by (with_reducible repeat (first | refine blk_drewN ?_ _ | refine blk_drew ?_ | refine blk_alloc ?_ _)); refine blk_put (cs := #[.int .u32 ((rd_T40 l0_0 x3_2).f0), .int .u32 ((rd_T40 l0_0 x3_2).f1), .slice A242_2 ((rd_T40 l0_0 x3_2).f2).length c242_2, .int .u32 0]) ?_ 3 _ rfl; (with_reducible repeat (first | refine blk_drewN ?_ _ | refine blk_drew ?_ | refine blk_alloc ?_ _)); refine blk_put (cs := #[.int .u32 ((rd_T40 l0_0 x3_2).f0), .int .u32 ((rd_T40 l0_0 x3_2).f1), .slice none 0 0, .int .u32 0]) ?_ 2 _ rfl; (with_reducible repeat (first | refine blk_drewN ?_ _ | refine blk_drew ?_ | refine blk_alloc ?_ _)); refine blk_put (cs := #[.int .u32 ((rd_T40 l0_0 x3_2).f0), .int .u32 0, .slice none 0 0, .int .u32 0]) ?_ 1 _ rfl; (with_reducible repeat (first | refine blk_drewN ?_ _ | refine blk_drew ?_ | refine blk_alloc ?_ _)); refine blk_put (cs := #[.int .u32 0, .int .u32 0, .slice none 0 0, .int .u32 0]) ?_ 0 _ rfl; (with_reducible repeat (first | refine blk_drewN ?_ _ | refine blk_drew ?_ | refine blk_alloc ?_ _)); exact BK243.out) hb); have n2_ := Aside0.mk (below_step (by repeat (first | (with_reducible first | exact HB.out | apply below_alloc | apply pw_below_drewN | apply below_drew1 | refine below_set ?_ GE240.out | refine below_set ?_ GE243.out) | exact HB.out)) hb); clear BK240; clear BK243; clear HB; have BK240 := n0_; have BK243 := n1_; have HB := n2_; clear n0_ n1_ n2_; (try clear hb); (try clear hb2); (try clear hk); (try clear hi)))
                    go_meet
                    case rel => exact ⟨_, ((t244.toList == ([] : List UInt8))), (by first | rfl | (simp; done) | (simp [*]; done)), H', ⟨by have := HJ1.out; have := HK2.out; first | omega | exact Nat.le_refl _⟩, ⟨by (with_reducible repeat (first | refine blk_drewN ?_ _ | refine blk_drew ?_ | refine blk_alloc ?_ _)); exact BK240.out⟩, ⟨by (with_reducible repeat (first | refine blk_drewN ?_ _ | refine blk_drew ?_ | refine blk_alloc ?_ _)); exact BK243.out⟩, ⟨by repeat (first | (with_reducible first | exact HB.out | apply below_alloc | apply pw_below_drewN | apply below_drew1 | refine below_set ?_ GE240.out | refine below_set ?_ GE243.out) | exact HB.out)⟩⟩
                case rest =>
                  clear HC12
                  try clear c1
                  try clear c2
                  try clear p2
                  try clear q2
                  try clear hx2
                  try clear c4
                  try clear c4b0
                  try clear c4b1
                  try clear c9
                  try clear c10
                  try clear c10b0
                  try clear c11
                  try clear c11b0
                  try clear c15
                  try clear c17
                  try clear c17b0
                  try clear c17b1
                  try clear c18
                  try clear c21
                  try clear hcz13_0
                  try clear hcz13_1
                  try clear hcz16_0
                  try clear hcz16_1
                  try clear hcz16_2
                  try clear hcz16_3
                  try clear hcz19_0
                  try clear hcz19_1
                  try clear hcz19_2
                  try clear hcz19_3
                  try clear hcz22_0
                  try clear hcz22_1
                  try clear hcz22_2
                  try clear hcz22_3
                  try clear hcz5_0
                  try clear hcz5_1
                  try clear hcz7_0
                  try clear hcz7_1
                  try clear hfz13_0
                  try clear hfz13_1
                  try clear hfz16_0
                  try clear hfz16_1
                  try clear hfz16_2
                  try clear hfz16_3
                  try clear hfz19_0
                  try clear hfz19_1
                  try clear hfz19_2
                  try clear hfz19_3
                  try clear hfz22_0
                  try clear hfz22_1
                  try clear hfz22_2
                  try clear hfz22_3
                  try clear hfz5_0
                  try clear hfz5_1
                  try clear hfz7_0
                  try clear hfz7_1
                  try clear hx242_0
                  try clear hx242_1
                  try clear hx242_2
                  try clear hx242_3
                  try clear p2
                  try clear p242
                  try clear q242
                  obtain ⟨kq, x37_11, rfl, HA, HJ11, BK240, BK243, HB⟩ := hcut
                  cases kq with
                  | zero => exact absurd HA.out (by simp [hurdleref10_Right.j2])
                  | succ kj11 =>
                    have H := HA.out
                    clear HA
                    simp only [hurdleref10_Right.j2] at H
                    by_cases c24 : x37_11 = true
                    · subst c24
                      have H1 : (some false) = some r := by rw [if_pos rfl] at H; exact H
                      clear H
                      have H := H1
                      clear H1
                      obtain rfl := Option.some.inj H
                      go_wp2
                      go_ret
                      exact ⟨by first | rfl | (simp [errW_none, errW_some] <;> rfl) | (simp [*, errW_none, errW_some] <;> rfl), by repeat (first | (with_reducible first | exact HB.out | apply below_alloc | apply pw_below_drewN | apply below_drew1 | refine below_set ?_ GE240.out | refine below_set ?_ GE243.out) | exact HB.out)⟩
                    · replace c24 := Bool.eq_false_iff.mpr c24
                      subst c24
                      have H1 : (hurdleref10_Right.l1 kj11 x3_2 0 l0_0 a0_1 ((rd_T40 l0_0 x3_2).f0) ((rd_T40 l0_0 x3_2).f1) ((rd_T40 l0_0 x3_2).f2) ((rd_T40 l0_0 x3_2).f3)) = some r := by rw [if_neg (show ¬ (false = true) by decide)] at H; exact H
                      clear H
                      have H := H1
                      clear H1
                      have H' := Aside0.mk H
                      clear H
                      go_wp2
                      go_loopg [5] kj11 (fun kq v5 w' => ∃ (x5_4 : Int), v5 = .int .i64 x5_4 ∧ Aside0 (hurdleref10_Right.l1 kq x3_2 x5_4 l0_0 a0_1 ((rd_T40 l0_0 x3_2).f0) ((rd_T40 l0_0 x3_2).f1) ((rd_T40 l0_0 x3_2).f2) ((rd_T40 l0_0 x3_2).f3) = some r) ∧ Aside0 (kq ≤ kj11) ∧ Aside0 (w'.heap[gb240]? = some (.cells #[(.slice (some ad242) l0_0.length c0_0), .int .u32 a0_1] 25 (0, 0))) ∧ Aside0 (w'.heap[gb243]? = some (.cells #[.int .u32 ((rd_T40 l0_0 x3_2).f0), .int .u32 ((rd_T40 l0_0 x3_2).f1), (.slice A242_2 ((rd_T40 l0_0 x3_2).f2).length c242_2), .int .u32 ((rd_T40 l0_0 x3_2).f3)] 40 (0, 0))) ∧ Aside0 (Below w.heap.size w w'))
                      case atStart => exact ⟨(0), (by first | rfl | (simp; done) | (simp [*]; done)), H', ⟨Nat.le_refl _⟩, ⟨by (with_reducible repeat (first | refine blk_drewN ?_ _ | refine blk_drew ?_ | refine blk_alloc ?_ _)); exact BK240.out⟩, ⟨by (with_reducible repeat (first | refine blk_drewN ?_ _ | refine blk_drew ?_ | refine blk_alloc ?_ _)); exact BK243.out⟩, ⟨by repeat (first | (with_reducible first | exact HB.out | apply below_alloc | apply pw_below_drewN | apply below_drew1 | refine below_set ?_ GE240.out | refine below_set ?_ GE243.out) | exact HB.out)⟩⟩
                      case round =>
                        clear H'
                        try clear c1
                        try clear c2
                        try clear p2
                        try clear q2
                        try clear hx2
                        try clear c4
                        try clear c4b0
                        try clear c4b1
                        try clear c9
                        try clear c10
                        try clear c10b0
                        try clear c11
                        try clear c11b0
                        try clear c15
                        try clear c17
                        try clear c17b0
                        try clear c17b1
                        try clear c18
                        try clear c21
                        try clear c24
                        try clear p24
                        try clear q24
                        try clear hx24
                        try clear hcz13_0
                        try clear hcz13_1
                        try clear hcz16_0
                        try clear hcz16_1
                        try clear hcz16_2
                        try clear hcz16_3
                        try clear hcz19_0
                        try clear hcz19_1
                        try clear hcz19_2
                        try clear hcz19_3
                        try clear hcz22_0
                        try clear hcz22_1
                        try clear hcz22_2
                        try clear hcz22_3
                        try clear hcz5_0
                        try clear hcz5_1
                        try clear hcz7_0
                        try clear hcz7_1
                        try clear hfz13_0
                        try clear hfz13_1
                        try clear hfz16_0
                        try clear hfz16_1
                        try clear hfz16_2
                        try clear hfz16_3
                        try clear hfz19_0
                        try clear hfz19_1
                        try clear hfz19_2
                        try clear hfz19_3
                        try clear hfz22_0
                        try clear hfz22_1
                        try clear hfz22_2
                        try clear hfz22_3
                        try clear hfz5_0
                        try clear hfz5_1
                        try clear hfz7_0
                        try clear hfz7_1
                        try clear hx242_0
                        try clear hx242_1
                        try clear hx242_2
                        try clear hx242_3
                        try clear p2
                        try clear p242
                        try clear q2
                        try clear q242
                        obtain ⟨x5_4, rfl, HA, HK4, BK240, BK243, HB⟩ := hrel
                        cases gk with
                        | zero => exact absurd HA.out (by simp [hurdleref10_Right.l1])
                        | succ k4 =>
                          have H := HA.out
                          clear HA
                          simp only [hurdleref10_Right.l1] at H
                          by_cases c25 : x5_4 < (((rd_T40 l0_0 x3_2).f2).length : Int)
                          · rw [if_pos c25] at H
                            have c25b0 : decide (x5_4 < (((rd_T40 l0_0 x3_2).f2).length : Int)) = true := decide_eq_true c25
                            clear c25
                            by_cases c26 : 0 ≤ x5_4
                            · rw [if_pos c26] at H
                              have c26b0 : decide (0 ≤ x5_4) = true := decide_eq_true c26
                              clear c26
                              replace H := Option.bind_eq_some_iff.mp H
                              obtain ⟨t246, A270, H⟩ := H
                              replace H : (if t246 = true then (hurdleref10_Right.l1 k4 x3_2 (wrap64 (x5_4 + 1)) l0_0 a0_1 ((rd_T40 l0_0 x3_2).f0) ((rd_T40 l0_0 x3_2).f1) ((rd_T40 l0_0 x3_2).f2) ((rd_T40 l0_0 x3_2).f3)) else (some false)) = some r := H
                              have A27 := Aside0.mk A270
                              clear A270
                              by_cases c28 : t246 = true
                              · subst c28
                                have H1 : (hurdleref10_Right.l1 k4 x3_2 (wrap64 (x5_4 + 1)) l0_0 a0_1 ((rd_T40 l0_0 x3_2).f0) ((rd_T40 l0_0 x3_2).f1) ((rd_T40 l0_0 x3_2).f2) ((rd_T40 l0_0 x3_2).f3)) = some r := by rw [if_pos rfl] at H; exact H
                                clear H
                                have H := H1
                                clear H1
                                have H' := Aside0.mk H
                                clear H
                                have hnb29 := NB243_240.out
                                have hnc29 := NB240_243.out
                                have hcz30_0 : wr.cell? ⟨gb243, 0, none⟩ = some (.int .u32 ((rd_T40 l0_0 x3_2).f0)) := (blk_cell BK243.out 0).trans rfl
                                have hcz30_1 : wr.cell? ⟨gb243, 1, none⟩ = some (.int .u32 ((rd_T40 l0_0 x3_2).f1)) := (blk_cell BK243.out 1).trans rfl
                                have hcz30_2 : wr.cell? ⟨gb243, 2, none⟩ = some (.slice A242_2 ((rd_T40 l0_0 x3_2).f2).length c242_2) := (blk_cell BK243.out 2).trans rfl
                                have hcz30_3 : wr.cell? ⟨gb243, 3, none⟩ = some (.int .u32 ((rd_T40 l0_0 x3_2).f3)) := (blk_cell BK243.out 3).trans rfl
                                have hfz30_0 := blk_frozen BK243.out 0
                                have hfz30_1 := blk_frozen BK243.out 1
                                have hfz30_2 := blk_frozen BK243.out 2
                                have hfz30_3 := blk_frozen BK243.out 3
                                have p245 : 0 ≤ (x5_4 : Int) := of_decide_eq_true (by first | (with_reducible assumption) | assumption)
                                have q245 : x5_4 < (((rd_T40 l0_0 x3_2).f2).length : Int) := of_decide_eq_true (by first | (with_reducible assumption) | assumption)
                                obtain ⟨ad245, e245, hx245_0, hx245_1, hx245_2, hx245_3⟩ := at_T61 HR242_2.out x5_4 p245 q245
                                cases e245
                                replace hx245_0 := (HB.out.cell (World.block_lt_of_cell? w _ hx245_0)).trans hx245_0
                                replace hx245_1 := (HB.out.cell (World.block_lt_of_cell? w _ hx245_1)).trans hx245_1
                                replace hx245_2 := (HB.out.cell (World.block_lt_of_cell? w _ hx245_2)).trans hx245_2
                                replace hx245_3 := (HB.out.cell (World.block_lt_of_cell? w _ hx245_3)).trans hx245_3
                                replace p245 := eq_true p245
                                replace q245 := eq_true q245
                                go_wp2_with (first | ((with_reducible refine gate_callee (f := 34) rfl ?_); refine goesL_ (some 50) rfl rfl Try.func34 (by kernel_rfl) rfl #[.agg #[.int .i64 ((rd_T61 ((rd_T40 l0_0 x3_2).f2) x5_4).f0), .int .i64 ((rd_T61 ((rd_T40 l0_0 x3_2).f2) x5_4).f1), .int .u64 ((rd_T61 ((rd_T40 l0_0 x3_2).f2) x5_4).f2), .int .u64 ((rd_T61 ((rd_T40 l0_0 x3_2).f2) x5_4).f3)]] rfl (by (try simp only [List.map_toArray, List.map_cons, List.map_nil]); first | done | rfl | (simp only [List.length_drop, List.length_take]; rfl)) ?_; (with_reducible refine (hurdleref08_Right.calls ((rd_T61 ((rd_T40 l0_0 x3_2).f2) x5_4).f0) ((rd_T61 ((rd_T40 l0_0 x3_2).f2) x5_4).f1) ((rd_T61 ((rd_T40 l0_0 x3_2).f2) x5_4).f2) ((rd_T61 ((rd_T40 l0_0 x3_2).f2) x5_4).f3) true _ A27.out).mono ?_); rintro e w31 ⟨rfl, hb⟩; refine ⟨_, rfl, ?_⟩; have n0_ := Aside0.mk (blk_below (g := gb240) (o := .cells #[.slice (some ad242) l0_0.length c0_0, .int .u32 a0_1] 25 (0, 0)) (by (with_reducible repeat (first | refine blk_drewN ?_ _ | refine blk_drew ?_ | refine blk_alloc ?_ _)); exact BK240.out) hb); have n1_ := Aside0.mk (blk_below (g := gb243) (o := .cells #[.int .u32 ((rd_T40 l0_0 x3_2).f0), .int .u32 ((rd_T40 l0_0 x3_2).f1), .slice (some ad245) ((rd_T40 l0_0 x3_2).f2).length c242_2, .int .u32 ((rd_T40 l0_0 x3_2).f3)] 40 (0, 0)) (by (with_reducible repeat (first | refine blk_drewN ?_ _ | refine blk_drew ?_ | refine blk_alloc ?_ _)); exact BK243.out) hb); have n2_ := Aside0.mk (below_step (by repeat (first | (with_reducible first | exact HB.out | apply below_alloc | apply pw_below_drewN | apply below_drew1 | refine below_set ?_ GE240.out | refine below_set ?_ GE243.out) | exact HB.out)) hb); clear BK240; clear BK243; clear HB; have BK240 := n0_; have BK243 := n1_; have HB := n2_; clear n0_ n1_ n2_; (try clear hb); (try clear hb2); (try clear hk); (try clear hi)))
                                go_roundg k4
                                case measure => have := HJ1.out; have := HK2.out; have := HJ11.out; have := HK4.out; omega
                                case rel => exact ⟨(wrap64 (x5_4 + 1)), (by first | rfl | (simp; done) | (simp [*]; done)), H', ⟨by have := HJ1.out; have := HK2.out; have := HJ11.out; have := HK4.out; omega⟩, ⟨by (with_reducible repeat (first | refine blk_drewN ?_ _ | refine blk_drew ?_ | refine blk_alloc ?_ _)); exact BK240.out⟩, ⟨by (with_reducible repeat (first | refine blk_drewN ?_ _ | refine blk_drew ?_ | refine blk_alloc ?_ _)); exact BK243.out⟩, ⟨by repeat (first | (with_reducible first | exact HB.out | apply below_alloc | apply pw_below_drewN | apply below_drew1 | refine below_set ?_ GE240.out | refine below_set ?_ GE243.out) | exact HB.out)⟩⟩
                              · replace c28 := Bool.eq_false_iff.mpr c28
                                subst c28
                                have H1 : (some false) = some r := by rw [if_neg (show ¬ (false = true) by decide)] at H; exact H
                                clear H
                                have H := H1
                                clear H1
                                obtain rfl := Option.some.inj H
                                have hnb32 := NB243_240.out
                                have hnc32 := NB240_243.out
                                have hcz33_0 : wr.cell? ⟨gb243, 0, none⟩ = some (.int .u32 ((rd_T40 l0_0 x3_2).f0)) := (blk_cell BK243.out 0).trans rfl
                                have hcz33_1 : wr.cell? ⟨gb243, 1, none⟩ = some (.int .u32 ((rd_T40 l0_0 x3_2).f1)) := (blk_cell BK243.out 1).trans rfl
                                have hcz33_2 : wr.cell? ⟨gb243, 2, none⟩ = some (.slice A242_2 ((rd_T40 l0_0 x3_2).f2).length c242_2) := (blk_cell BK243.out 2).trans rfl
                                have hcz33_3 : wr.cell? ⟨gb243, 3, none⟩ = some (.int .u32 ((rd_T40 l0_0 x3_2).f3)) := (blk_cell BK243.out 3).trans rfl
                                have hfz33_0 := blk_frozen BK243.out 0
                                have hfz33_1 := blk_frozen BK243.out 1
                                have hfz33_2 := blk_frozen BK243.out 2
                                have hfz33_3 := blk_frozen BK243.out 3
                                have p245 : 0 ≤ (x5_4 : Int) := of_decide_eq_true (by first | (with_reducible assumption) | assumption)
                                have q245 : x5_4 < (((rd_T40 l0_0 x3_2).f2).length : Int) := of_decide_eq_true (by first | (with_reducible assumption) | assumption)
                                obtain ⟨ad245, e245, hx245_0, hx245_1, hx245_2, hx245_3⟩ := at_T61 HR242_2.out x5_4 p245 q245
                                cases e245
                                replace hx245_0 := (HB.out.cell (World.block_lt_of_cell? w _ hx245_0)).trans hx245_0
                                replace hx245_1 := (HB.out.cell (World.block_lt_of_cell? w _ hx245_1)).trans hx245_1
                                replace hx245_2 := (HB.out.cell (World.block_lt_of_cell? w _ hx245_2)).trans hx245_2
                                replace hx245_3 := (HB.out.cell (World.block_lt_of_cell? w _ hx245_3)).trans hx245_3
                                replace p245 := eq_true p245
                                replace q245 := eq_true q245
                                go_wp2_with (first | ((with_reducible refine gate_callee (f := 34) rfl ?_); refine goesL_ (some 50) rfl rfl Try.func34 (by kernel_rfl) rfl #[.agg #[.int .i64 ((rd_T61 ((rd_T40 l0_0 x3_2).f2) x5_4).f0), .int .i64 ((rd_T61 ((rd_T40 l0_0 x3_2).f2) x5_4).f1), .int .u64 ((rd_T61 ((rd_T40 l0_0 x3_2).f2) x5_4).f2), .int .u64 ((rd_T61 ((rd_T40 l0_0 x3_2).f2) x5_4).f3)]] rfl (by (try simp only [List.map_toArray, List.map_cons, List.map_nil]); first | done | rfl | (simp only [List.length_drop, List.length_take]; rfl)) ?_; (with_reducible refine (hurdleref08_Right.calls ((rd_T61 ((rd_T40 l0_0 x3_2).f2) x5_4).f0) ((rd_T61 ((rd_T40 l0_0 x3_2).f2) x5_4).f1) ((rd_T61 ((rd_T40 l0_0 x3_2).f2) x5_4).f2) ((rd_T61 ((rd_T40 l0_0 x3_2).f2) x5_4).f3) false _ A27.out).mono ?_); rintro e w34 ⟨rfl, hb⟩; refine ⟨_, rfl, ?_⟩; have n0_ := Aside0.mk (blk_below (g := gb240) (o := .cells #[.slice (some ad242) l0_0.length c0_0, .int .u32 a0_1] 25 (0, 0)) (by (with_reducible repeat (first | refine blk_drewN ?_ _ | refine blk_drew ?_ | refine blk_alloc ?_ _)); exact BK240.out) hb); have n1_ := Aside0.mk (blk_below (g := gb243) (o := .cells #[.int .u32 ((rd_T40 l0_0 x3_2).f0), .int .u32 ((rd_T40 l0_0 x3_2).f1), .slice (some ad245) ((rd_T40 l0_0 x3_2).f2).length c242_2, .int .u32 ((rd_T40 l0_0 x3_2).f3)] 40 (0, 0)) (by (with_reducible repeat (first | refine blk_drewN ?_ _ | refine blk_drew ?_ | refine blk_alloc ?_ _)); exact BK243.out) hb); have n2_ := Aside0.mk (below_step (by repeat (first | (with_reducible first | exact HB.out | apply below_alloc | apply pw_below_drewN | apply below_drew1 | refine below_set ?_ GE240.out | refine below_set ?_ GE243.out) | exact HB.out)) hb); clear BK240; clear BK243; clear HB; have BK240 := n0_; have BK243 := n1_; have HB := n2_; clear n0_ n1_ n2_; (try clear hb); (try clear hb2); (try clear hk); (try clear hi)))
                                go_ret
                                exact ⟨by first | rfl | (simp [errW_none, errW_some] <;> rfl) | (simp [*, errW_none, errW_some] <;> rfl), by repeat (first | (with_reducible first | exact HB.out | apply below_alloc | apply pw_below_drewN | apply below_drew1 | refine below_set ?_ GE240.out | refine below_set ?_ GE243.out) | exact HB.out)⟩
                            · rw [if_neg c26] at H
                              exact absurd H (by simp)
                          · rw [if_neg c25] at H
                            have c25b0 : decide (x5_4 < (((rd_T40 l0_0 x3_2).f2).length : Int)) = false := decide_eq_false c25
                            clear c25
                            have H' := Aside0.mk H
                            clear H
                            have hnb35 := NB243_240.out
                            have hnc35 := NB240_243.out
                            have hcz36_0 : wr.cell? ⟨gb243, 0, none⟩ = some (.int .u32 ((rd_T40 l0_0 x3_2).f0)) := (blk_cell BK243.out 0).trans rfl
                            have hcz36_1 : wr.cell? ⟨gb243, 1, none⟩ = some (.int .u32 ((rd_T40 l0_0 x3_2).f1)) := (blk_cell BK243.out 1).trans rfl
                            have hcz36_2 : wr.cell? ⟨gb243, 2, none⟩ = some (.slice A242_2 ((rd_T40 l0_0 x3_2).f2).length c242_2) := (blk_cell BK243.out 2).trans rfl
                            have hcz36_3 : wr.cell? ⟨gb243, 3, none⟩ = some (.int .u32 ((rd_T40 l0_0 x3_2).f3)) := (blk_cell BK243.out 3).trans rfl
                            have hfz36_0 := blk_frozen BK243.out 0
                            have hfz36_1 := blk_frozen BK243.out 1
                            have hfz36_2 := blk_frozen BK243.out 2
                            have hfz36_3 := blk_frozen BK243.out 3
                            go_wp2
                            go_roundg k4
                            case measure => have := HJ1.out; have := HK2.out; have := HJ11.out; have := HK4.out; omega
                            case rel => exact ⟨(wrap64 (x3_2 + 1)), (by first | rfl | (simp; done) | (simp [*]; done)), H', ⟨by have := HJ1.out; have := HK2.out; have := HJ11.out; have := HK4.out; omega⟩, ⟨by (with_reducible repeat (first | refine blk_drewN ?_ _ | refine blk_drew ?_ | refine blk_alloc ?_ _)); exact BK240.out⟩, ⟨by repeat (first | (with_reducible first | exact HB.out | apply below_alloc | apply pw_below_drewN | apply below_drew1 | refine below_set ?_ GE240.out | refine below_set ?_ GE243.out) | exact HB.out)⟩⟩
              · rw [if_neg c11] at H
                exact absurd H (by simp)
            · rw [if_neg c10] at H
              have c10b0 : decide (x3_2 < (l0_0.length : Int)) = false := decide_eq_false c10
              clear c10
              obtain rfl := Option.some.inj H
              have hcz37_0 : wr.cell? ⟨gb240, 0, none⟩ = some (.slice A0_0 l0_0.length c0_0) := (blk_cell BK240.out 0).trans rfl
              have hcz37_1 : wr.cell? ⟨gb240, 1, none⟩ = some (.int .u32 a0_1) := (blk_cell BK240.out 1).trans rfl
              have hfz37_0 := blk_frozen BK240.out 0
              have hfz37_1 := blk_frozen BK240.out 1
              go_wp2
              go_ret
              exact ⟨by first | rfl | (simp [errW_none, errW_some] <;> rfl) | (simp [*, errW_none, errW_some] <;> rfl), by repeat (first | (with_reducible first | exact HB.out | apply below_alloc | apply pw_below_drewN | apply below_drew1 | refine below_set ?_ GE240.out) | exact HB.out)⟩
end Go.Proofs.Ytekpbgmmogpbdaa.P
set_option linter.unusedVariables false
set_option linter.unusedSimpArgs false
set_option maxRecDepth 100000
namespace Go.Proofs.Ytekpbgmmogpbdaa.H
open Go.RowKit Go.Proofs.Ytekpbgmmogpbdaa.P Go.Proofs.YtekpbgmmogpbdaaW.PrintWords Go.Proofs.YtekpbgmmogpbdaaW.PrintMore
theorem ref_textP (n : Nat) (h : n < 18446744073709551616) : H.hurdleref01_Text.f (n : Int) = some (strOfNums (textL n)) := by
  unfold H.hurdleref01_Text.f
  rw [if_pos (by unfold u64P; omega)]
  rfl
theorem ref_action (v : Nat) (hv : v < 4294967296) (k : Nat) (hk : 30 ≤ k) : hurdleref09_Action.f k (v : Int) = some (actOf v).1 := by
  obtain ⟨k, rfl⟩ : ∃ m, k = m + 1 := ⟨k - 1, by omega⟩
  unfold hurdleref09_Action.f
  have hmid : ∀ b : Bool, b = true ∧ 327680 ≤ v ∧ v ≤ 331775 ∨ b = false ∧ ¬ (327680 ≤ v ∧ v ≤ 331775) → hurdleref09_Action.j0 (k + 1) (v : Int) b = some (actOf v).1 := by
    intro b hb
    simp only [hurdleref09_Action.j0]
    rcases act_cases v hv with ⟨p, hp, h2, h3, _⟩ | ⟨d, hd, hvd, h3⟩ | ⟨hm, hmm, h3⟩
    · rw [h3]
      have hf : b = false := by
        rcases hb with ⟨_, h⟩ | ⟨h, _⟩
        · exact absurd h2 (AL_mid (v : Int) (by omega) (by omega) p hp)
        · exact h
      subst hf
      rw [if_neg (by decide)]
      rw [← h2]
      unfold AL at hp
      simp only [List.mem_cons, List.not_mem_nil, or_false] at hp
      rcases hp with rfl | rfl | rfl | rfl
      · rw [if_pos rfl]
      · rw [if_neg (by decide), if_pos rfl]
      · rw [if_neg (by decide), if_neg (by decide), if_pos rfl]
      · rw [if_neg (by decide), if_neg (by decide), if_neg (by decide), if_pos rfl]
    · rw [h3]
      have ht : b = true := by
        rcases hb with ⟨h, _⟩ | ⟨_, h⟩
        · exact h
        · exact absurd ⟨by omega, by omega⟩ h
      subst ht
      rw [if_pos rfl, show ((v : Int) - 327680) % 4294967296 = ((d : Nat) : Int) by omega, ref_textP d (by omega)]
      simp only [Option.bind_some]
      have hs := textL_size d (by omega)
      rw [if_pos (by omega)]
      rfl
    · rw [h3]
      have hf : b = false := by
        rcases hb with ⟨_, h⟩ | ⟨h, _⟩
        · exact absurd h hmm
        · exact h
      subst hf
      have m0 := hm (⟨#[107, 105, 108, 108]⟩, 0) (by unfold AL; simp)
      have m1 := hm (⟨#[116, 114, 97, 112]⟩, 196608) (by unfold AL; simp)
      have m2 := hm (⟨#[108, 111, 103]⟩, 2147221504) (by unfold AL; simp)
      have m3 := hm (⟨#[97, 108, 108, 111, 119]⟩, 2147418112) (by unfold AL; simp)
      rw [if_neg (by decide), if_neg (fun h => m0 h.symm), if_neg (fun h => m1 h.symm), if_neg (fun h => m2 h.symm), if_neg (fun h => m3 h.symm)]
  by_cases h1 : (v : Int) ≥ 327680
  · rw [if_pos h1]
    by_cases h2 : (v : Int) ≤ 331775
    · rw [decide_eq_true h2]; exact hmid true (.inl ⟨rfl, by omega, by omega⟩)
    · rw [decide_eq_false h2]; exact hmid false (.inr ⟨rfl, by omega⟩)
  · rw [if_neg h1]; exact hmid false (.inr ⟨rfl, by omega⟩)
end Go.Proofs.Ytekpbgmmogpbdaa.H
set_option linter.unusedVariables false
set_option linter.unusedSimpArgs false
set_option maxRecDepth 100000
namespace Go.Proofs.Ytekpbgmmogpbdaa.H
open Go.RowKit Go.Proofs.Ytekpbgmmogpbdaa.P Go.Proofs.YtekpbgmmogpbdaaW.PrintWords
theorem action_ev {v : Int} (h : u32P v) : Ev (fun k => hurdleref09_Action.f k v) (actOf v.toNat).1 := by
  obtain ⟨hn, he⟩ := toN h
  refine ⟨30, fun k hk => ?_⟩
  have := ref_action v.toNat hn k hk
  rw [he] at this
  exact this
theorem action_empty {v : Int} (h : u32P v) : ((actOf v.toNat).1.toList == ([] : List UInt8)) = !(actB v) := by
  unfold actB
  rcases act_cases v.toNat (toN h).1 with ⟨p, hp, h2, h3, h4⟩ | ⟨d, hd, h2, h3⟩ | ⟨h1, h2, h3⟩
  · rw [h3, ByteArray.toList_eq]
    cases hh : p.1.data.toList with
    | nil => exact absurd hh h4
    | cons a l => rfl
  · rw [h3, ByteArray.toList_eq, ba_add]
    rfl
  · rw [h3, ByteArray.toList_eq]; rfl
theorem ref_Right_f (a b c d : Int) : P.hurdleref08_Right.f a b c d = some (rightB a b) := by
  unfold P.hurdleref08_Right.f rightB
  by_cases h1 : a ≥ 0
  · rw [if_pos h1]
    by_cases h2 : a ≤ 5
    · rw [if_pos h2]
      by_cases h3 : b ≥ 0
      · rw [if_pos h3]; simp [h1, h3]; omega
      · rw [if_neg h3]; simp [h1]; omega
    · rw [if_neg h2]; simp; omega
  · rw [if_neg h1]; simp [h1]
theorem refRight_l1 (df : Int) (L : List S40) (x : S40) (i : Nat) (hi : i ≤ 1000) (hl : x.f2.length ≤ 1000) (r : Bool) (hn : Ev (fun k => hurdleref10_Right.l0 k ((i + 1 : Nat) : Int) L df) r) : ∀ (d j : Nat), j + d = x.f2.length →
    Ev (fun k => hurdleref10_Right.l1 k (i : Int) (j : Int) L df x.f0 x.f1 x.f2 x.f3) (condsB (x.f2.drop j) && r) := by
  intro d
  induction d with
  | zero =>
    intro j hj
    refine Ev.step (f := fun k => hurdleref10_Right.l0 k ((i + 1 : Nat) : Int) L df) (fun k => ?_) ?_
    · simp only [hurdleref10_Right.l1]
      rw [if_neg (by omega), wS i (by omega)]
    · rw [List.drop_eq_nil_of_le (by omega)]
      exact hn
  | succ d ih =>
    intro j hj
    have hlt : j < x.f2.length := by omega
    have hd : x.f2.drop j = x.f2[j] :: x.f2.drop (j + 1) := List.drop_eq_getElem_cons hlt
    by_cases hr : rightB x.f2[j].f0 x.f2[j].f1 = true
    · refine Ev.step (f := fun k => hurdleref10_Right.l1 k (i : Int) ((j + 1 : Nat) : Int) L df x.f0 x.f1 x.f2 x.f3) (fun k => ?_) ?_
      · simp only [hurdleref10_Right.l1]
        rw [if_pos (by omega), if_pos (by omega), rd61 x.f2 j hlt, ref_Right_f, Option.bind_some, if_pos hr, wS j (by omega)]
      · rw [hd, show condsB (x.f2[j] :: x.f2.drop (j + 1)) = condsB (x.f2.drop (j + 1)) by simp only [condsB, List.all_cons, hr, Bool.true_and]]
        exact ih (j + 1) (by omega)
    · refine Ev.step (f := fun _ => some false) (fun k => ?_) ?_
      · simp only [hurdleref10_Right.l1]
        rw [if_pos (by omega), if_pos (by omega), rd61 x.f2 j hlt, ref_Right_f, Option.bind_some, if_neg hr]
      · rw [hd, show condsB (x.f2[j] :: x.f2.drop (j + 1)) = false by simp only [condsB, List.all_cons]; rw [Bool.eq_false_iff.2 hr]; rfl]
        exact Ev.now _
theorem refRight_l0 (df : Int) (L : List S40) (hl : L.length ≤ 1000) (hk : ∀ x ∈ L, u32P x.f3) : ∀ (d i : Nat), i + d = L.length →
    Ev (fun k => hurdleref10_Right.l0 k (i : Int) L df) (rulesB (L.drop i)) := by
  intro d
  induction d with
  | zero =>
    intro i hi
    refine Ev.step (f := fun _ => some true) (fun k => ?_) ?_
    · simp only [hurdleref10_Right.l0]
      rw [if_neg (by omega)]
    · rw [List.drop_eq_nil_of_le (by omega)]
      exact Ev.now _
  | succ d ih =>
    intro i hi
    have hlt : i < L.length := by omega
    have hd : L.drop i = L[i] :: L.drop (i + 1) := List.drop_eq_getElem_cons hlt
    have hx := hk L[i] (List.getElem_mem hlt)
    have hrest := ih (i + 1) (by omega)
    have hj2 : ∀ b : Bool, (b = false → L[i].f2.length ≤ 1000) → Ev (fun k => hurdleref10_Right.j2 k (i : Int) b L df L[i].f0 L[i].f1 L[i].f2 L[i].f3) (!b && (condsB L[i].f2 && rulesB (L.drop (i + 1)))) := by
      intro b hb
      cases b with
      | true => exact Ev.step (f := fun _ => some false) (fun k => by simp only [hurdleref10_Right.j2, if_true]) (Ev.now _)
      | false =>
        refine Ev.step (f := fun k => hurdleref10_Right.l1 k (i : Int) ((0 : Nat) : Int) L df L[i].f0 L[i].f1 L[i].f2 L[i].f3) (fun k => ?_) ?_
        · simp only [hurdleref10_Right.j2, Bool.false_eq_true, if_false]; rfl
        · exact refRight_l1 df L L[i] i (by omega) (hb rfl) _ hrest L[i].f2.length 0 (by omega)
    rw [hd, show rulesB (L[i] :: L.drop (i + 1)) = (ruleB L[i] && rulesB (L.drop (i + 1))) by simp only [rulesB, List.all_cons]]
    by_cases h4 : (L[i].f2.length : Int) > 4
    · refine Ev.step (f := fun k => hurdleref10_Right.j2 k (i : Int) true L df L[i].f0 L[i].f1 L[i].f2 L[i].f3) (fun k => ?_) ?_
      · simp only [hurdleref10_Right.l0]
        rw [if_pos (by omega), if_pos (by omega), rd40 L i hlt, if_pos h4]
      · have : ruleB L[i] = false := by
          unfold ruleB
          rw [show decide (L[i].f2.length ≤ 4) = false from decide_eq_false (by omega)]
          simp
        rw [this]
        exact hj2 true (by simp)
    · refine Ev.step (f := fun k => (hurdleref09_Action.f k L[i].f3).bind fun t => hurdleref10_Right.j2 k (i : Int) (t.toList == ([] : List UInt8)) L df L[i].f0 L[i].f1 L[i].f2 L[i].f3) (fun k => ?_) ?_
      · simp only [hurdleref10_Right.l0]
        rw [if_pos (by omega), if_pos (by omega), rd40 L i hlt, if_neg h4]
      · refine Ev.bind (action_ev hx) ?_
        rw [action_empty hx]
        have := hj2 (!(actB L[i].f3)) (fun _ => by omega)
        rw [show (ruleB L[i] && rulesB (L.drop (i + 1))) = (!!(actB L[i].f3) && (condsB L[i].f2 && rulesB (L.drop (i + 1)))) by
          unfold ruleB
          rw [show decide (L[i].f2.length ≤ 4) = true from decide_eq_true (by omega), Bool.not_not, Bool.and_true]
          cases condsB L[i].f2 <;> cases actB L[i].f3 <;> rfl]
        exact this
theorem refRight_any (L : List S40) (df : Int) (h : polK L df) : Ev (fun k => hurdleref10_Right.f k L df) (polB L df) := by
  unfold hurdleref10_Right.f polB
  by_cases h64 : (L.length : Int) > 64
  · rw [show decide (L.length ≤ 64) = false from decide_eq_false (by omega), Bool.and_false, Bool.and_false]
    exact Ev_pos h64 (Ev.step (f := fun _ => some false) (fun k => by simp only [hurdleref10_Right.j0, if_true]) (Ev.now _))
  · have h0 := refRight_l0 df L (by omega) (fun x hx => (h.1 x hx).2.2.1) L.length 0 (by omega)
    have hj : ∀ b : Bool, Ev (fun k => hurdleref10_Right.j0 k b L df) (!b && rulesB L) := by
      intro b
      cases b with
      | true => exact Ev.step (f := fun _ => some false) (fun k => by simp only [hurdleref10_Right.j0, if_true]) (Ev.now _)
      | false => exact Ev.step (f := fun k => hurdleref10_Right.l0 k ((0 : Nat) : Int) L df) (fun k => by simp only [hurdleref10_Right.j0, Bool.false_eq_true, if_false]; rfl) h0
    rw [show decide (L.length ≤ 64) = true from decide_eq_true (by omega), Bool.and_true]
    refine Ev_neg h64 (Ev.bind (action_ev h.2) ?_)
    rw [action_empty h.2, Bool.and_comm]
    have := hj (!(actB df))
    rw [Bool.not_not] at this
    exact this
end Go.Proofs.Ytekpbgmmogpbdaa.H
set_option linter.unusedVariables false
set_option linter.unusedSimpArgs false
set_option maxRecDepth 100000
namespace Go.Proofs.Ytekpbgmmogpbdaa.H
open Go.RowKit Go.Proofs.Ytekpbgmmogpbdaa.P Go.Proofs.YtekpbgmmogpbdaaW.PrintWords
def small (L : List S40) : Prop := L.length ≤ 1000 ∧ ∀ x ∈ L, x.f2.length ≤ 1000
open Classical in
noncomputable def denote_First.f (l0_0 : List S40) (a0_1 : Int) (a1_0 : Int) (a1_1 : Int) (a1_2 : Int) (a1_3 : Int) (a1_4 : Int) (a1_5 : Int) (a1_6 : Int) (a1_7 : Int) (a1_8 : Int) : Option (Int × Int) := if polK l0_0 a0_1 ∧ small l0_0 ∧ IsDat a1_0 a1_1 a1_2 [a1_3, a1_4, a1_5, a1_6, a1_7, a1_8] then some (firstR l0_0 a0_1 a1_0 a1_1 [a1_3, a1_4, a1_5, a1_6, a1_7, a1_8]) else none
theorem denote_First.calls (A0_0 : Option Addr) (c0_0 : Nat) (l0_0 : List S40) (a0_1 : Int) (a1_0 : Int) (a1_1 : Int) (a1_2 : Int) (a1_3 : Int) (a1_4 : Int) (a1_5 : Int) (a1_6 : Int) (a1_7 : Int) (a1_8 : Int) (r1 : Int) (r2 : Int) (w : World) (hr0_0 : Kd.C k40 w A0_0 l0_0.length l0_0) (hc0_0 : l0_0.length ≤ c0_0) (h : denote_First.f l0_0 a0_1 a1_0 a1_1 a1_2 a1_3 a1_4 a1_5 a1_6 a1_7 a1_8 = some (r1, r2)) :
    Calls Try.prog 24 #[.agg #[.slice A0_0 l0_0.length c0_0, .int .u32 a0_1], .agg #[.int .u32 a1_0, .int .u32 a1_1, .int .u64 a1_2, .int .u64 a1_3, .int .u64 a1_4, .int .u64 a1_5, .int .u64 a1_6, .int .u64 a1_7, .int .u64 a1_8]] w fun e w' => e = .returned (.tuple #[.int .i64 r1, .int .i64 r2]) ∧ Below w.heap.size w w' := by
  unfold denote_First.f at h
  split at h
  · rename_i hh
    have he := Option.some.inj h
    have := First_lit A0_0 c0_0 l0_0 a0_1 a1_0 a1_1 a1_2 a1_3 a1_4 a1_5 a1_6 a1_7 a1_8 hh.2.2 hh.1 hh.2.1.1 hh.2.1.2 hc0_0 w hr0_0
    rw [he] at this
    exact this
  · simp at h
open Classical in
noncomputable def denote_Judge.f (l0_0 : List S40) (a0_1 : Int) (a1_0 : Int) (a1_1 : Int) (a1_2 : Int) (a1_3 : Int) (a1_4 : Int) (a1_5 : Int) (a1_6 : Int) (a1_7 : Int) (a1_8 : Int) : Option (Int × Int) := if polK l0_0 a0_1 ∧ small l0_0 ∧ IsDat a1_0 a1_1 a1_2 [a1_3, a1_4, a1_5, a1_6, a1_7, a1_8] then some (judgeR l0_0 a0_1 a1_0 a1_1 [a1_3, a1_4, a1_5, a1_6, a1_7, a1_8]) else none
theorem denote_Judge.calls (A0_0 : Option Addr) (c0_0 : Nat) (l0_0 : List S40) (a0_1 : Int) (a1_0 : Int) (a1_1 : Int) (a1_2 : Int) (a1_3 : Int) (a1_4 : Int) (a1_5 : Int) (a1_6 : Int) (a1_7 : Int) (a1_8 : Int) (r1 : Int) (r2 : Int) (w : World) (hr0_0 : Kd.C k40 w A0_0 l0_0.length l0_0) (hc0_0 : l0_0.length ≤ c0_0) (h : denote_Judge.f l0_0 a0_1 a1_0 a1_1 a1_2 a1_3 a1_4 a1_5 a1_6 a1_7 a1_8 = some (r1, r2)) :
    Calls Try.prog 25 #[.agg #[.slice A0_0 l0_0.length c0_0, .int .u32 a0_1], .agg #[.int .u32 a1_0, .int .u32 a1_1, .int .u64 a1_2, .int .u64 a1_3, .int .u64 a1_4, .int .u64 a1_5, .int .u64 a1_6, .int .u64 a1_7, .int .u64 a1_8]] w fun e w' => e = .returned (.tuple #[.int .u32 r1, .int .i64 r2]) ∧ Below w.heap.size w w' := by
  unfold denote_Judge.f at h
  split at h
  · rename_i hh
    have he := Option.some.inj h
    have := Judge_lit A0_0 c0_0 l0_0 a0_1 a1_0 a1_1 a1_2 a1_3 a1_4 a1_5 a1_6 a1_7 a1_8 hh.2.2 hh.1 hh.2.1.1 hh.2.1.2 hc0_0 w hr0_0
    rw [he] at this
    exact this
  · simp at h
open Classical in
noncomputable def denote_Fits.f (a0_0 : Int) (a0_1 : Int) (l0_2 : List S61) (a0_3 : Int) (a1_0 : Int) (a1_1 : Int) (a1_2 : Int) (a1_3 : Int) (a1_4 : Int) (a1_5 : Int) (a1_6 : Int) (a1_7 : Int) (a1_8 : Int) : Option (Bool) := if (∀ x ∈ l0_2, u64P x.f2) ∧ IsDat a1_0 a1_1 a1_2 [a1_3, a1_4, a1_5, a1_6, a1_7, a1_8] then some (fitsB a0_0 a0_1 l0_2 a1_0 a1_1 [a1_3, a1_4, a1_5, a1_6, a1_7, a1_8]) else none
theorem denote_Fits.calls (a0_0 : Int) (a0_1 : Int) (A0_2 : Option Addr) (c0_2 : Nat) (l0_2 : List S61) (a0_3 : Int) (a1_0 : Int) (a1_1 : Int) (a1_2 : Int) (a1_3 : Int) (a1_4 : Int) (a1_5 : Int) (a1_6 : Int) (a1_7 : Int) (a1_8 : Int) (r : Bool) (w : World) (hr0_2 : Kd.C k61 w A0_2 l0_2.length l0_2) (hc0_2 : l0_2.length ≤ c0_2) (h : denote_Fits.f a0_0 a0_1 l0_2 a0_3 a1_0 a1_1 a1_2 a1_3 a1_4 a1_5 a1_6 a1_7 a1_8 = some r) :
    Calls Try.prog 26 #[.agg #[.int .u32 a0_0, .int .u32 a0_1, .slice A0_2 l0_2.length c0_2, .int .u32 a0_3], .agg #[.int .u32 a1_0, .int .u32 a1_1, .int .u64 a1_2, .int .u64 a1_3, .int .u64 a1_4, .int .u64 a1_5, .int .u64 a1_6, .int .u64 a1_7, .int .u64 a1_8]] w fun e w' => e = .returned (.bool r) ∧ Below w.heap.size w w' := by
  unfold denote_Fits.f at h
  split at h
  · rename_i hh
    have he := Option.some.inj h
    have := Fits_lit a0_0 a0_1 a0_3 A0_2 c0_2 l0_2 a1_0 a1_1 a1_2 a1_3 a1_4 a1_5 a1_6 a1_7 a1_8 hh.2 hh.1 hc0_2 w hr0_2
    rw [he] at this
    exact this
  · simp at h
open Classical in
noncomputable def hurdleref11_Fits.f (a0_0 : Int) (a0_1 : Int) (l0_2 : List S61) (a0_3 : Int) (a1_0 : Int) (a1_1 : Int) (a1_2 : Int) (a1_3 : Int) (a1_4 : Int) (a1_5 : Int) (a1_6 : Int) (a1_7 : Int) (a1_8 : Int) : Option (Bool) := if (∀ x ∈ l0_2, u64P x.f2) ∧ IsDat a1_0 a1_1 a1_2 [a1_3, a1_4, a1_5, a1_6, a1_7, a1_8] then some (fitsB a0_0 a0_1 l0_2 a1_0 a1_1 [a1_3, a1_4, a1_5, a1_6, a1_7, a1_8]) else none
theorem hurdleref11_Fits.calls (a0_0 : Int) (a0_1 : Int) (A0_2 : Option Addr) (c0_2 : Nat) (l0_2 : List S61) (a0_3 : Int) (a1_0 : Int) (a1_1 : Int) (a1_2 : Int) (a1_3 : Int) (a1_4 : Int) (a1_5 : Int) (a1_6 : Int) (a1_7 : Int) (a1_8 : Int) (r : Bool) (w : World) (hr0_2 : Kd.C k61 w A0_2 l0_2.length l0_2) (hc0_2 : l0_2.length ≤ c0_2) (h : hurdleref11_Fits.f a0_0 a0_1 l0_2 a0_3 a1_0 a1_1 a1_2 a1_3 a1_4 a1_5 a1_6 a1_7 a1_8 = some r) :
    Calls Try.prog 27 #[.agg #[.int .u32 a0_0, .int .u32 a0_1, .slice A0_2 l0_2.length c0_2, .int .u32 a0_3], .agg #[.int .u32 a1_0, .int .u32 a1_1, .int .u64 a1_2, .int .u64 a1_3, .int .u64 a1_4, .int .u64 a1_5, .int .u64 a1_6, .int .u64 a1_7, .int .u64 a1_8]] w fun e w' => e = .returned (.bool r) ∧ Below w.heap.size w w' := by
  unfold hurdleref11_Fits.f at h
  split at h
  · rename_i hh
    have he := Option.some.inj h
    have := RefFits_lit a0_0 a0_1 a0_3 A0_2 c0_2 l0_2 a1_0 a1_1 a1_2 a1_3 a1_4 a1_5 a1_6 a1_7 a1_8 hh.2 hh.1 hc0_2 w hr0_2
    rw [he] at this
    exact this
  · simp at h
open Classical in
noncomputable def hurdleref11_First.f (l0_0 : List S40) (a0_1 : Int) (a1_0 : Int) (a1_1 : Int) (a1_2 : Int) (a1_3 : Int) (a1_4 : Int) (a1_5 : Int) (a1_6 : Int) (a1_7 : Int) (a1_8 : Int) : Option (Int) := if polK l0_0 a0_1 ∧ IsDat a1_0 a1_1 a1_2 [a1_3, a1_4, a1_5, a1_6, a1_7, a1_8] then some (firstI l0_0 (fitX a1_0 a1_1 [a1_3, a1_4, a1_5, a1_6, a1_7, a1_8])) else none
theorem hurdleref11_First.calls (A0_0 : Option Addr) (c0_0 : Nat) (l0_0 : List S40) (a0_1 : Int) (a1_0 : Int) (a1_1 : Int) (a1_2 : Int) (a1_3 : Int) (a1_4 : Int) (a1_5 : Int) (a1_6 : Int) (a1_7 : Int) (a1_8 : Int) (r : Int) (w : World) (hr0_0 : Kd.C k40 w A0_0 l0_0.length l0_0) (hc0_0 : l0_0.length ≤ c0_0) (h : hurdleref11_First.f l0_0 a0_1 a1_0 a1_1 a1_2 a1_3 a1_4 a1_5 a1_6 a1_7 a1_8 = some r) :
    Calls Try.prog 28 #[.agg #[.slice A0_0 l0_0.length c0_0, .int .u32 a0_1], .agg #[.int .u32 a1_0, .int .u32 a1_1, .int .u64 a1_2, .int .u64 a1_3, .int .u64 a1_4, .int .u64 a1_5, .int .u64 a1_6, .int .u64 a1_7, .int .u64 a1_8]] w fun e w' => e = .returned (.int .i64 r) ∧ Below w.heap.size w w' := by
  unfold hurdleref11_First.f at h
  split at h
  · rename_i hh
    have he := Option.some.inj h
    have := RefFirst_lit A0_0 c0_0 l0_0 a0_1 a1_0 a1_1 a1_2 a1_3 a1_4 a1_5 a1_6 a1_7 a1_8 hh.2 hh.1 hc0_0 w hr0_0
    rw [he] at this
    exact this
  · simp at h
open Classical in
noncomputable def hurdleref11_Judge.f (l0_0 : List S40) (a0_1 : Int) (a1_0 : Int) (a1_1 : Int) (a1_2 : Int) (a1_3 : Int) (a1_4 : Int) (a1_5 : Int) (a1_6 : Int) (a1_7 : Int) (a1_8 : Int) : Option (Int) := if polK l0_0 a0_1 ∧ IsDat a1_0 a1_1 a1_2 [a1_3, a1_4, a1_5, a1_6, a1_7, a1_8] then some (judgeV l0_0 a0_1 a1_0 a1_1 [a1_3, a1_4, a1_5, a1_6, a1_7, a1_8]) else none
theorem hurdleref11_Judge.calls (A0_0 : Option Addr) (c0_0 : Nat) (l0_0 : List S40) (a0_1 : Int) (a1_0 : Int) (a1_1 : Int) (a1_2 : Int) (a1_3 : Int) (a1_4 : Int) (a1_5 : Int) (a1_6 : Int) (a1_7 : Int) (a1_8 : Int) (r : Int) (w : World) (hr0_0 : Kd.C k40 w A0_0 l0_0.length l0_0) (hc0_0 : l0_0.length ≤ c0_0) (h : hurdleref11_Judge.f l0_0 a0_1 a1_0 a1_1 a1_2 a1_3 a1_4 a1_5 a1_6 a1_7 a1_8 = some r) :
    Calls Try.prog 29 #[.agg #[.slice A0_0 l0_0.length c0_0, .int .u32 a0_1], .agg #[.int .u32 a1_0, .int .u32 a1_1, .int .u64 a1_2, .int .u64 a1_3, .int .u64 a1_4, .int .u64 a1_5, .int .u64 a1_6, .int .u64 a1_7, .int .u64 a1_8]] w fun e w' => e = .returned (.int .u32 r) ∧ Below w.heap.size w w' := by
  unfold hurdleref11_Judge.f at h
  split at h
  · rename_i hh
    have he := Option.some.inj h
    have := RefJudge_lit A0_0 c0_0 l0_0 a0_1 a1_0 a1_1 a1_2 a1_3 a1_4 a1_5 a1_6 a1_7 a1_8 hh.2 hh.1 hc0_0 w hr0_0
    rw [he] at this
    exact this
  · simp at h
open Classical in
noncomputable def hurdlelaw10_Great.f (l0_0 : List S40) (a0_1 : Int) : Option (Bool) := if l0_0.length ≤ 9223372036854775807 then some (greatB l0_0) else none
theorem hurdlelaw10_Great.calls (A0_0 : Option Addr) (c0_0 : Nat) (l0_0 : List S40) (a0_1 : Int) (r : Bool) (w : World) (hr0_0 : Kd.C k40 w A0_0 l0_0.length l0_0) (hc0_0 : l0_0.length ≤ c0_0) (h : hurdlelaw10_Great.f l0_0 a0_1 = some r) :
    Calls Try.prog 14 #[.agg #[.slice A0_0 l0_0.length c0_0, .int .u32 a0_1]] w fun e w' => e = .returned (.bool r) ∧ Below w.heap.size w w' := by
  unfold hurdlelaw10_Great.f at h
  split at h
  · rename_i hh
    have he := Option.some.inj h
    obtain ⟨k, hk⟩ := Ev.rounds (great_ev l0_0 a0_1 hh)
    rw [he] at hk
    exact (P.hurdlelaw10_Great.calls k A0_0 c0_0 l0_0 a0_1 r w hr0_0 hc0_0 hk).mono (fun e w' h => h)
  · simp at h
open Classical in
noncomputable def hurdleref10_Right.f (l0_0 : List S40) (a0_1 : Int) : Option (Bool) := if polK l0_0 a0_1 then some (polB l0_0 a0_1) else none
theorem hurdleref10_Right.calls (A0_0 : Option Addr) (c0_0 : Nat) (l0_0 : List S40) (a0_1 : Int) (r : Bool) (w : World) (hr0_0 : Kd.C k40 w A0_0 l0_0.length l0_0) (hc0_0 : l0_0.length ≤ c0_0) (h : hurdleref10_Right.f l0_0 a0_1 = some r) :
    Calls Try.prog 17 #[.agg #[.slice A0_0 l0_0.length c0_0, .int .u32 a0_1]] w fun e w' => e = .returned (.bool r) ∧ Below w.heap.size w w' := by
  unfold hurdleref10_Right.f at h
  split at h
  · rename_i hh
    have he := Option.some.inj h
    obtain ⟨k, hk⟩ := Ev.rounds (refRight_any l0_0 a0_1 hh)
    rw [he] at hk
    exact (P.hurdleref10_Right.calls k A0_0 c0_0 l0_0 a0_1 r w hr0_0 hc0_0 hk).mono (fun e w' h => h)
  · simp at h
def hurdlelaw11_knows.f : Option Bool := some true
theorem hurdlelaw11_knows.calls (r : Bool) (w : World) (h : hurdlelaw11_knows.f = some r) : Calls Try.prog 23 #[] w fun e w' => e = .returned (.bool r) ∧ Below w.heap.size w w' := by
  obtain rfl := Option.some.inj h
  exact Knows11 w
end Go.Proofs.Ytekpbgmmogpbdaa.H
namespace Go.Proofs.Ytekpbgmmogpbdaa.D
open Go.RowKit Go.Proofs.Ytekpbgmmogpbdaa.H Go.Proofs.YtekpbgmmogpbdaaW.PrintWords Go.Proofs.YtekpbgmmogpbdaaW.PrintLast Go.Proofs.YtekpbgmmogpbdaaW.PrintMore
open Go.Proofs.Ytekpbgmmogpbdaa.P (errW errW_none errW_some info40 info61 S61 z61 k61 k61_open k61_mk k61_mkM rd_T61 at_T61 S40 z40 k40 k40_open k40_openM k40_mk k40_mkM rd_T40 at_T40)
attribute [local go_sem] max2_int min2_int max_two min_two max_three min_three max_four min_four
set_option linter.unusedVariables false
set_option linter.unusedSimpArgs false
noncomputable def hurdlelaw11_DenoteJudges.j0 : Nat → Bool → List (S40) → Int → Int → Int → List (S61) → Int → Int → Int → Int → Int → Int → Int → Int → Int → Int → Option (Bool)
  | 0, _, _, _, _, _, _, _, _, _, _, _, _, _, _, _, _ => none
  | k + 1, x18, x145000, x145001, x146000, x146001, x146002, x146003, x147000, x147001, x147002, x147003, x147004, x147005, x147006, x147007, x147008 => if x18 = true then ((hurdlelaw11_knows.f).bind fun t148 => (some t148)) else ((denote_First.f x145000 x145001 x147000 x147001 x147002 x147003 x147004 x147005 x147006 x147007 x147008).bind fun bt149 => ((denote_Judge.f x145000 x145001 x147000 x147001 x147002 x147003 x147004 x147005 x147006 x147007 x147008).bind fun bt151 => ((denote_Fits.f x146000 x146001 x146002 x146003 x147000 x147001 x147002 x147003 x147004 x147005 x147006 x147007 x147008).bind fun t153 => ((hurdleref11_Fits.f x146000 x146001 x146002 x146003 x147000 x147001 x147002 x147003 x147004 x147005 x147006 x147007 x147008).bind fun t154 => (if (t153 != t154) = true then (some false) else ((hurdleref10_Right.f x145000 x145001).bind fun t155 => (if t155 = true then ((hurdleref11_First.f x145000 x145001 x147000 x147001 x147002 x147003 x147004 x147005 x147006 x147007 x147008).bind fun t156 => (if bt149.1 = t156 then (if bt149.2 = 0 then ((hurdleref11_Judge.f x145000 x145001 x147000 x147001 x147002 x147003 x147004 x147005 x147006 x147007 x147008).bind fun t157 => (if bt151.1 = t157 then (if bt151.2 = 0 then ((hurdlelaw11_knows.f).bind fun t158 => (some t158)) else (some false)) else (some false))) else (some false)) else (some false))) else (if bt149.1 = 0 then (if bt149.2 = 1 then (if bt151.1 = 0 then (if bt151.2 = 1 then ((hurdlelaw11_knows.f).bind fun t159 => (some t159)) else (some false)) else (some false)) else (some false)) else (some false)))))))))
noncomputable def hurdlelaw11_DenoteJudges.f (k : Nat) (l0_0 : List (S40)) (a0_1 : Int) (a1_0 : Int) (a1_1 : Int) (l1_2 : List (S61)) (a1_3 : Int) (a2_0 : Int) (a2_1 : Int) (a2_2 : Int) (a2_3 : Int) (a2_4 : Int) (a2_5 : Int) (a2_6 : Int) (a2_7 : Int) (a2_8 : Int) : Option (Bool) := (hurdlelaw10_Great.f l0_0 a0_1).bind fun t147 => (if t147 = true then (hurdlelaw11_DenoteJudges.j0 k true l0_0 a0_1 a1_0 a1_1 l1_2 a1_3 a2_0 a2_1 a2_2 a2_3 a2_4 a2_5 a2_6 a2_7 a2_8) else (hurdlelaw11_DenoteJudges.j0 k (decide ((l1_2.length : Int) > 100)) l0_0 a0_1 a1_0 a1_1 l1_2 a1_3 a2_0 a2_1 a2_2 a2_3 a2_4 a2_5 a2_6 a2_7 a2_8))
set_option maxHeartbeats 8000000 in
set_option maxRecDepth 100000 in
theorem hurdlelaw11_DenoteJudges.calls (k : Nat) (A0_0 : Option Addr) (c0_0 : Nat) (l0_0 : List (S40)) (a0_1 : Int) (a1_0 : Int) (a1_1 : Int) (A1_2 : Option Addr) (c1_2 : Nat) (l1_2 : List (S61)) (a1_3 : Int) (a2_0 : Int) (a2_1 : Int) (a2_2 : Int) (a2_3 : Int) (a2_4 : Int) (a2_5 : Int) (a2_6 : Int) (a2_7 : Int) (a2_8 : Int) (r : Bool) (w : World) (hr0_0 : Kd.C k40 w A0_0 l0_0.length l0_0) (hc0_0 : l0_0.length ≤ c0_0) (hr1_2 : Kd.C k61 w A1_2 l1_2.length l1_2) (hc1_2 : l1_2.length ≤ c1_2) (h : hurdlelaw11_DenoteJudges.f k l0_0 a0_1 a1_0 a1_1 l1_2 a1_3 a2_0 a2_1 a2_2 a2_3 a2_4 a2_5 a2_6 a2_7 a2_8 = some r) (ht : r = true) :
    Calls Try.prog 9 #[.agg #[.slice A0_0 l0_0.length c0_0, .int .u32 a0_1], .agg #[.int .u32 a1_0, .int .u32 a1_1, .slice A1_2 l1_2.length c1_2, .int .u32 a1_3], .agg #[.int .u32 a2_0, .int .u32 a2_1, .int .u64 a2_2, .int .u64 a2_3, .int .u64 a2_4, .int .u64 a2_5, .int .u64 a2_6, .int .u64 a2_7, .int .u64 a2_8]] w fun e w' => e = .returned (.bool r) ∧ Below w.heap.size w w' := by
  have hu25 := Try.underlying25
  have hu40 := Try.underlying40
  have hu44 := Try.underlying44
  have HR0_0 := Aside0.mk hr0_0
  have HC0_0 := Aside0.mk hc0_0
  clear hr0_0 hc0_0
  have HR1_2 := Aside0.mk hr1_2
  have HC1_2 := Aside0.mk hc1_2
  clear hr1_2 hc1_2
  have HB := Aside0.mk (Below.refl w.heap.size w)
  have H : ((hurdlelaw10_Great.f l0_0 a0_1).bind fun t147 => (if t147 = true then (hurdlelaw11_DenoteJudges.j0 k true l0_0 a0_1 a1_0 a1_1 l1_2 a1_3 a2_0 a2_1 a2_2 a2_3 a2_4 a2_5 a2_6 a2_7 a2_8) else (hurdlelaw11_DenoteJudges.j0 k (decide ((l1_2.length : Int) > 100)) l0_0 a0_1 a1_0 a1_1 l1_2 a1_3 a2_0 a2_1 a2_2 a2_3 a2_4 a2_5 a2_6 a2_7 a2_8))) = some r := h
  clear h
  have HC4 := Aside0.mk H
  clear H
  go_enter Try.func9, Try.ntmps9
  go_upto_region 1 with (first | ((with_reducible refine gate_dst (N := 3) rfl ?_); (try (refine gate_guard (by rfl) ?_; dsimp only)); refine box_event ?hg (N := 3) ?hd (cs := #[.slice A0_0 l0_0.length c0_0, .int .u32 a0_1]) (t := 25) ?hr ?_; (case hd => rfl); (case hg => rfl); (case hr => first | (go_simp; done) | (go_simp; rfl)); intro gb144 hg w5 hbox hb; have n0_ := Aside0.mk (below_step (by repeat (first | (with_reducible first | exact HB.out | apply below_alloc | apply pw_below_drewN | apply below_drew1) | exact HB.out)) hb); have n1_ := Aside0.mk (hbox); have n2_ := Aside0.mk ((by rw [hg]; exact (below_size (by repeat (first | (with_reducible first | exact HB.out | apply below_alloc | apply pw_below_drewN | apply below_drew1) | exact HB.out))) : w.heap.size ≤ gb144)); have n3_ := Aside0.mk ((by rw [hg]; exact (below_size (by repeat (first | (with_reducible first | exact HB.out | apply below_alloc | apply pw_below_drewN | apply below_drew1) | exact HB.out))) : w.heap.size ≤ gb144)); clear HB; have HB := n0_; have BK144 := n1_; have GW144 := n2_; have GE144 := n3_; clear n0_ n1_ n2_ n3_; clear hb hbox hg) | ((with_reducible refine gate_dst (N := 4) rfl ?_); (try (refine gate_guard (by rfl) ?_; dsimp only)); refine box_event ?hg (N := 4) ?hd (cs := #[.int .u32 a1_0, .int .u32 a1_1, .slice A1_2 l1_2.length c1_2, .int .u32 a1_3]) (t := 40) ?hr ?_; (case hd => rfl); (case hg => rfl); (case hr => first | (go_simp; done) | (go_simp; rfl)); intro gb145 hg w6 hbox hb; have n0_ := Aside0.mk (blk_below (g := gb144) (o := .cells #[.slice A0_0 l0_0.length c0_0, .int .u32 a0_1] 25 (0, 0)) (by (with_reducible repeat (first | refine blk_drewN ?_ _ | refine blk_drew ?_ | refine blk_alloc ?_ _)); exact BK144.out) hb); have n1_ := Aside0.mk (below_step (by repeat (first | (with_reducible first | exact HB.out | apply below_alloc | apply pw_below_drewN | apply below_drew1 | refine below_set ?_ GE144.out) | exact HB.out)) hb); have n2_ := Aside0.mk (hbox); have n3_ := Aside0.mk ((by rw [hg]; exact (below_size (by repeat (first | (with_reducible first | exact HB.out | apply below_alloc | apply pw_below_drewN | apply below_drew1 | refine below_set ?_ GE144.out) | exact HB.out))) : w.heap.size ≤ gb145)); have n4_ := Aside0.mk ((by rw [hg]; exact (below_size (by repeat (first | (with_reducible first | exact HB.out | apply below_alloc | apply pw_below_drewN | apply below_drew1 | refine below_set ?_ GE144.out) | exact HB.out))) : w.heap.size ≤ gb145)); have n5_ := Aside0.mk ((by rw [hg]; exact Nat.ne_of_lt (blk_lt (g := gb144) (o := .cells #[.slice A0_0 l0_0.length c0_0, .int .u32 a0_1] 25 (0, 0)) (by (with_reducible repeat (first | refine blk_drewN ?_ _ | refine blk_drew ?_ | refine blk_alloc ?_ _)); exact BK144.out)) : gb144 ≠ gb145)); have n6_ := Aside0.mk ((by rw [hg]; exact Nat.ne_of_gt (blk_lt (g := gb144) (o := .cells #[.slice A0_0 l0_0.length c0_0, .int .u32 a0_1] 25 (0, 0)) (by (with_reducible repeat (first | refine blk_drewN ?_ _ | refine blk_drew ?_ | refine blk_alloc ?_ _)); exact BK144.out)) : gb145 ≠ gb144)); clear BK144; clear HB; have BK144 := n0_; have HB := n1_; have BK145 := n2_; have GW145 := n3_; have GE145 := n4_; have NB144_145 := n5_; have NB145_144 := n6_; clear n0_ n1_ n2_ n3_ n4_ n5_ n6_; clear hb hbox hg) | ((with_reducible refine gate_dst (N := 5) rfl ?_); (try (refine gate_guard (by rfl) ?_; dsimp only)); refine box_event ?hg (N := 5) ?hd (cs := #[.int .u32 a2_0, .int .u32 a2_1, .int .u64 a2_2, .int .u64 a2_3, .int .u64 a2_4, .int .u64 a2_5, .int .u64 a2_6, .int .u64 a2_7, .int .u64 a2_8]) (t := 44) ?hr ?_; (case hd => rfl); (case hg => rfl); (case hr => first | (go_simp; done) | (go_simp; rfl)); intro gb146 hg w7 hbox hb; have n0_ := Aside0.mk (blk_below (g := gb144) (o := .cells #[.slice A0_0 l0_0.length c0_0, .int .u32 a0_1] 25 (0, 0)) (by (with_reducible repeat (first | refine blk_drewN ?_ _ | refine blk_drew ?_ | refine blk_alloc ?_ _)); exact BK144.out) hb); have n1_ := Aside0.mk (blk_below (g := gb145) (o := .cells #[.int .u32 a1_0, .int .u32 a1_1, .slice A1_2 l1_2.length c1_2, .int .u32 a1_3] 40 (0, 0)) (by (with_reducible repeat (first | refine blk_drewN ?_ _ | refine blk_drew ?_ | refine blk_alloc ?_ _)); exact BK145.out) hb); have n2_ := Aside0.mk (below_step (by repeat (first | (with_reducible first | exact HB.out | apply below_alloc | apply pw_below_drewN | apply below_drew1 | refine below_set ?_ GE144.out | refine below_set ?_ GE145.out) | exact HB.out)) hb); have n3_ := Aside0.mk (hbox); have n4_ := Aside0.mk ((by rw [hg]; exact (below_size (by repeat (first | (with_reducible first | exact HB.out | apply below_alloc | apply pw_below_drewN | apply below_drew1 | refine below_set ?_ GE144.out | refine below_set ?_ GE145.out) | exact HB.out))) : w.heap.size ≤ gb146)); have n5_ := Aside0.mk ((by rw [hg]; exact (below_size (by repeat (first | (with_reducible first | exact HB.out | apply below_alloc | apply pw_below_drewN | apply below_drew1 | refine below_set ?_ GE144.out | refine below_set ?_ GE145.out) | exact HB.out))) : w.heap.size ≤ gb146)); have n6_ := Aside0.mk ((by rw [hg]; exact Nat.ne_of_lt (blk_lt (g := gb144) (o := .cells #[.slice A0_0 l0_0.length c0_0, .int .u32 a0_1] 25 (0, 0)) (by (with_reducible repeat (first | refine blk_drewN ?_ _ | refine blk_drew ?_ | refine blk_alloc ?_ _)); exact BK144.out)) : gb144 ≠ gb146)); have n7_ := Aside0.mk ((by rw [hg]; exact Nat.ne_of_gt (blk_lt (g := gb144) (o := .cells #[.slice A0_0 l0_0.length c0_0, .int .u32 a0_1] 25 (0, 0)) (by (with_reducible repeat (first | refine blk_drewN ?_ _ | refine blk_drew ?_ | refine blk_alloc ?_ _)); exact BK144.out)) : gb146 ≠ gb144)); have n8_ := Aside0.mk ((by rw [hg]; exact Nat.ne_of_lt (blk_lt (g := gb145) (o := .cells #[.int .u32 a1_0, .int .u32 a1_1, .slice A1_2 l1_2.length c1_2, .int .u32 a1_3] 40 (0, 0)) (by (with_reducible repeat (first | refine blk_drewN ?_ _ | refine blk_drew ?_ | refine blk_alloc ?_ _)); exact BK145.out)) : gb145 ≠ gb146)); have n9_ := Aside0.mk ((by rw [hg]; exact Nat.ne_of_gt (blk_lt (g := gb145) (o := .cells #[.int .u32 a1_0, .int .u32 a1_1, .slice A1_2 l1_2.length c1_2, .int .u32 a1_3] 40 (0, 0)) (by (with_reducible repeat (first | refine blk_drewN ?_ _ | refine blk_drew ?_ | refine blk_alloc ?_ _)); exact BK145.out)) : gb146 ≠ gb145)); clear BK144; clear BK145; clear HB; have BK144 := n0_; have BK145 := n1_; have HB := n2_; have BK146 := n3_; have GW146 := n4_; have GE146 := n5_; have NB144_146 := n6_; have NB146_144 := n7_; have NB145_146 := n8_; have NB146_145 := n9_; clear n0_ n1_ n2_ n3_ n4_ n5_ n6_ n7_ n8_ n9_; clear hb hbox hg))
  (try simp only [Act.put, List.setIfInBounds_toArray, List.set_cons_zero, List.set_cons_succ])
  go_cut [18] (fun v18 wc => ∃ (kq : Nat) (x18_3 : Bool), v18 = .bool x18_3 ∧ Aside0 (hurdlelaw11_DenoteJudges.j0 kq x18_3 l0_0 a0_1 a1_0 a1_1 l1_2 a1_3 a2_0 a2_1 a2_2 a2_3 a2_4 a2_5 a2_6 a2_7 a2_8 = some r) ∧ Aside0 (kq ≤ k) ∧ Aside0 (wc.heap[gb144]? = some (.cells #[(.slice A0_0 l0_0.length c0_0), .int .u32 a0_1] 25 (0, 0))) ∧ Aside0 (wc.heap[gb145]? = some (.cells #[.int .u32 a1_0, .int .u32 a1_1, (.slice A1_2 l1_2.length c1_2), .int .u32 a1_3] 40 (0, 0))) ∧ Aside0 (wc.heap[gb146]? = some (.cells #[.int .u32 a2_0, .int .u32 a2_1, .int .u64 a2_2, .int .u64 a2_3, .int .u64 a2_4, .int .u64 a2_5, .int .u64 a2_6, .int .u64 a2_7, .int .u64 a2_8] 44 (0, 0))) ∧ Aside0 (Below w.heap.size w wc))
  case first =>
    have H := HC4.out
    clear HC4
    replace H := Option.bind_eq_some_iff.mp H
    obtain ⟨t147, A80, H⟩ := H
    replace H : (if t147 = true then (hurdlelaw11_DenoteJudges.j0 k true l0_0 a0_1 a1_0 a1_1 l1_2 a1_3 a2_0 a2_1 a2_2 a2_3 a2_4 a2_5 a2_6 a2_7 a2_8) else (hurdlelaw11_DenoteJudges.j0 k (decide ((l1_2.length : Int) > 100)) l0_0 a0_1 a1_0 a1_1 l1_2 a1_3 a2_0 a2_1 a2_2 a2_3 a2_4 a2_5 a2_6 a2_7 a2_8)) = some r := H
    have A8 := Aside0.mk A80
    clear A80
    by_cases c9 : t147 = true
    · subst c9
      have H1 : (hurdlelaw11_DenoteJudges.j0 k true l0_0 a0_1 a1_0 a1_1 l1_2 a1_3 a2_0 a2_1 a2_2 a2_3 a2_4 a2_5 a2_6 a2_7 a2_8) = some r := by rw [if_pos rfl] at H; exact H
      clear H
      have H := H1
      clear H1
      have H' := Aside0.mk H
      clear H
      have hnb10 := NB144_145.out
      have hnc10 := NB145_144.out
      have hnb11 := NB144_146.out
      have hnc11 := NB146_144.out
      have hcz12_0 : w7.cell? ⟨gb144, 0, none⟩ = some (.slice A0_0 l0_0.length c0_0) := (blk_cell BK144.out 0).trans rfl
      have hcz12_1 : w7.cell? ⟨gb144, 1, none⟩ = some (.int .u32 a0_1) := (blk_cell BK144.out 1).trans rfl
      have hfz12_0 := blk_frozen BK144.out 0
      have hfz12_1 := blk_frozen BK144.out 1
      go_wp2_with (first | ((with_reducible refine gate_callee (f := 14) rfl ?_); refine goesL_ (some 12) rfl rfl Try.func14 (by kernel_rfl) rfl #[.agg #[.slice A0_0 l0_0.length c0_0, .int .u32 a0_1]] rfl (by (try simp only [List.map_toArray, List.map_cons, List.map_nil]); first | done | rfl | (simp only [List.length_drop, List.length_take]; rfl)) ?_; (with_reducible refine (hurdlelaw10_Great.calls _ _ l0_0 a0_1 true _ ?side1 ?side2 A8.out).mono ?_); (case side1 => repeat (first | exact (Kd.C_below HR0_0.out HB.out) | (with_reducible refine Kd.C_alloc ?_ _) | (with_reducible refine Kd.C_drewN ?_ _) | (with_reducible refine Kd.C_drew ?_))); (case side2 => exact HC0_0.out); rintro e w13 ⟨rfl, hb⟩; refine ⟨_, rfl, ?_⟩; have n0_ := Aside0.mk (blk_below (g := gb144) (o := .cells #[.slice A0_0 l0_0.length c0_0, .int .u32 a0_1] 25 (0, 0)) (by (with_reducible repeat (first | refine blk_drewN ?_ _ | refine blk_drew ?_ | refine blk_alloc ?_ _)); exact BK144.out) hb); have n1_ := Aside0.mk (blk_below (g := gb145) (o := .cells #[.int .u32 a1_0, .int .u32 a1_1, .slice A1_2 l1_2.length c1_2, .int .u32 a1_3] 40 (0, 0)) (by (with_reducible repeat (first | refine blk_drewN ?_ _ | refine blk_drew ?_ | refine blk_alloc ?_ _)); exact BK145.out) hb); have n2_ := Aside0.mk (blk_below (g := gb146) (o := .cells #[.int .u32 a2_0, .int .u32 a2_1, .int .u64 a2_2, .int .u64 a2_3, .int .u64 a2_4, .int .u64 a2_5, .int .u64 a2_6, .int .u64 a2_7, .int .u64 a2_8] 44 (0, 0)) (by (with_reducible repeat (first | refine blk_drewN ?_ _ | refine blk_drew ?_ | refine blk_alloc ?_ _)); exact BK146.out) hb); have n3_ := Aside0.mk (below_step (by repeat (first | (with_reducible first | exact HB.out | apply below_alloc | apply pw_below_drewN | apply below_drew1 | refine below_set ?_ GE144.out | refine below_set ?_ GE145.out | refine below_set ?_ GE146.out) | exact HB.out)) hb); clear BK144; clear BK145; clear BK146; clear HB; have BK144 := n0_; have BK145 := n1_; have BK146 := n2_; have HB := n3_; clear n0_ n1_ n2_ n3_; (try clear hb); (try clear hb2); (try clear hk); (try clear hi)))
      go_meet
      case rel => exact ⟨_, (true), (by first | rfl | (simp; done) | (simp [*]; done)), H', ⟨by first | omega | exact Nat.le_refl _⟩, ⟨by (with_reducible repeat (first | refine blk_drewN ?_ _ | refine blk_drew ?_ | refine blk_alloc ?_ _)); exact BK144.out⟩, ⟨by (with_reducible repeat (first | refine blk_drewN ?_ _ | refine blk_drew ?_ | refine blk_alloc ?_ _)); exact BK145.out⟩, ⟨by (with_reducible repeat (first | refine blk_drewN ?_ _ | refine blk_drew ?_ | refine blk_alloc ?_ _)); exact BK146.out⟩, ⟨by repeat (first | (with_reducible first | exact HB.out | apply below_alloc | apply pw_below_drewN | apply below_drew1 | refine below_set ?_ GE144.out | refine below_set ?_ GE145.out | refine below_set ?_ GE146.out) | exact HB.out)⟩⟩
    · replace c9 := Bool.eq_false_iff.mpr c9
      subst c9
      have H1 : (hurdlelaw11_DenoteJudges.j0 k (decide ((l1_2.length : Int) > 100)) l0_0 a0_1 a1_0 a1_1 l1_2 a1_3 a2_0 a2_1 a2_2 a2_3 a2_4 a2_5 a2_6 a2_7 a2_8) = some r := by rw [if_neg (show ¬ (false = true) by decide)] at H; exact H
      clear H
      have H := H1
      clear H1
      have H' := Aside0.mk H
      clear H
      have hnb14 := NB144_145.out
      have hnc14 := NB145_144.out
      have hnb15 := NB144_146.out
      have hnc15 := NB146_144.out
      have hcz16_0 : w7.cell? ⟨gb144, 0, none⟩ = some (.slice A0_0 l0_0.length c0_0) := (blk_cell BK144.out 0).trans rfl
      have hcz16_1 : w7.cell? ⟨gb144, 1, none⟩ = some (.int .u32 a0_1) := (blk_cell BK144.out 1).trans rfl
      have hfz16_0 := blk_frozen BK144.out 0
      have hfz16_1 := blk_frozen BK144.out 1
      go_wp2_with (first | ((with_reducible refine gate_callee (f := 14) rfl ?_); refine goesL_ (some 12) rfl rfl Try.func14 (by kernel_rfl) rfl #[.agg #[.slice A0_0 l0_0.length c0_0, .int .u32 a0_1]] rfl (by (try simp only [List.map_toArray, List.map_cons, List.map_nil]); first | done | rfl | (simp only [List.length_drop, List.length_take]; rfl)) ?_; (with_reducible refine (hurdlelaw10_Great.calls _ _ l0_0 a0_1 false _ ?side1 ?side2 A8.out).mono ?_); (case side1 => repeat (first | exact (Kd.C_below HR0_0.out HB.out) | (with_reducible refine Kd.C_alloc ?_ _) | (with_reducible refine Kd.C_drewN ?_ _) | (with_reducible refine Kd.C_drew ?_))); (case side2 => exact HC0_0.out); rintro e w17 ⟨rfl, hb⟩; refine ⟨_, rfl, ?_⟩; have n0_ := Aside0.mk (blk_below (g := gb144) (o := .cells #[.slice A0_0 l0_0.length c0_0, .int .u32 a0_1] 25 (0, 0)) (by (with_reducible repeat (first | refine blk_drewN ?_ _ | refine blk_drew ?_ | refine blk_alloc ?_ _)); exact BK144.out) hb); have n1_ := Aside0.mk (blk_below (g := gb145) (o := .cells #[.int .u32 a1_0, .int .u32 a1_1, .slice A1_2 l1_2.length c1_2, .int .u32 a1_3] 40 (0, 0)) (by (with_reducible repeat (first | refine blk_drewN ?_ _ | refine blk_drew ?_ | refine blk_alloc ?_ _)); exact BK145.out) hb); have n2_ := Aside0.mk (blk_below (g := gb146) (o := .cells #[.int .u32 a2_0, .int .u32 a2_1, .int .u64 a2_2, .int .u64 a2_3, .int .u64 a2_4, .int .u64 a2_5, .int .u64 a2_6, .int .u64 a2_7, .int .u64 a2_8] 44 (0, 0)) (by (with_reducible repeat (first | refine blk_drewN ?_ _ | refine blk_drew ?_ | refine blk_alloc ?_ _)); exact BK146.out) hb); have n3_ := Aside0.mk (below_step (by repeat (first | (with_reducible first | exact HB.out | apply below_alloc | apply pw_below_drewN | apply below_drew1 | refine below_set ?_ GE144.out | refine below_set ?_ GE145.out | refine below_set ?_ GE146.out) | exact HB.out)) hb); clear BK144; clear BK145; clear BK146; clear HB; have BK144 := n0_; have BK145 := n1_; have BK146 := n2_; have HB := n3_; clear n0_ n1_ n2_ n3_; (try clear hb); (try clear hb2); (try clear hk); (try clear hi); have hnb18 := NB145_146.out; have hnc18 := NB146_145.out; have hcz19_0 : w17.cell? ⟨gb145, 0, none⟩ = some (.int .u32 a1_0) := (blk_cell BK145.out 0).trans rfl; have hcz19_1 : w17.cell? ⟨gb145, 1, none⟩ = some (.int .u32 a1_1) := (blk_cell BK145.out 1).trans rfl; have hcz19_2 : w17.cell? ⟨gb145, 2, none⟩ = some (.slice A1_2 l1_2.length c1_2) := (blk_cell BK145.out 2).trans rfl; have hcz19_3 : w17.cell? ⟨gb145, 3, none⟩ = some (.int .u32 a1_3) := (blk_cell BK145.out 3).trans rfl; have hfz19_0 := blk_frozen BK145.out 0; have hfz19_1 := blk_frozen BK145.out 1; have hfz19_2 := blk_frozen BK145.out 2; have hfz19_3 := blk_frozen BK145.out 3))
      go_meet
      case rel => exact ⟨_, (decide ((l1_2.length : Int) > 100)), (by first | rfl | (simp; done) | (simp [*]; done)), H', ⟨by first | omega | exact Nat.le_refl _⟩, ⟨by (with_reducible repeat (first | refine blk_drewN ?_ _ | refine blk_drew ?_ | refine blk_alloc ?_ _)); exact BK144.out⟩, ⟨by (with_reducible repeat (first | refine blk_drewN ?_ _ | refine blk_drew ?_ | refine blk_alloc ?_ _)); exact BK145.out⟩, ⟨by (with_reducible repeat (first | refine blk_drewN ?_ _ | refine blk_drew ?_ | refine blk_alloc ?_ _)); exact BK146.out⟩, ⟨by repeat (first | (with_reducible first | exact HB.out | apply below_alloc | apply pw_below_drewN | apply below_drew1 | refine below_set ?_ GE144.out | refine below_set ?_ GE145.out | refine below_set ?_ GE146.out) | exact HB.out)⟩⟩
  case rest =>
    clear HC4
    try clear c1
    try clear p2
    try clear c9
    try clear c10
    try clear c11
    try clear c14
    try clear c15
    try clear c18
    try clear hcz12_0
    try clear hcz12_1
    try clear hcz16_0
    try clear hcz16_1
    try clear hcz19_0
    try clear hcz19_1
    try clear hcz19_2
    try clear hcz19_3
    try clear hfz12_0
    try clear hfz12_1
    try clear hfz16_0
    try clear hfz16_1
    try clear hfz19_0
    try clear hfz19_1
    try clear hfz19_2
    try clear hfz19_3
    obtain ⟨kq, x18_3, rfl, HA, HJ3, BK144, BK145, BK146, HB⟩ := hcut
    cases kq with
    | zero => exact absurd HA.out (by simp [hurdlelaw11_DenoteJudges.j0])
    | succ kj3 =>
      have H := HA.out
      clear HA
      simp only [hurdlelaw11_DenoteJudges.j0] at H
      by_cases c20 : x18_3 = true
      · subst c20
        have H1 : ((hurdlelaw11_knows.f).bind fun t148 => (some t148)) = some r := by rw [if_pos rfl] at H; exact H
        clear H
        have H := H1
        clear H1
        replace H := Option.bind_eq_some_iff.mp H
        obtain ⟨t148, A210, H⟩ := H
        replace H : (some t148) = some r := H
        have A21 := Aside0.mk A210
        clear A210
        obtain rfl := Option.some.inj H
        go_wp2_with (first | ((with_reducible refine gate_callee (f := 23) rfl ?_); refine goesL_ (some 19) rfl rfl Try.func23 (by kernel_rfl) rfl #[] rfl (by (try simp only [List.map_toArray, List.map_cons, List.map_nil]); first | done | rfl | (simp only [List.length_drop, List.length_take]; rfl)) ?_; (with_reducible refine (hurdlelaw11_knows.calls  t148 _ A21.out).mono ?_); rintro e w22 ⟨rfl, hb⟩; refine ⟨_, rfl, ?_⟩; have n0_ := Aside0.mk (blk_below (g := gb144) (o := .cells #[.slice A0_0 l0_0.length c0_0, .int .u32 a0_1] 25 (0, 0)) (by (with_reducible repeat (first | refine blk_drewN ?_ _ | refine blk_drew ?_ | refine blk_alloc ?_ _)); exact BK144.out) hb); have n1_ := Aside0.mk (blk_below (g := gb145) (o := .cells #[.int .u32 a1_0, .int .u32 a1_1, .slice A1_2 l1_2.length c1_2, .int .u32 a1_3] 40 (0, 0)) (by (with_reducible repeat (first | refine blk_drewN ?_ _ | refine blk_drew ?_ | refine blk_alloc ?_ _)); exact BK145.out) hb); have n2_ := Aside0.mk (blk_below (g := gb146) (o := .cells #[.int .u32 a2_0, .int .u32 a2_1, .int .u64 a2_2, .int .u64 a2_3, .int .u64 a2_4, .int .u64 a2_5, .int .u64 a2_6, .int .u64 a2_7, .int .u64 a2_8] 44 (0, 0)) (by (with_reducible repeat (first | refine blk_drewN ?_ _ | refine blk_drew ?_ | refine blk_alloc ?_ _)); exact BK146.out) hb); have n3_ := Aside0.mk (below_step (by repeat (first | (with_reducible first | exact HB.out | apply below_alloc | apply pw_below_drewN | apply below_drew1 | refine below_set ?_ GE144.out | refine below_set ?_ GE145.out | refine below_set ?_ GE146.out) | exact HB.out)) hb); clear BK144; clear BK145; clear BK146; clear HB; have BK144 := n0_; have BK145 := n1_; have BK146 := n2_; have HB := n3_; clear n0_ n1_ n2_ n3_; (try clear hb); (try clear hb2); (try clear hk); (try clear hi)))
        go_ret
        exact ⟨by first | rfl | (simp [errW_none, errW_some] <;> rfl) | (simp [*, errW_none, errW_some] <;> rfl), by repeat (first | (with_reducible first | exact HB.out | apply below_alloc | apply pw_below_drewN | apply below_drew1 | refine below_set ?_ GE144.out | refine below_set ?_ GE145.out | refine below_set ?_ GE146.out) | exact HB.out)⟩
      · replace c20 := Bool.eq_false_iff.mpr c20
        subst c20
        have H1 : ((denote_First.f l0_0 a0_1 a2_0 a2_1 a2_2 a2_3 a2_4 a2_5 a2_6 a2_7 a2_8).bind fun bt149 => ((denote_Judge.f l0_0 a0_1 a2_0 a2_1 a2_2 a2_3 a2_4 a2_5 a2_6 a2_7 a2_8).bind fun bt151 => ((denote_Fits.f a1_0 a1_1 l1_2 a1_3 a2_0 a2_1 a2_2 a2_3 a2_4 a2_5 a2_6 a2_7 a2_8).bind fun t153 => ((hurdleref11_Fits.f a1_0 a1_1 l1_2 a1_3 a2_0 a2_1 a2_2 a2_3 a2_4 a2_5 a2_6 a2_7 a2_8).bind fun t154 => (if (t153 != t154) = true then (some false) else ((hurdleref10_Right.f l0_0 a0_1).bind fun t155 => (if t155 = true then ((hurdleref11_First.f l0_0 a0_1 a2_0 a2_1 a2_2 a2_3 a2_4 a2_5 a2_6 a2_7 a2_8).bind fun t156 => (if bt149.1 = t156 then (if bt149.2 = 0 then ((hurdleref11_Judge.f l0_0 a0_1 a2_0 a2_1 a2_2 a2_3 a2_4 a2_5 a2_6 a2_7 a2_8).bind fun t157 => (if bt151.1 = t157 then (if bt151.2 = 0 then ((hurdlelaw11_knows.f).bind fun t158 => (some t158)) else (some false)) else (some false))) else (some false)) else (some false))) else (if bt149.1 = 0 then (if bt149.2 = 1 then (if bt151.1 = 0 then (if bt151.2 = 1 then ((hurdlelaw11_knows.f).bind fun t159 => (some t159)) else (some false)) else (some false)) else (some false)) else (some false))))))))) = some r := by rw [if_neg (show ¬ (false = true) by decide)] at H; exact H
        clear H
        have H := H1
        clear H1
        replace H := Option.bind_eq_some_iff.mp H
        obtain ⟨⟨t149, t150⟩, A230, H⟩ := H
        replace H : ((denote_Judge.f l0_0 a0_1 a2_0 a2_1 a2_2 a2_3 a2_4 a2_5 a2_6 a2_7 a2_8).bind fun bt151 => ((denote_Fits.f a1_0 a1_1 l1_2 a1_3 a2_0 a2_1 a2_2 a2_3 a2_4 a2_5 a2_6 a2_7 a2_8).bind fun t153 => ((hurdleref11_Fits.f a1_0 a1_1 l1_2 a1_3 a2_0 a2_1 a2_2 a2_3 a2_4 a2_5 a2_6 a2_7 a2_8).bind fun t154 => (if (t153 != t154) = true then (some false) else ((hurdleref10_Right.f l0_0 a0_1).bind fun t155 => (if t155 = true then ((hurdleref11_First.f l0_0 a0_1 a2_0 a2_1 a2_2 a2_3 a2_4 a2_5 a2_6 a2_7 a2_8).bind fun t156 => (if t149 = t156 then (if t150 = 0 then ((hurdleref11_Judge.f l0_0 a0_1 a2_0 a2_1 a2_2 a2_3 a2_4 a2_5 a2_6 a2_7 a2_8).bind fun t157 => (if bt151.1 = t157 then (if bt151.2 = 0 then ((hurdlelaw11_knows.f).bind fun t158 => (some t158)) else (some false)) else (some false))) else (some false)) else (some false))) else (if t149 = 0 then (if t150 = 1 then (if bt151.1 = 0 then (if bt151.2 = 1 then ((hurdlelaw11_knows.f).bind fun t159 => (some t159)) else (some false)) else (some false)) else (some false)) else (some false)))))))) = some r := H
        have A23 := Aside0.mk A230
        clear A230
        replace H := Option.bind_eq_some_iff.mp H
        obtain ⟨⟨t151, t152⟩, A240, H⟩ := H
        replace H : ((denote_Fits.f a1_0 a1_1 l1_2 a1_3 a2_0 a2_1 a2_2 a2_3 a2_4 a2_5 a2_6 a2_7 a2_8).bind fun t153 => ((hurdleref11_Fits.f a1_0 a1_1 l1_2 a1_3 a2_0 a2_1 a2_2 a2_3 a2_4 a2_5 a2_6 a2_7 a2_8).bind fun t154 => (if (t153 != t154) = true then (some false) else ((hurdleref10_Right.f l0_0 a0_1).bind fun t155 => (if t155 = true then ((hurdleref11_First.f l0_0 a0_1 a2_0 a2_1 a2_2 a2_3 a2_4 a2_5 a2_6 a2_7 a2_8).bind fun t156 => (if t149 = t156 then (if t150 = 0 then ((hurdleref11_Judge.f l0_0 a0_1 a2_0 a2_1 a2_2 a2_3 a2_4 a2_5 a2_6 a2_7 a2_8).bind fun t157 => (if t151 = t157 then (if t152 = 0 then ((hurdlelaw11_knows.f).bind fun t158 => (some t158)) else (some false)) else (some false))) else (some false)) else (some false))) else (if t149 = 0 then (if t150 = 1 then (if t151 = 0 then (if t152 = 1 then ((hurdlelaw11_knows.f).bind fun t159 => (some t159)) else (some false)) else (some false)) else (some false)) else (some false))))))) = some r := H
        have A24 := Aside0.mk A240
        clear A240
        replace H := Option.bind_eq_some_iff.mp H
        obtain ⟨t153, A250, H⟩ := H
        replace H : ((hurdleref11_Fits.f a1_0 a1_1 l1_2 a1_3 a2_0 a2_1 a2_2 a2_3 a2_4 a2_5 a2_6 a2_7 a2_8).bind fun t154 => (if (t153 != t154) = true then (some false) else ((hurdleref10_Right.f l0_0 a0_1).bind fun t155 => (if t155 = true then ((hurdleref11_First.f l0_0 a0_1 a2_0 a2_1 a2_2 a2_3 a2_4 a2_5 a2_6 a2_7 a2_8).bind fun t156 => (if t149 = t156 then (if t150 = 0 then ((hurdleref11_Judge.f l0_0 a0_1 a2_0 a2_1 a2_2 a2_3 a2_4 a2_5 a2_6 a2_7 a2_8).bind fun t157 => (if t151 = t157 then (if t152 = 0 then ((hurdlelaw11_knows.f).bind fun t158 => (some t158)) else (some false)) else (some false))) else (some false)) else (some false))) else (if t149 = 0 then (if t150 = 1 then (if t151 = 0 then (if t152 = 1 then ((hurdlelaw11_knows.f).bind fun t159 => (some t159)) else (some false)) else (some false)) else (some false)) else (some false)))))) = some r := H
        have A25 := Aside0.mk A250
        clear A250
        replace H := Option.bind_eq_some_iff.mp H
        obtain ⟨t154, A260, H⟩ := H
        replace H : (if (t153 != t154) = true then (some false) else ((hurdleref10_Right.f l0_0 a0_1).bind fun t155 => (if t155 = true then ((hurdleref11_First.f l0_0 a0_1 a2_0 a2_1 a2_2 a2_3 a2_4 a2_5 a2_6 a2_7 a2_8).bind fun t156 => (if t149 = t156 then (if t150 = 0 then ((hurdleref11_Judge.f l0_0 a0_1 a2_0 a2_1 a2_2 a2_3 a2_4 a2_5 a2_6 a2_7 a2_8).bind fun t157 => (if t151 = t157 then (if t152 = 0 then ((hurdlelaw11_knows.f).bind fun t158 => (some t158)) else (some false)) else (some false))) else (some false)) else (some false))) else (if t149 = 0 then (if t150 = 1 then (if t151 = 0 then (if t152 = 1 then ((hurdlelaw11_knows.f).bind fun t159 => (some t159)) else (some false)) else (some false)) else (some false)) else (some false))))) = some r := H
        have A26 := Aside0.mk A260
        clear A260
        by_cases c27 : (t153 != t154) = true
        · rw [if_pos c27] at H
          exact absurd ((Option.some.inj H).trans ht) Bool.false_ne_true
        · rw [if_neg c27] at H
          have c27b0 : (t153 != t154) = false := by simpa using c27
          (try (have c27b1 : decide (t153 = t154) = true := by simpa using c27))
          (try (have c27b2 : (t153 == t154) = true := by simpa using c27))
          clear c27
          replace H := Option.bind_eq_some_iff.mp H
          obtain ⟨t155, A400, H⟩ := H
          replace H : (if t155 = true then ((hurdleref11_First.f l0_0 a0_1 a2_0 a2_1 a2_2 a2_3 a2_4 a2_5 a2_6 a2_7 a2_8).bind fun t156 => (if t149 = t156 then (if t150 = 0 then ((hurdleref11_Judge.f l0_0 a0_1 a2_0 a2_1 a2_2 a2_3 a2_4 a2_5 a2_6 a2_7 a2_8).bind fun t157 => (if t151 = t157 then (if t152 = 0 then ((hurdlelaw11_knows.f).bind fun t158 => (some t158)) else (some false)) else (some false))) else (some false)) else (some false))) else (if t149 = 0 then (if t150 = 1 then (if t151 = 0 then (if t152 = 1 then ((hurdlelaw11_knows.f).bind fun t159 => (some t159)) else (some false)) else (some false)) else (some false)) else (some false))) = some r := H
          have A40 := Aside0.mk A400
          clear A400
          by_cases c41 : t155 = true
          · subst c41
            have H1 : ((hurdleref11_First.f l0_0 a0_1 a2_0 a2_1 a2_2 a2_3 a2_4 a2_5 a2_6 a2_7 a2_8).bind fun t156 => (if t149 = t156 then (if t150 = 0 then ((hurdleref11_Judge.f l0_0 a0_1 a2_0 a2_1 a2_2 a2_3 a2_4 a2_5 a2_6 a2_7 a2_8).bind fun t157 => (if t151 = t157 then (if t152 = 0 then ((hurdlelaw11_knows.f).bind fun t158 => (some t158)) else (some false)) else (some false))) else (some false)) else (some false))) = some r := by rw [if_pos rfl] at H; exact H
            clear H
            have H := H1
            clear H1
            replace H := Option.bind_eq_some_iff.mp H
            obtain ⟨t156, A420, H⟩ := H
            replace H : (if t149 = t156 then (if t150 = 0 then ((hurdleref11_Judge.f l0_0 a0_1 a2_0 a2_1 a2_2 a2_3 a2_4 a2_5 a2_6 a2_7 a2_8).bind fun t157 => (if t151 = t157 then (if t152 = 0 then ((hurdlelaw11_knows.f).bind fun t158 => (some t158)) else (some false)) else (some false))) else (some false)) else (some false)) = some r := H
            have A42 := Aside0.mk A420
            clear A420
            by_cases c43 : t149 = t156
            · rw [if_pos c43] at H
              have c43b0 : (t149 == t156) = true := beq_iff_eq.mpr c43
              have c43b1 : (t149 != t156) = false := bne_eq_false_iff_eq.mpr c43
              clear c43
              by_cases c44 : t150 = 0
              · rw [if_pos c44] at H
                have c44b0 : (t150 == 0) = true := beq_iff_eq.mpr c44
                have c44b1 : (t150 != 0) = false := bne_eq_false_iff_eq.mpr c44
                clear c44
                replace H := Option.bind_eq_some_iff.mp H
                obtain ⟨t157, A450, H⟩ := H
                replace H : (if t151 = t157 then (if t152 = 0 then ((hurdlelaw11_knows.f).bind fun t158 => (some t158)) else (some false)) else (some false)) = some r := H
                have A45 := Aside0.mk A450
                clear A450
                by_cases c46 : t151 = t157
                · rw [if_pos c46] at H
                  have c46b0 : (t151 == t157) = true := beq_iff_eq.mpr c46
                  have c46b1 : (t151 != t157) = false := bne_eq_false_iff_eq.mpr c46
                  clear c46
                  by_cases c47 : t152 = 0
                  · rw [if_pos c47] at H
                    have c47b0 : (t152 == 0) = true := beq_iff_eq.mpr c47
                    have c47b1 : (t152 != 0) = false := bne_eq_false_iff_eq.mpr c47
                    clear c47
                    replace H := Option.bind_eq_some_iff.mp H
                    obtain ⟨t158, A480, H⟩ := H
                    replace H : (some t158) = some r := H
                    have A48 := Aside0.mk A480
                    clear A480
                    obtain rfl := Option.some.inj H
                    have hnb49 := NB144_145.out
                    have hnc49 := NB145_144.out
                    have hnb50 := NB144_146.out
                    have hnc50 := NB146_144.out
                    have hcz51_0 : wc.cell? ⟨gb144, 0, none⟩ = some (.slice A0_0 l0_0.length c0_0) := (blk_cell BK144.out 0).trans rfl
                    have hcz51_1 : wc.cell? ⟨gb144, 1, none⟩ = some (.int .u32 a0_1) := (blk_cell BK144.out 1).trans rfl
                    have hfz51_0 := blk_frozen BK144.out 0
                    have hfz51_1 := blk_frozen BK144.out 1
                    have hnb52 := NB146_145.out
                    have hnc52 := NB145_146.out
                    have hcz53_0 : wc.cell? ⟨gb146, 0, none⟩ = some (.int .u32 a2_0) := (blk_cell BK146.out 0).trans rfl
                    have hcz53_1 : wc.cell? ⟨gb146, 1, none⟩ = some (.int .u32 a2_1) := (blk_cell BK146.out 1).trans rfl
                    have hcz53_2 : wc.cell? ⟨gb146, 2, none⟩ = some (.int .u64 a2_2) := (blk_cell BK146.out 2).trans rfl
                    have hcz53_3 : wc.cell? ⟨gb146, 3, none⟩ = some (.int .u64 a2_3) := (blk_cell BK146.out 3).trans rfl
                    have hcz53_4 : wc.cell? ⟨gb146, 4, none⟩ = some (.int .u64 a2_4) := (blk_cell BK146.out 4).trans rfl
                    have hcz53_5 : wc.cell? ⟨gb146, 5, none⟩ = some (.int .u64 a2_5) := (blk_cell BK146.out 5).trans rfl
                    have hcz53_6 : wc.cell? ⟨gb146, 6, none⟩ = some (.int .u64 a2_6) := (blk_cell BK146.out 6).trans rfl
                    have hcz53_7 : wc.cell? ⟨gb146, 7, none⟩ = some (.int .u64 a2_7) := (blk_cell BK146.out 7).trans rfl
                    have hcz53_8 : wc.cell? ⟨gb146, 8, none⟩ = some (.int .u64 a2_8) := (blk_cell BK146.out 8).trans rfl
                    have hfz53_0 := blk_frozen BK146.out 0
                    have hfz53_1 := blk_frozen BK146.out 1
                    have hfz53_2 := blk_frozen BK146.out 2
                    have hfz53_3 := blk_frozen BK146.out 3
                    have hfz53_4 := blk_frozen BK146.out 4
                    have hfz53_5 := blk_frozen BK146.out 5
                    have hfz53_6 := blk_frozen BK146.out 6
                    have hfz53_7 := blk_frozen BK146.out 7
                    have hfz53_8 := blk_frozen BK146.out 8
                    try go_wp2_with (first | ((with_reducible refine gate_callee (f := 24) rfl ?_); refine goesL_ (some 23) rfl rfl Try.func24 (by kernel_rfl) rfl #[.agg #[.slice A0_0 l0_0.length c0_0, .int .u32 a0_1], .agg #[.int .u32 a2_0, .int .u32 a2_1, .int .u64 a2_2, .int .u64 a2_3, .int .u64 a2_4, .int .u64 a2_5, .int .u64 a2_6, .int .u64 a2_7, .int .u64 a2_8]] rfl (by (try simp only [List.map_toArray, List.map_cons, List.map_nil]); first | done | rfl | (simp only [List.length_drop, List.length_take]; rfl)) ?_; (with_reducible refine (denote_First.calls _ _ l0_0 a0_1 a2_0 a2_1 a2_2 a2_3 a2_4 a2_5 a2_6 a2_7 a2_8 t149 t150 _ ?side1 ?side2 A23.out).mono ?_); (case side1 => repeat (first | exact (Kd.C_below HR0_0.out HB.out) | (with_reducible refine Kd.C_alloc ?_ _) | (with_reducible refine Kd.C_drewN ?_ _) | (with_reducible refine Kd.C_drew ?_))); (case side2 => exact HC0_0.out); rintro e w54 ⟨rfl, hb⟩; refine ⟨_, rfl, ?_⟩; have n0_ := Aside0.mk (blk_below (g := gb144) (o := .cells #[.slice A0_0 l0_0.length c0_0, .int .u32 a0_1] 25 (0, 0)) (by (with_reducible repeat (first | refine blk_drewN ?_ _ | refine blk_drew ?_ | refine blk_alloc ?_ _)); exact BK144.out) hb); have n1_ := Aside0.mk (blk_below (g := gb145) (o := .cells #[.int .u32 a1_0, .int .u32 a1_1, .slice A1_2 l1_2.length c1_2, .int .u32 a1_3] 40 (0, 0)) (by (with_reducible repeat (first | refine blk_drewN ?_ _ | refine blk_drew ?_ | refine blk_alloc ?_ _)); exact BK145.out) hb); have n2_ := Aside0.mk (blk_below (g := gb146) (o := .cells #[.int .u32 a2_0, .int .u32 a2_1, .int .u64 a2_2, .int .u64 a2_3, .int .u64 a2_4, .int .u64 a2_5, .int .u64 a2_6, .int .u64 a2_7, .int .u64 a2_8] 44 (0, 0)) (by (with_reducible repeat (first | refine blk_drewN ?_ _ | refine blk_drew ?_ | refine blk_alloc ?_ _)); exact BK146.out) hb); have n3_ := Aside0.mk (below_step (by repeat (first | (with_reducible first | exact HB.out | apply below_alloc | apply pw_below_drewN | apply below_drew1 | refine below_set ?_ GE144.out | refine below_set ?_ GE145.out | refine below_set ?_ GE146.out) | exact HB.out)) hb); clear BK144; clear BK145; clear BK146; clear HB; have BK144 := n0_; have BK145 := n1_; have BK146 := n2_; have HB := n3_; clear n0_ n1_ n2_ n3_; (try clear hb); (try clear hb2); (try clear hk); (try clear hi); have hcz55_0 : w54.cell? ⟨gb144, 0, none⟩ = some (.slice A0_0 l0_0.length c0_0) := (blk_cell BK144.out 0).trans rfl; have hcz55_1 : w54.cell? ⟨gb144, 1, none⟩ = some (.int .u32 a0_1) := (blk_cell BK144.out 1).trans rfl; have hfz55_0 := blk_frozen BK144.out 0; have hfz55_1 := blk_frozen BK144.out 1; have hcz56_0 : w54.cell? ⟨gb146, 0, none⟩ = some (.int .u32 a2_0) := (blk_cell BK146.out 0).trans rfl; have hcz56_1 : w54.cell? ⟨gb146, 1, none⟩ = some (.int .u32 a2_1) := (blk_cell BK146.out 1).trans rfl; have hcz56_2 : w54.cell? ⟨gb146, 2, none⟩ = some (.int .u64 a2_2) := (blk_cell BK146.out 2).trans rfl; have hcz56_3 : w54.cell? ⟨gb146, 3, none⟩ = some (.int .u64 a2_3) := (blk_cell BK146.out 3).trans rfl; have hcz56_4 : w54.cell? ⟨gb146, 4, none⟩ = some (.int .u64 a2_4) := (blk_cell BK146.out 4).trans rfl; have hcz56_5 : w54.cell? ⟨gb146, 5, none⟩ = some (.int .u64 a2_5) := (blk_cell BK146.out 5).trans rfl; have hcz56_6 : w54.cell? ⟨gb146, 6, none⟩ = some (.int .u64 a2_6) := (blk_cell BK146.out 6).trans rfl; have hcz56_7 : w54.cell? ⟨gb146, 7, none⟩ = some (.int .u64 a2_7) := (blk_cell BK146.out 7).trans rfl; have hcz56_8 : w54.cell? ⟨gb146, 8, none⟩ = some (.int .u64 a2_8) := (blk_cell BK146.out 8).trans rfl; have hfz56_0 := blk_frozen BK146.out 0; have hfz56_1 := blk_frozen BK146.out 1; have hfz56_2 := blk_frozen BK146.out 2; have hfz56_3 := blk_frozen BK146.out 3; have hfz56_4 := blk_frozen BK146.out 4; have hfz56_5 := blk_frozen BK146.out 5; have hfz56_6 := blk_frozen BK146.out 6; have hfz56_7 := blk_frozen BK146.out 7; have hfz56_8 := blk_frozen BK146.out 8) | ((with_reducible refine gate_callee (f := 25) rfl ?_); refine goesL_ (some 29) rfl rfl Try.func25 (by kernel_rfl) rfl #[.agg #[.slice A0_0 l0_0.length c0_0, .int .u32 a0_1], .agg #[.int .u32 a2_0, .int .u32 a2_1, .int .u64 a2_2, .int .u64 a2_3, .int .u64 a2_4, .int .u64 a2_5, .int .u64 a2_6, .int .u64 a2_7, .int .u64 a2_8]] rfl (by (try simp only [List.map_toArray, List.map_cons, List.map_nil]); first | done | rfl | (simp only [List.length_drop, List.length_take]; rfl)) ?_; (with_reducible refine (denote_Judge.calls _ _ l0_0 a0_1 a2_0 a2_1 a2_2 a2_3 a2_4 a2_5 a2_6 a2_7 a2_8 t151 t152 _ ?side1 ?side2 A24.out).mono ?_); (case side1 => repeat (first | exact (Kd.C_below HR0_0.out HB.out) | (with_reducible refine Kd.C_alloc ?_ _) | (with_reducible refine Kd.C_drewN ?_ _) | (with_reducible refine Kd.C_drew ?_))); (case side2 => exact HC0_0.out); rintro e w57 ⟨rfl, hb⟩; refine ⟨_, rfl, ?_⟩; have n0_ := Aside0.mk (blk_below (g := gb144) (o := .cells #[.slice A0_0 l0_0.length c0_0, .int .u32 a0_1] 25 (0, 0)) (by (with_reducible repeat (first | refine blk_drewN ?_ _ | refine blk_drew ?_ | refine blk_alloc ?_ _)); exact BK144.out) hb); have n1_ := Aside0.mk (blk_below (g := gb145) (o := .cells #[.int .u32 a1_0, .int .u32 a1_1, .slice A1_2 l1_2.length c1_2, .int .u32 a1_3] 40 (0, 0)) (by (with_reducible repeat (first | refine blk_drewN ?_ _ | refine blk_drew ?_ | refine blk_alloc ?_ _)); exact BK145.out) hb); have n2_ := Aside0.mk (blk_below (g := gb146) (o := .cells #[.int .u32 a2_0, .int .u32 a2_1, .int .u64 a2_2, .int .u64 a2_3, .int .u64 a2_4, .int .u64 a2_5, .int .u64 a2_6, .int .u64 a2_7, .int .u64 a2_8] 44 (0, 0)) (by (with_reducible repeat (first | refine blk_drewN ?_ _ | refine blk_drew ?_ | refine blk_alloc ?_ _)); exact BK146.out) hb); have n3_ := Aside0.mk (below_step (by repeat (first | (with_reducible first | exact HB.out | apply below_alloc | apply pw_below_drewN | apply below_drew1 | refine below_set ?_ GE144.out | refine below_set ?_ GE145.out | refine below_set ?_ GE146.out) | exact HB.out)) hb); clear BK144; clear BK145; clear BK146; clear HB; have BK144 := n0_; have BK145 := n1_; have BK146 := n2_; have HB := n3_; clear n0_ n1_ n2_ n3_; (try clear hb); (try clear hb2); (try clear hk); (try clear hi)))
                    have n0_ := Aside0.mk (blk_drew BK144.out)
                    have n1_ := Aside0.mk (blk_drew BK145.out)
                    have n2_ := Aside0.mk (blk_drew BK146.out)
                    have n3_ := Aside0.mk (below_drew1 HB.out)
                    clear BK144
                    clear BK145
                    clear BK146
                    clear HB
                    have BK144 := n0_
                    have BK145 := n1_
                    have BK146 := n2_
                    have HB := n3_
                    clear n0_ n1_ n2_ n3_
                    refine start_ (n := 7) (S := fun w' => w'.cell? ⟨gb145, 0, none⟩ = some (.int .u32 a1_0) ∧ w'.cell? ⟨gb145, 1, none⟩ = some (.int .u32 a1_1) ∧ w'.cell? ⟨gb145, 2, none⟩ = some (.slice A1_2 l1_2.length c1_2) ∧ w'.cell? ⟨gb145, 3, none⟩ = some (.int .u32 a1_3) ∧ w'.cell? ⟨gb146, 0, none⟩ = some (.int .u32 a2_0) ∧ w'.cell? ⟨gb146, 1, none⟩ = some (.int .u32 a2_1) ∧ w'.cell? ⟨gb146, 2, none⟩ = some (.int .u64 a2_2) ∧ w'.cell? ⟨gb146, 3, none⟩ = some (.int .u64 a2_3) ∧ w'.cell? ⟨gb146, 4, none⟩ = some (.int .u64 a2_4) ∧ w'.cell? ⟨gb146, 5, none⟩ = some (.int .u64 a2_5) ∧ w'.cell? ⟨gb146, 6, none⟩ = some (.int .u64 a2_6) ∧ w'.cell? ⟨gb146, 7, none⟩ = some (.int .u64 a2_7) ∧ w'.cell? ⟨gb146, 8, none⟩ = some (.int .u64 a2_8)) (ds := []) #[false, false, false, false, false, false, false] (by kernel_rfl) rfl rfl ⟨(blk_cell BK145.out 0).trans rfl, (blk_cell BK145.out 1).trans rfl, (blk_cell BK145.out 2).trans rfl, (blk_cell BK145.out 3).trans rfl, (blk_cell BK146.out 0).trans rfl, (blk_cell BK146.out 1).trans rfl, (blk_cell BK146.out 2).trans rfl, (blk_cell BK146.out 3).trans rfl, (blk_cell BK146.out 4).trans rfl, (blk_cell BK146.out 5).trans rfl, (blk_cell BK146.out 6).trans rfl, (blk_cell BK146.out 7).trans rfl, (blk_cell BK146.out 8).trans rfl⟩ (fun hHeld => ?_)
                    generalize w57.drew = w58 at BK144 BK145 BK146 HB hHeld ⊢
                    refine take_ (i := 0) (N := some 32) (v := ?_) (a' := ?_) #[true, false, false, false, false, false, false] rfl rfl (by kernel_rfl) (fun _ _ _ h => h) (Or.inl ⟨by rfl, ?_⟩) hHeld ?_ ?_
                    rotate_left
                    · rintro w' ⟨s0, s1, s2, s3, s4, s5, s6, s7, s8, s9, s10, s11, s12⟩
                      go_simp
                      with_reducible rfl
                    rotate_left
                    · simp only [Act.put, List.setIfInBounds_toArray, List.set_cons_zero, List.set_cons_succ, i64_w, i32_w]
                      rfl
                    refine take_ (i := 1) (N := some 33) (v := ?_) (a' := ?_) #[true, true, false, false, false, false, false] rfl rfl (by kernel_rfl) (fun _ _ _ h => h) (Or.inl ⟨by rfl, ?_⟩) hHeld ?_ ?_
                    rotate_left
                    · rintro w' ⟨s0, s1, s2, s3, s4, s5, s6, s7, s8, s9, s10, s11, s12⟩
                      go_simp
                      with_reducible rfl
                    rotate_left
                    · simp only [Act.put, List.setIfInBounds_toArray, List.set_cons_zero, List.set_cons_succ, i64_w, i32_w]
                      rfl
                    refine take_ (i := 3) (N := some 35) (v := ?_) (a' := ?_) #[true, true, false, true, false, false, false] rfl rfl (by kernel_rfl) (fun _ _ _ h => h) (Or.inl ⟨by rfl, ?_⟩) hHeld ?_ ?_
                    rotate_left
                    · rintro w' ⟨s0, s1, s2, s3, s4, s5, s6, s7, s8, s9, s10, s11, s12⟩
                      go_simp
                      with_reducible rfl
                    rotate_left
                    · simp only [Act.put, List.setIfInBounds_toArray, List.set_cons_zero, List.set_cons_succ, i64_w, i32_w]
                      rfl
                    refine take_ (i := 4) (N := some 36) (v := ?_) (a' := ?_) #[true, true, false, true, true, false, false] rfl rfl (by kernel_rfl) (fun _ _ _ h => h) (Or.inl ⟨by rfl, ?_⟩) hHeld ?_ ?_
                    rotate_left
                    · rintro w' ⟨s0, s1, s2, s3, s4, s5, s6, s7, s8, s9, s10, s11, s12⟩
                      go_simp
                      with_reducible rfl
                    rotate_left
                    · simp only [Act.put, List.setIfInBounds_toArray, List.set_cons_zero, List.set_cons_succ, i64_w, i32_w]
                      rfl
                    refine one_ (i := 2) (N := some 34) #[true, true, true, true, true, false, false] rfl rfl (by kernel_rfl) (by decide) (fun K hK => ?_)
                    refine goes_ Try.func26 (by kernel_rfl) rfl #[.agg #[.int .u32 a1_0, .int .u32 a1_1, .slice A1_2 l1_2.length c1_2, .int .u32 a1_3], .agg #[.int .u32 a2_0, .int .u32 a2_1, .int .u64 a2_2, .int .u64 a2_3, .int .u64 a2_4, .int .u64 a2_5, .int .u64 a2_6, .int .u64 a2_7, .int .u64 a2_8]] (by rfl) rfl rfl (by (try simp only [List.map_toArray, List.map_cons, List.map_nil]); first | done | rfl | (simp only [List.length_drop, List.length_take]; rfl)) ?_
                    with_reducible refine (denote_Fits.calls a1_0 a1_1 _ _ l1_2 a1_3 a2_0 a2_1 a2_2 a2_3 a2_4 a2_5 a2_6 a2_7 a2_8 t153 _ ?side1 ?side2 A25.out).mono ?_
                    (case side1 => repeat (first | exact (Kd.C_below HR1_2.out HB.out) | (with_reducible refine Kd.C_alloc ?_ _) | (with_reducible refine Kd.C_drewN ?_ _) | (with_reducible refine Kd.C_drew ?_)))
                    (case side2 => exact HC1_2.out)
                    rintro e w59 ⟨rfl, hb⟩
                    refine ⟨_, rfl, ?_⟩
                    have n0_ := Aside0.mk (blk_below (g := gb144) (o := .cells #[.slice A0_0 l0_0.length c0_0, .int .u32 a0_1] 25 (0, 0)) (by (with_reducible repeat (first | refine blk_drewN ?_ _ | refine blk_drew ?_ | refine blk_alloc ?_ _)); exact BK144.out) hb)
                    have n1_ := Aside0.mk (blk_below (g := gb145) (o := .cells #[.int .u32 a1_0, .int .u32 a1_1, .slice A1_2 l1_2.length c1_2, .int .u32 a1_3] 40 (0, 0)) (by (with_reducible repeat (first | refine blk_drewN ?_ _ | refine blk_drew ?_ | refine blk_alloc ?_ _)); exact BK145.out) hb)
                    have n2_ := Aside0.mk (blk_below (g := gb146) (o := .cells #[.int .u32 a2_0, .int .u32 a2_1, .int .u64 a2_2, .int .u64 a2_3, .int .u64 a2_4, .int .u64 a2_5, .int .u64 a2_6, .int .u64 a2_7, .int .u64 a2_8] 44 (0, 0)) (by (with_reducible repeat (first | refine blk_drewN ?_ _ | refine blk_drew ?_ | refine blk_alloc ?_ _)); exact BK146.out) hb)
                    have n3_ := Aside0.mk (below_step (by repeat (first | (with_reducible first | exact HB.out | apply below_alloc | apply pw_below_drewN | apply below_drew1 | refine below_set ?_ GE144.out | refine below_set ?_ GE145.out | refine below_set ?_ GE146.out) | exact HB.out)) hb)
                    clear BK144
                    clear BK145
                    clear BK146
                    clear HB
                    have BK144 := n0_
                    have BK145 := n1_
                    have BK146 := n2_
                    have HB := n3_
                    clear n0_ n1_ n2_ n3_
                    (try clear hb)
                    (try clear hb2)
                    (try clear hk)
                    (try clear hi)
                    refine hK.out _ _ ⟨(blk_cell BK145.out 0).trans rfl, (blk_cell BK145.out 1).trans rfl, (blk_cell BK145.out 2).trans rfl, (blk_cell BK145.out 3).trans rfl, (blk_cell BK146.out 0).trans rfl, (blk_cell BK146.out 1).trans rfl, (blk_cell BK146.out 2).trans rfl, (blk_cell BK146.out 3).trans rfl, (blk_cell BK146.out 4).trans rfl, (blk_cell BK146.out 5).trans rfl, (blk_cell BK146.out 6).trans rfl, (blk_cell BK146.out 7).trans rfl, (blk_cell BK146.out 8).trans rfl⟩ (fun hHeld => ?_)
                    clear hK K
                    refine norm_ (a' := ?_) ?_ ?_
                    rotate_left
                    · show Act.put _ (some 34) _ = _
                      simp only [Act.put, List.setIfInBounds_toArray, List.set_cons_zero, List.set_cons_succ, i64_w, i32_w]
                      rfl
                    refine one_ (i := 5) (N := some 37) #[true, true, true, true, true, true, false] rfl rfl (by kernel_rfl) (by decide) (fun K hK => ?_)
                    refine goes_ Try.func27 (by kernel_rfl) rfl #[.agg #[.int .u32 a1_0, .int .u32 a1_1, .slice A1_2 l1_2.length c1_2, .int .u32 a1_3], .agg #[.int .u32 a2_0, .int .u32 a2_1, .int .u64 a2_2, .int .u64 a2_3, .int .u64 a2_4, .int .u64 a2_5, .int .u64 a2_6, .int .u64 a2_7, .int .u64 a2_8]] (by rfl) rfl rfl (by (try simp only [List.map_toArray, List.map_cons, List.map_nil]); first | done | rfl | (simp only [List.length_drop, List.length_take]; rfl)) ?_
                    with_reducible refine (hurdleref11_Fits.calls a1_0 a1_1 _ _ l1_2 a1_3 a2_0 a2_1 a2_2 a2_3 a2_4 a2_5 a2_6 a2_7 a2_8 t154 _ ?side1 ?side2 A26.out).mono ?_
                    (case side1 => repeat (first | exact (Kd.C_below HR1_2.out HB.out) | (with_reducible refine Kd.C_alloc ?_ _) | (with_reducible refine Kd.C_drewN ?_ _) | (with_reducible refine Kd.C_drew ?_)))
                    (case side2 => exact HC1_2.out)
                    rintro e w60 ⟨rfl, hb⟩
                    refine ⟨_, rfl, ?_⟩
                    have n0_ := Aside0.mk (blk_below (g := gb144) (o := .cells #[.slice A0_0 l0_0.length c0_0, .int .u32 a0_1] 25 (0, 0)) (by (with_reducible repeat (first | refine blk_drewN ?_ _ | refine blk_drew ?_ | refine blk_alloc ?_ _)); exact BK144.out) hb)
                    have n1_ := Aside0.mk (blk_below (g := gb145) (o := .cells #[.int .u32 a1_0, .int .u32 a1_1, .slice A1_2 l1_2.length c1_2, .int .u32 a1_3] 40 (0, 0)) (by (with_reducible repeat (first | refine blk_drewN ?_ _ | refine blk_drew ?_ | refine blk_alloc ?_ _)); exact BK145.out) hb)
                    have n2_ := Aside0.mk (blk_below (g := gb146) (o := .cells #[.int .u32 a2_0, .int .u32 a2_1, .int .u64 a2_2, .int .u64 a2_3, .int .u64 a2_4, .int .u64 a2_5, .int .u64 a2_6, .int .u64 a2_7, .int .u64 a2_8] 44 (0, 0)) (by (with_reducible repeat (first | refine blk_drewN ?_ _ | refine blk_drew ?_ | refine blk_alloc ?_ _)); exact BK146.out) hb)
                    have n3_ := Aside0.mk (below_step (by repeat (first | (with_reducible first | exact HB.out | apply below_alloc | apply pw_below_drewN | apply below_drew1 | refine below_set ?_ GE144.out | refine below_set ?_ GE145.out | refine below_set ?_ GE146.out) | exact HB.out)) hb)
                    clear BK144
                    clear BK145
                    clear BK146
                    clear HB
                    have BK144 := n0_
                    have BK145 := n1_
                    have BK146 := n2_
                    have HB := n3_
                    clear n0_ n1_ n2_ n3_
                    (try clear hb)
                    (try clear hb2)
                    (try clear hk)
                    (try clear hi)
                    refine hK.out _ _ ⟨(blk_cell BK145.out 0).trans rfl, (blk_cell BK145.out 1).trans rfl, (blk_cell BK145.out 2).trans rfl, (blk_cell BK145.out 3).trans rfl, (blk_cell BK146.out 0).trans rfl, (blk_cell BK146.out 1).trans rfl, (blk_cell BK146.out 2).trans rfl, (blk_cell BK146.out 3).trans rfl, (blk_cell BK146.out 4).trans rfl, (blk_cell BK146.out 5).trans rfl, (blk_cell BK146.out 6).trans rfl, (blk_cell BK146.out 7).trans rfl, (blk_cell BK146.out 8).trans rfl⟩ (fun hHeld => ?_)
                    clear hK K
                    refine norm_ (a' := ?_) ?_ ?_
                    rotate_left
                    · show Act.put _ (some 37) _ = _
                      simp only [Act.put, List.setIfInBounds_toArray, List.set_cons_zero, List.set_cons_succ, i64_w, i32_w]
                      rfl
                    refine pure_ (i := 6) (N := some 38) (v := ?_) (a' := ?_) #[true, true, true, true, true, true, true] rfl rfl (by kernel_rfl) (fun _ _ _ h => h) (Or.inl ⟨by rfl, ?_⟩) ?_ ?_
                    rotate_left
                    · intro w'
                      go_simp
                      with_reducible rfl
                    rotate_left
                    · simp only [Act.put, List.setIfInBounds_toArray, List.set_cons_zero, List.set_cons_succ, i64_w, i32_w]
                      rfl
                    refine done_ (by kernel_rfl) ?_
                    have hcz61_0 : w60.cell? ⟨gb144, 0, none⟩ = some (.slice A0_0 l0_0.length c0_0) := (blk_cell BK144.out 0).trans rfl
                    have hcz61_1 : w60.cell? ⟨gb144, 1, none⟩ = some (.int .u32 a0_1) := (blk_cell BK144.out 1).trans rfl
                    have hfz61_0 := blk_frozen BK144.out 0
                    have hfz61_1 := blk_frozen BK144.out 1
                    try go_wp2_with (first | ((with_reducible refine gate_callee (f := 17) rfl ?_); refine goesL_ (some 40) rfl rfl Try.func17 (by kernel_rfl) rfl #[.agg #[.slice A0_0 l0_0.length c0_0, .int .u32 a0_1]] rfl (by (try simp only [List.map_toArray, List.map_cons, List.map_nil]); first | done | rfl | (simp only [List.length_drop, List.length_take]; rfl)) ?_; (with_reducible refine (hurdleref10_Right.calls _ _ l0_0 a0_1 true _ ?side1 ?side2 A40.out).mono ?_); (case side1 => repeat (first | exact (Kd.C_below HR0_0.out HB.out) | (with_reducible refine Kd.C_alloc ?_ _) | (with_reducible refine Kd.C_drewN ?_ _) | (with_reducible refine Kd.C_drew ?_))); (case side2 => exact HC0_0.out); rintro e w62 ⟨rfl, hb⟩; refine ⟨_, rfl, ?_⟩; have n0_ := Aside0.mk (blk_below (g := gb144) (o := .cells #[.slice A0_0 l0_0.length c0_0, .int .u32 a0_1] 25 (0, 0)) (by (with_reducible repeat (first | refine blk_drewN ?_ _ | refine blk_drew ?_ | refine blk_alloc ?_ _)); exact BK144.out) hb); have n1_ := Aside0.mk (blk_below (g := gb145) (o := .cells #[.int .u32 a1_0, .int .u32 a1_1, .slice A1_2 l1_2.length c1_2, .int .u32 a1_3] 40 (0, 0)) (by (with_reducible repeat (first | refine blk_drewN ?_ _ | refine blk_drew ?_ | refine blk_alloc ?_ _)); exact BK145.out) hb); have n2_ := Aside0.mk (blk_below (g := gb146) (o := .cells #[.int .u32 a2_0, .int .u32 a2_1, .int .u64 a2_2, .int .u64 a2_3, .int .u64 a2_4, .int .u64 a2_5, .int .u64 a2_6, .int .u64 a2_7, .int .u64 a2_8] 44 (0, 0)) (by (with_reducible repeat (first | refine blk_drewN ?_ _ | refine blk_drew ?_ | refine blk_alloc ?_ _)); exact BK146.out) hb); have n3_ := Aside0.mk (below_step (by repeat (first | (with_reducible first | exact HB.out | apply below_alloc | apply pw_below_drewN | apply below_drew1 | refine below_set ?_ GE144.out | refine below_set ?_ GE145.out | refine below_set ?_ GE146.out) | exact HB.out)) hb); clear BK144; clear BK145; clear BK146; clear HB; have BK144 := n0_; have BK145 := n1_; have BK146 := n2_; have HB := n3_; clear n0_ n1_ n2_ n3_; (try clear hb); (try clear hb2); (try clear hk); (try clear hi); have hcz63_0 : w62.cell? ⟨gb144, 0, none⟩ = some (.slice A0_0 l0_0.length c0_0) := (blk_cell BK144.out 0).trans rfl; have hcz63_1 : w62.cell? ⟨gb144, 1, none⟩ = some (.int .u32 a0_1) := (blk_cell BK144.out 1).trans rfl; have hfz63_0 := blk_frozen BK144.out 0; have hfz63_1 := blk_frozen BK144.out 1; have hcz64_0 : w62.cell? ⟨gb146, 0, none⟩ = some (.int .u32 a2_0) := (blk_cell BK146.out 0).trans rfl; have hcz64_1 : w62.cell? ⟨gb146, 1, none⟩ = some (.int .u32 a2_1) := (blk_cell BK146.out 1).trans rfl; have hcz64_2 : w62.cell? ⟨gb146, 2, none⟩ = some (.int .u64 a2_2) := (blk_cell BK146.out 2).trans rfl; have hcz64_3 : w62.cell? ⟨gb146, 3, none⟩ = some (.int .u64 a2_3) := (blk_cell BK146.out 3).trans rfl; have hcz64_4 : w62.cell? ⟨gb146, 4, none⟩ = some (.int .u64 a2_4) := (blk_cell BK146.out 4).trans rfl; have hcz64_5 : w62.cell? ⟨gb146, 5, none⟩ = some (.int .u64 a2_5) := (blk_cell BK146.out 5).trans rfl; have hcz64_6 : w62.cell? ⟨gb146, 6, none⟩ = some (.int .u64 a2_6) := (blk_cell BK146.out 6).trans rfl; have hcz64_7 : w62.cell? ⟨gb146, 7, none⟩ = some (.int .u64 a2_7) := (blk_cell BK146.out 7).trans rfl; have hcz64_8 : w62.cell? ⟨gb146, 8, none⟩ = some (.int .u64 a2_8) := (blk_cell BK146.out 8).trans rfl; have hfz64_0 := blk_frozen BK146.out 0; have hfz64_1 := blk_frozen BK146.out 1; have hfz64_2 := blk_frozen BK146.out 2; have hfz64_3 := blk_frozen BK146.out 3; have hfz64_4 := blk_frozen BK146.out 4; have hfz64_5 := blk_frozen BK146.out 5; have hfz64_6 := blk_frozen BK146.out 6; have hfz64_7 := blk_frozen BK146.out 7; have hfz64_8 := blk_frozen BK146.out 8) | ((with_reducible refine gate_callee (f := 28) rfl ?_); refine goesL_ (some 62) rfl rfl Try.func28 (by kernel_rfl) rfl #[.agg #[.slice A0_0 l0_0.length c0_0, .int .u32 a0_1], .agg #[.int .u32 a2_0, .int .u32 a2_1, .int .u64 a2_2, .int .u64 a2_3, .int .u64 a2_4, .int .u64 a2_5, .int .u64 a2_6, .int .u64 a2_7, .int .u64 a2_8]] rfl (by (try simp only [List.map_toArray, List.map_cons, List.map_nil]); first | done | rfl | (simp only [List.length_drop, List.length_take]; rfl)) ?_; (with_reducible refine (hurdleref11_First.calls _ _ l0_0 a0_1 a2_0 a2_1 a2_2 a2_3 a2_4 a2_5 a2_6 a2_7 a2_8 t156 _ ?side1 ?side2 A42.out).mono ?_); (case side1 => repeat (first | exact (Kd.C_below HR0_0.out HB.out) | (with_reducible refine Kd.C_alloc ?_ _) | (with_reducible refine Kd.C_drewN ?_ _) | (with_reducible refine Kd.C_drew ?_))); (case side2 => exact HC0_0.out); rintro e w65 ⟨rfl, hb⟩; refine ⟨_, rfl, ?_⟩; have n0_ := Aside0.mk (blk_below (g := gb144) (o := .cells #[.slice A0_0 l0_0.length c0_0, .int .u32 a0_1] 25 (0, 0)) (by (with_reducible repeat (first | refine blk_drewN ?_ _ | refine blk_drew ?_ | refine blk_alloc ?_ _)); exact BK144.out) hb); have n1_ := Aside0.mk (blk_below (g := gb145) (o := .cells #[.int .u32 a1_0, .int .u32 a1_1, .slice A1_2 l1_2.length c1_2, .int .u32 a1_3] 40 (0, 0)) (by (with_reducible repeat (first | refine blk_drewN ?_ _ | refine blk_drew ?_ | refine blk_alloc ?_ _)); exact BK145.out) hb); have n2_ := Aside0.mk (blk_below (g := gb146) (o := .cells #[.int .u32 a2_0, .int .u32 a2_1, .int .u64 a2_2, .int .u64 a2_3, .int .u64 a2_4, .int .u64 a2_5, .int .u64 a2_6, .int .u64 a2_7, .int .u64 a2_8] 44 (0, 0)) (by (with_reducible repeat (first | refine blk_drewN ?_ _ | refine blk_drew ?_ | refine blk_alloc ?_ _)); exact BK146.out) hb); have n3_ := Aside0.mk (below_step (by repeat (first | (with_reducible first | exact HB.out | apply below_alloc | apply pw_below_drewN | apply below_drew1 | refine below_set ?_ GE144.out | refine below_set ?_ GE145.out | refine below_set ?_ GE146.out) | exact HB.out)) hb); clear BK144; clear BK145; clear BK146; clear HB; have BK144 := n0_; have BK145 := n1_; have BK146 := n2_; have HB := n3_; clear n0_ n1_ n2_ n3_; (try clear hb); (try clear hb2); (try clear hk); (try clear hi); have hcz66_0 : w65.cell? ⟨gb144, 0, none⟩ = some (.slice A0_0 l0_0.length c0_0) := (blk_cell BK144.out 0).trans rfl; have hcz66_1 : w65.cell? ⟨gb144, 1, none⟩ = some (.int .u32 a0_1) := (blk_cell BK144.out 1).trans rfl; have hfz66_0 := blk_frozen BK144.out 0; have hfz66_1 := blk_frozen BK144.out 1; have hcz67_0 : w65.cell? ⟨gb146, 0, none⟩ = some (.int .u32 a2_0) := (blk_cell BK146.out 0).trans rfl; have hcz67_1 : w65.cell? ⟨gb146, 1, none⟩ = some (.int .u32 a2_1) := (blk_cell BK146.out 1).trans rfl; have hcz67_2 : w65.cell? ⟨gb146, 2, none⟩ = some (.int .u64 a2_2) := (blk_cell BK146.out 2).trans rfl; have hcz67_3 : w65.cell? ⟨gb146, 3, none⟩ = some (.int .u64 a2_3) := (blk_cell BK146.out 3).trans rfl; have hcz67_4 : w65.cell? ⟨gb146, 4, none⟩ = some (.int .u64 a2_4) := (blk_cell BK146.out 4).trans rfl; have hcz67_5 : w65.cell? ⟨gb146, 5, none⟩ = some (.int .u64 a2_5) := (blk_cell BK146.out 5).trans rfl; have hcz67_6 : w65.cell? ⟨gb146, 6, none⟩ = some (.int .u64 a2_6) := (blk_cell BK146.out 6).trans rfl; have hcz67_7 : w65.cell? ⟨gb146, 7, none⟩ = some (.int .u64 a2_7) := (blk_cell BK146.out 7).trans rfl; have hcz67_8 : w65.cell? ⟨gb146, 8, none⟩ = some (.int .u64 a2_8) := (blk_cell BK146.out 8).trans rfl; have hfz67_0 := blk_frozen BK146.out 0; have hfz67_1 := blk_frozen BK146.out 1; have hfz67_2 := blk_frozen BK146.out 2; have hfz67_3 := blk_frozen BK146.out 3; have hfz67_4 := blk_frozen BK146.out 4; have hfz67_5 := blk_frozen BK146.out 5; have hfz67_6 := blk_frozen BK146.out 6; have hfz67_7 := blk_frozen BK146.out 7; have hfz67_8 := blk_frozen BK146.out 8) | (go_at_call 29; (with_reducible refine (hurdleref11_Judge.calls _ _ l0_0 a0_1 a2_0 a2_1 a2_2 a2_3 a2_4 a2_5 a2_6 a2_7 a2_8 t157 _ ?side1 ?side2 A45.out).mono ?_); (case side1 => repeat (first | exact (Kd.C_below HR0_0.out HB.out) | (with_reducible refine Kd.C_alloc ?_ _) | (with_reducible refine Kd.C_drewN ?_ _) | (with_reducible refine Kd.C_drew ?_))); (case side2 => exact HC0_0.out); rintro e w68 ⟨rfl, hb⟩; have n0_ := Aside0.mk (blk_below (g := gb144) (o := .cells #[.slice A0_0 l0_0.length c0_0, .int .u32 a0_1] 25 (0, 0)) (by (with_reducible repeat (first | refine blk_drewN ?_ _ | refine blk_drew ?_ | refine blk_alloc ?_ _)); exact BK144.out) hb); have n1_ := Aside0.mk (blk_below (g := gb145) (o := .cells #[.int .u32 a1_0, .int .u32 a1_1, .slice A1_2 l1_2.length c1_2, .int .u32 a1_3] 40 (0, 0)) (by (with_reducible repeat (first | refine blk_drewN ?_ _ | refine blk_drew ?_ | refine blk_alloc ?_ _)); exact BK145.out) hb); have n2_ := Aside0.mk (blk_below (g := gb146) (o := .cells #[.int .u32 a2_0, .int .u32 a2_1, .int .u64 a2_2, .int .u64 a2_3, .int .u64 a2_4, .int .u64 a2_5, .int .u64 a2_6, .int .u64 a2_7, .int .u64 a2_8] 44 (0, 0)) (by (with_reducible repeat (first | refine blk_drewN ?_ _ | refine blk_drew ?_ | refine blk_alloc ?_ _)); exact BK146.out) hb); have n3_ := Aside0.mk (below_step (by repeat (first | (with_reducible first | exact HB.out | apply below_alloc | apply pw_below_drewN | apply below_drew1 | refine below_set ?_ GE144.out | refine below_set ?_ GE145.out | refine below_set ?_ GE146.out) | exact HB.out)) hb); clear BK144; clear BK145; clear BK146; clear HB; have BK144 := n0_; have BK145 := n1_; have BK146 := n2_; have HB := n3_; clear n0_ n1_ n2_ n3_; (try clear hb); (try clear hb2); (try clear hk); (try clear hi)) | (go_at_call 23; (with_reducible refine (hurdlelaw11_knows.calls  t158 _ A48.out).mono ?_); rintro e w69 ⟨rfl, hb⟩; have n0_ := Aside0.mk (blk_below (g := gb144) (o := .cells #[.slice A0_0 l0_0.length c0_0, .int .u32 a0_1] 25 (0, 0)) (by (with_reducible repeat (first | refine blk_drewN ?_ _ | refine blk_drew ?_ | refine blk_alloc ?_ _)); exact BK144.out) hb); have n1_ := Aside0.mk (blk_below (g := gb145) (o := .cells #[.int .u32 a1_0, .int .u32 a1_1, .slice A1_2 l1_2.length c1_2, .int .u32 a1_3] 40 (0, 0)) (by (with_reducible repeat (first | refine blk_drewN ?_ _ | refine blk_drew ?_ | refine blk_alloc ?_ _)); exact BK145.out) hb); have n2_ := Aside0.mk (blk_below (g := gb146) (o := .cells #[.int .u32 a2_0, .int .u32 a2_1, .int .u64 a2_2, .int .u64 a2_3, .int .u64 a2_4, .int .u64 a2_5, .int .u64 a2_6, .int .u64 a2_7, .int .u64 a2_8] 44 (0, 0)) (by (with_reducible repeat (first | refine blk_drewN ?_ _ | refine blk_drew ?_ | refine blk_alloc ?_ _)); exact BK146.out) hb); have n3_ := Aside0.mk (below_step (by repeat (first | (with_reducible first | exact HB.out | apply below_alloc | apply pw_below_drewN | apply below_drew1 | refine below_set ?_ GE144.out | refine below_set ?_ GE145.out | refine below_set ?_ GE146.out) | exact HB.out)) hb); clear BK144; clear BK145; clear BK146; clear HB; have BK144 := n0_; have BK145 := n1_; have BK146 := n2_; have HB := n3_; clear n0_ n1_ n2_ n3_; (try clear hb); (try clear hb2); (try clear hk); (try clear hi)))
                    go_ret
                    exact ⟨by first | rfl | (simp [errW_none, errW_some] <;> rfl) | (simp [*, errW_none, errW_some] <;> rfl), by repeat (first | (with_reducible first | exact HB.out | apply below_alloc | apply pw_below_drewN | apply below_drew1 | refine below_set ?_ GE144.out | refine below_set ?_ GE145.out | refine below_set ?_ GE146.out) | exact HB.out)⟩
                  · rw [if_neg c47] at H
                    exact absurd ((Option.some.inj H).trans ht) Bool.false_ne_true
                · rw [if_neg c46] at H
                  exact absurd ((Option.some.inj H).trans ht) Bool.false_ne_true
              · rw [if_neg c44] at H
                exact absurd ((Option.some.inj H).trans ht) Bool.false_ne_true
            · rw [if_neg c43] at H
              exact absurd ((Option.some.inj H).trans ht) Bool.false_ne_true
          · replace c41 := Bool.eq_false_iff.mpr c41
            subst c41
            have H1 : (if t149 = 0 then (if t150 = 1 then (if t151 = 0 then (if t152 = 1 then ((hurdlelaw11_knows.f).bind fun t159 => (some t159)) else (some false)) else (some false)) else (some false)) else (some false)) = some r := by rw [if_neg (show ¬ (false = true) by decide)] at H; exact H
            clear H
            have H := H1
            clear H1
            by_cases c144 : t149 = 0
            · rw [if_pos c144] at H
              have c144b0 : (t149 == 0) = true := beq_iff_eq.mpr c144
              have c144b1 : (t149 != 0) = false := bne_eq_false_iff_eq.mpr c144
              clear c144
              by_cases c145 : t150 = 1
              · rw [if_pos c145] at H
                have c145b0 : (t150 == 1) = true := beq_iff_eq.mpr c145
                have c145b1 : (t150 != 1) = false := bne_eq_false_iff_eq.mpr c145
                clear c145
                by_cases c146 : t151 = 0
                · rw [if_pos c146] at H
                  have c146b0 : (t151 == 0) = true := beq_iff_eq.mpr c146
                  have c146b1 : (t151 != 0) = false := bne_eq_false_iff_eq.mpr c146
                  clear c146
                  by_cases c147 : t152 = 1
                  · rw [if_pos c147] at H
                    have c147b0 : (t152 == 1) = true := beq_iff_eq.mpr c147
                    have c147b1 : (t152 != 1) = false := bne_eq_false_iff_eq.mpr c147
                    clear c147
                    replace H := Option.bind_eq_some_iff.mp H
                    obtain ⟨t159, A1480, H⟩ := H
                    replace H : (some t159) = some r := H
                    have A148 := Aside0.mk A1480
                    clear A1480
                    obtain rfl := Option.some.inj H
                    have hnb149 := NB144_145.out
                    have hnc149 := NB145_144.out
                    have hnb150 := NB144_146.out
                    have hnc150 := NB146_144.out
                    have hcz151_0 : wc.cell? ⟨gb144, 0, none⟩ = some (.slice A0_0 l0_0.length c0_0) := (blk_cell BK144.out 0).trans rfl
                    have hcz151_1 : wc.cell? ⟨gb144, 1, none⟩ = some (.int .u32 a0_1) := (blk_cell BK144.out 1).trans rfl
                    have hfz151_0 := blk_frozen BK144.out 0
                    have hfz151_1 := blk_frozen BK144.out 1
                    have hnb152 := NB146_145.out
                    have hnc152 := NB145_146.out
                    have hcz153_0 : wc.cell? ⟨gb146, 0, none⟩ = some (.int .u32 a2_0) := (blk_cell BK146.out 0).trans rfl
                    have hcz153_1 : wc.cell? ⟨gb146, 1, none⟩ = some (.int .u32 a2_1) := (blk_cell BK146.out 1).trans rfl
                    have hcz153_2 : wc.cell? ⟨gb146, 2, none⟩ = some (.int .u64 a2_2) := (blk_cell BK146.out 2).trans rfl
                    have hcz153_3 : wc.cell? ⟨gb146, 3, none⟩ = some (.int .u64 a2_3) := (blk_cell BK146.out 3).trans rfl
                    have hcz153_4 : wc.cell? ⟨gb146, 4, none⟩ = some (.int .u64 a2_4) := (blk_cell BK146.out 4).trans rfl
                    have hcz153_5 : wc.cell? ⟨gb146, 5, none⟩ = some (.int .u64 a2_5) := (blk_cell BK146.out 5).trans rfl
                    have hcz153_6 : wc.cell? ⟨gb146, 6, none⟩ = some (.int .u64 a2_6) := (blk_cell BK146.out 6).trans rfl
                    have hcz153_7 : wc.cell? ⟨gb146, 7, none⟩ = some (.int .u64 a2_7) := (blk_cell BK146.out 7).trans rfl
                    have hcz153_8 : wc.cell? ⟨gb146, 8, none⟩ = some (.int .u64 a2_8) := (blk_cell BK146.out 8).trans rfl
                    have hfz153_0 := blk_frozen BK146.out 0
                    have hfz153_1 := blk_frozen BK146.out 1
                    have hfz153_2 := blk_frozen BK146.out 2
                    have hfz153_3 := blk_frozen BK146.out 3
                    have hfz153_4 := blk_frozen BK146.out 4
                    have hfz153_5 := blk_frozen BK146.out 5
                    have hfz153_6 := blk_frozen BK146.out 6
                    have hfz153_7 := blk_frozen BK146.out 7
                    have hfz153_8 := blk_frozen BK146.out 8
                    try go_wp2_with (first | ((with_reducible refine gate_callee (f := 24) rfl ?_); refine goesL_ (some 23) rfl rfl Try.func24 (by kernel_rfl) rfl #[.agg #[.slice A0_0 l0_0.length c0_0, .int .u32 a0_1], .agg #[.int .u32 a2_0, .int .u32 a2_1, .int .u64 a2_2, .int .u64 a2_3, .int .u64 a2_4, .int .u64 a2_5, .int .u64 a2_6, .int .u64 a2_7, .int .u64 a2_8]] rfl (by (try simp only [List.map_toArray, List.map_cons, List.map_nil]); first | done | rfl | (simp only [List.length_drop, List.length_take]; rfl)) ?_; (with_reducible refine (denote_First.calls _ _ l0_0 a0_1 a2_0 a2_1 a2_2 a2_3 a2_4 a2_5 a2_6 a2_7 a2_8 t149 t150 _ ?side1 ?side2 A23.out).mono ?_); (case side1 => repeat (first | exact (Kd.C_below HR0_0.out HB.out) | (with_reducible refine Kd.C_alloc ?_ _) | (with_reducible refine Kd.C_drewN ?_ _) | (with_reducible refine Kd.C_drew ?_))); (case side2 => exact HC0_0.out); rintro e w154 ⟨rfl, hb⟩; refine ⟨_, rfl, ?_⟩; have n0_ := Aside0.mk (blk_below (g := gb144) (o := .cells #[.slice A0_0 l0_0.length c0_0, .int .u32 a0_1] 25 (0, 0)) (by (with_reducible repeat (first | refine blk_drewN ?_ _ | refine blk_drew ?_ | refine blk_alloc ?_ _)); exact BK144.out) hb); have n1_ := Aside0.mk (blk_below (g := gb145) (o := .cells #[.int .u32 a1_0, .int .u32 a1_1, .slice A1_2 l1_2.length c1_2, .int .u32 a1_3] 40 (0, 0)) (by (with_reducible repeat (first | refine blk_drewN ?_ _ | refine blk_drew ?_ | refine blk_alloc ?_ _)); exact BK145.out) hb); have n2_ := Aside0.mk (blk_below (g := gb146) (o := .cells #[.int .u32 a2_0, .int .u32 a2_1, .int .u64 a2_2, .int .u64 a2_3, .int .u64 a2_4, .int .u64 a2_5, .int .u64 a2_6, .int .u64 a2_7, .int .u64 a2_8] 44 (0, 0)) (by (with_reducible repeat (first | refine blk_drewN ?_ _ | refine blk_drew ?_ | refine blk_alloc ?_ _)); exact BK146.out) hb); have n3_ := Aside0.mk (below_step (by repeat (first | (with_reducible first | exact HB.out | apply below_alloc | apply pw_below_drewN | apply below_drew1 | refine below_set ?_ GE144.out | refine below_set ?_ GE145.out | refine below_set ?_ GE146.out) | exact HB.out)) hb); clear BK144; clear BK145; clear BK146; clear HB; have BK144 := n0_; have BK145 := n1_; have BK146 := n2_; have HB := n3_; clear n0_ n1_ n2_ n3_; (try clear hb); (try clear hb2); (try clear hk); (try clear hi); have hcz155_0 : w154.cell? ⟨gb144, 0, none⟩ = some (.slice A0_0 l0_0.length c0_0) := (blk_cell BK144.out 0).trans rfl; have hcz155_1 : w154.cell? ⟨gb144, 1, none⟩ = some (.int .u32 a0_1) := (blk_cell BK144.out 1).trans rfl; have hfz155_0 := blk_frozen BK144.out 0; have hfz155_1 := blk_frozen BK144.out 1; have hcz156_0 : w154.cell? ⟨gb146, 0, none⟩ = some (.int .u32 a2_0) := (blk_cell BK146.out 0).trans rfl; have hcz156_1 : w154.cell? ⟨gb146, 1, none⟩ = some (.int .u32 a2_1) := (blk_cell BK146.out 1).trans rfl; have hcz156_2 : w154.cell? ⟨gb146, 2, none⟩ = some (.int .u64 a2_2) := (blk_cell BK146.out 2).trans rfl; have hcz156_3 : w154.cell? ⟨gb146, 3, none⟩ = some (.int .u64 a2_3) := (blk_cell BK146.out 3).trans rfl; have hcz156_4 : w154.cell? ⟨gb146, 4, none⟩ = some (.int .u64 a2_4) := (blk_cell BK146.out 4).trans rfl; have hcz156_5 : w154.cell? ⟨gb146, 5, none⟩ = some (.int .u64 a2_5) := (blk_cell BK146.out 5).trans rfl; have hcz156_6 : w154.cell? ⟨gb146, 6, none⟩ = some (.int .u64 a2_6) := (blk_cell BK146.out 6).trans rfl; have hcz156_7 : w154.cell? ⟨gb146, 7, none⟩ = some (.int .u64 a2_7) := (blk_cell BK146.out 7).trans rfl; have hcz156_8 : w154.cell? ⟨gb146, 8, none⟩ = some (.int .u64 a2_8) := (blk_cell BK146.out 8).trans rfl; have hfz156_0 := blk_frozen BK146.out 0; have hfz156_1 := blk_frozen BK146.out 1; have hfz156_2 := blk_frozen BK146.out 2; have hfz156_3 := blk_frozen BK146.out 3; have hfz156_4 := blk_frozen BK146.out 4; have hfz156_5 := blk_frozen BK146.out 5; have hfz156_6 := blk_frozen BK146.out 6; have hfz156_7 := blk_frozen BK146.out 7; have hfz156_8 := blk_frozen BK146.out 8) | ((with_reducible refine gate_callee (f := 25) rfl ?_); refine goesL_ (some 29) rfl rfl Try.func25 (by kernel_rfl) rfl #[.agg #[.slice A0_0 l0_0.length c0_0, .int .u32 a0_1], .agg #[.int .u32 a2_0, .int .u32 a2_1, .int .u64 a2_2, .int .u64 a2_3, .int .u64 a2_4, .int .u64 a2_5, .int .u64 a2_6, .int .u64 a2_7, .int .u64 a2_8]] rfl (by (try simp only [List.map_toArray, List.map_cons, List.map_nil]); first | done | rfl | (simp only [List.length_drop, List.length_take]; rfl)) ?_; (with_reducible refine (denote_Judge.calls _ _ l0_0 a0_1 a2_0 a2_1 a2_2 a2_3 a2_4 a2_5 a2_6 a2_7 a2_8 t151 t152 _ ?side1 ?side2 A24.out).mono ?_); (case side1 => repeat (first | exact (Kd.C_below HR0_0.out HB.out) | (with_reducible refine Kd.C_alloc ?_ _) | (with_reducible refine Kd.C_drewN ?_ _) | (with_reducible refine Kd.C_drew ?_))); (case side2 => exact HC0_0.out); rintro e w157 ⟨rfl, hb⟩; refine ⟨_, rfl, ?_⟩; have n0_ := Aside0.mk (blk_below (g := gb144) (o := .cells #[.slice A0_0 l0_0.length c0_0, .int .u32 a0_1] 25 (0, 0)) (by (with_reducible repeat (first | refine blk_drewN ?_ _ | refine blk_drew ?_ | refine blk_alloc ?_ _)); exact BK144.out) hb); have n1_ := Aside0.mk (blk_below (g := gb145) (o := .cells #[.int .u32 a1_0, .int .u32 a1_1, .slice A1_2 l1_2.length c1_2, .int .u32 a1_3] 40 (0, 0)) (by (with_reducible repeat (first | refine blk_drewN ?_ _ | refine blk_drew ?_ | refine blk_alloc ?_ _)); exact BK145.out) hb); have n2_ := Aside0.mk (blk_below (g := gb146) (o := .cells #[.int .u32 a2_0, .int .u32 a2_1, .int .u64 a2_2, .int .u64 a2_3, .int .u64 a2_4, .int .u64 a2_5, .int .u64 a2_6, .int .u64 a2_7, .int .u64 a2_8] 44 (0, 0)) (by (with_reducible repeat (first | refine blk_drewN ?_ _ | refine blk_drew ?_ | refine blk_alloc ?_ _)); exact BK146.out) hb); have n3_ := Aside0.mk (below_step (by repeat (first | (with_reducible first | exact HB.out | apply below_alloc | apply pw_below_drewN | apply below_drew1 | refine below_set ?_ GE144.out | refine below_set ?_ GE145.out | refine below_set ?_ GE146.out) | exact HB.out)) hb); clear BK144; clear BK145; clear BK146; clear HB; have BK144 := n0_; have BK145 := n1_; have BK146 := n2_; have HB := n3_; clear n0_ n1_ n2_ n3_; (try clear hb); (try clear hb2); (try clear hk); (try clear hi)))
                    have n0_ := Aside0.mk (blk_drew BK144.out)
                    have n1_ := Aside0.mk (blk_drew BK145.out)
                    have n2_ := Aside0.mk (blk_drew BK146.out)
                    have n3_ := Aside0.mk (below_drew1 HB.out)
                    clear BK144
                    clear BK145
                    clear BK146
                    clear HB
                    have BK144 := n0_
                    have BK145 := n1_
                    have BK146 := n2_
                    have HB := n3_
                    clear n0_ n1_ n2_ n3_
                    refine start_ (n := 7) (S := fun w' => w'.cell? ⟨gb145, 0, none⟩ = some (.int .u32 a1_0) ∧ w'.cell? ⟨gb145, 1, none⟩ = some (.int .u32 a1_1) ∧ w'.cell? ⟨gb145, 2, none⟩ = some (.slice A1_2 l1_2.length c1_2) ∧ w'.cell? ⟨gb145, 3, none⟩ = some (.int .u32 a1_3) ∧ w'.cell? ⟨gb146, 0, none⟩ = some (.int .u32 a2_0) ∧ w'.cell? ⟨gb146, 1, none⟩ = some (.int .u32 a2_1) ∧ w'.cell? ⟨gb146, 2, none⟩ = some (.int .u64 a2_2) ∧ w'.cell? ⟨gb146, 3, none⟩ = some (.int .u64 a2_3) ∧ w'.cell? ⟨gb146, 4, none⟩ = some (.int .u64 a2_4) ∧ w'.cell? ⟨gb146, 5, none⟩ = some (.int .u64 a2_5) ∧ w'.cell? ⟨gb146, 6, none⟩ = some (.int .u64 a2_6) ∧ w'.cell? ⟨gb146, 7, none⟩ = some (.int .u64 a2_7) ∧ w'.cell? ⟨gb146, 8, none⟩ = some (.int .u64 a2_8)) (ds := []) #[false, false, false, false, false, false, false] (by kernel_rfl) rfl rfl ⟨(blk_cell BK145.out 0).trans rfl, (blk_cell BK145.out 1).trans rfl, (blk_cell BK145.out 2).trans rfl, (blk_cell BK145.out 3).trans rfl, (blk_cell BK146.out 0).trans rfl, (blk_cell BK146.out 1).trans rfl, (blk_cell BK146.out 2).trans rfl, (blk_cell BK146.out 3).trans rfl, (blk_cell BK146.out 4).trans rfl, (blk_cell BK146.out 5).trans rfl, (blk_cell BK146.out 6).trans rfl, (blk_cell BK146.out 7).trans rfl, (blk_cell BK146.out 8).trans rfl⟩ (fun hHeld => ?_)
                    generalize w157.drew = w158 at BK144 BK145 BK146 HB hHeld ⊢
                    refine take_ (i := 0) (N := some 32) (v := ?_) (a' := ?_) #[true, false, false, false, false, false, false] rfl rfl (by kernel_rfl) (fun _ _ _ h => h) (Or.inl ⟨by rfl, ?_⟩) hHeld ?_ ?_
                    rotate_left
                    · rintro w' ⟨s0, s1, s2, s3, s4, s5, s6, s7, s8, s9, s10, s11, s12⟩
                      go_simp
                      with_reducible rfl
                    rotate_left
                    · simp only [Act.put, List.setIfInBounds_toArray, List.set_cons_zero, List.set_cons_succ, i64_w, i32_w]
                      rfl
                    refine take_ (i := 1) (N := some 33) (v := ?_) (a' := ?_) #[true, true, false, false, false, false, false] rfl rfl (by kernel_rfl) (fun _ _ _ h => h) (Or.inl ⟨by rfl, ?_⟩) hHeld ?_ ?_
                    rotate_left
                    · rintro w' ⟨s0, s1, s2, s3, s4, s5, s6, s7, s8, s9, s10, s11, s12⟩
                      go_simp
                      with_reducible rfl
                    rotate_left
                    · simp only [Act.put, List.setIfInBounds_toArray, List.set_cons_zero, List.set_cons_succ, i64_w, i32_w]
                      rfl
                    refine take_ (i := 3) (N := some 35) (v := ?_) (a' := ?_) #[true, true, false, true, false, false, false] rfl rfl (by kernel_rfl) (fun _ _ _ h => h) (Or.inl ⟨by rfl, ?_⟩) hHeld ?_ ?_
                    rotate_left
                    · rintro w' ⟨s0, s1, s2, s3, s4, s5, s6, s7, s8, s9, s10, s11, s12⟩
                      go_simp
                      with_reducible rfl
                    rotate_left
                    · simp only [Act.put, List.setIfInBounds_toArray, List.set_cons_zero, List.set_cons_succ, i64_w, i32_w]
                      rfl
                    refine take_ (i := 4) (N := some 36) (v := ?_) (a' := ?_) #[true, true, false, true, true, false, false] rfl rfl (by kernel_rfl) (fun _ _ _ h => h) (Or.inl ⟨by rfl, ?_⟩) hHeld ?_ ?_
                    rotate_left
                    · rintro w' ⟨s0, s1, s2, s3, s4, s5, s6, s7, s8, s9, s10, s11, s12⟩
                      go_simp
                      with_reducible rfl
                    rotate_left
                    · simp only [Act.put, List.setIfInBounds_toArray, List.set_cons_zero, List.set_cons_succ, i64_w, i32_w]
                      rfl
                    refine one_ (i := 2) (N := some 34) #[true, true, true, true, true, false, false] rfl rfl (by kernel_rfl) (by decide) (fun K hK => ?_)
                    refine goes_ Try.func26 (by kernel_rfl) rfl #[.agg #[.int .u32 a1_0, .int .u32 a1_1, .slice A1_2 l1_2.length c1_2, .int .u32 a1_3], .agg #[.int .u32 a2_0, .int .u32 a2_1, .int .u64 a2_2, .int .u64 a2_3, .int .u64 a2_4, .int .u64 a2_5, .int .u64 a2_6, .int .u64 a2_7, .int .u64 a2_8]] (by rfl) rfl rfl (by (try simp only [List.map_toArray, List.map_cons, List.map_nil]); first | done | rfl | (simp only [List.length_drop, List.length_take]; rfl)) ?_
                    with_reducible refine (denote_Fits.calls a1_0 a1_1 _ _ l1_2 a1_3 a2_0 a2_1 a2_2 a2_3 a2_4 a2_5 a2_6 a2_7 a2_8 t153 _ ?side1 ?side2 A25.out).mono ?_
                    (case side1 => repeat (first | exact (Kd.C_below HR1_2.out HB.out) | (with_reducible refine Kd.C_alloc ?_ _) | (with_reducible refine Kd.C_drewN ?_ _) | (with_reducible refine Kd.C_drew ?_)))
                    (case side2 => exact HC1_2.out)
                    rintro e w159 ⟨rfl, hb⟩
                    refine ⟨_, rfl, ?_⟩
                    have n0_ := Aside0.mk (blk_below (g := gb144) (o := .cells #[.slice A0_0 l0_0.length c0_0, .int .u32 a0_1] 25 (0, 0)) (by (with_reducible repeat (first | refine blk_drewN ?_ _ | refine blk_drew ?_ | refine blk_alloc ?_ _)); exact BK144.out) hb)
                    have n1_ := Aside0.mk (blk_below (g := gb145) (o := .cells #[.int .u32 a1_0, .int .u32 a1_1, .slice A1_2 l1_2.length c1_2, .int .u32 a1_3] 40 (0, 0)) (by (with_reducible repeat (first | refine blk_drewN ?_ _ | refine blk_drew ?_ | refine blk_alloc ?_ _)); exact BK145.out) hb)
                    have n2_ := Aside0.mk (blk_below (g := gb146) (o := .cells #[.int .u32 a2_0, .int .u32 a2_1, .int .u64 a2_2, .int .u64 a2_3, .int .u64 a2_4, .int .u64 a2_5, .int .u64 a2_6, .int .u64 a2_7, .int .u64 a2_8] 44 (0, 0)) (by (with_reducible repeat (first | refine blk_drewN ?_ _ | refine blk_drew ?_ | refine blk_alloc ?_ _)); exact BK146.out) hb)
                    have n3_ := Aside0.mk (below_step (by repeat (first | (with_reducible first | exact HB.out | apply below_alloc | apply pw_below_drewN | apply below_drew1 | refine below_set ?_ GE144.out | refine below_set ?_ GE145.out | refine below_set ?_ GE146.out) | exact HB.out)) hb)
                    clear BK144
                    clear BK145
                    clear BK146
                    clear HB
                    have BK144 := n0_
                    have BK145 := n1_
                    have BK146 := n2_
                    have HB := n3_
                    clear n0_ n1_ n2_ n3_
                    (try clear hb)
                    (try clear hb2)
                    (try clear hk)
                    (try clear hi)
                    refine hK.out _ _ ⟨(blk_cell BK145.out 0).trans rfl, (blk_cell BK145.out 1).trans rfl, (blk_cell BK145.out 2).trans rfl, (blk_cell BK145.out 3).trans rfl, (blk_cell BK146.out 0).trans rfl, (blk_cell BK146.out 1).trans rfl, (blk_cell BK146.out 2).trans rfl, (blk_cell BK146.out 3).trans rfl, (blk_cell BK146.out 4).trans rfl, (blk_cell BK146.out 5).trans rfl, (blk_cell BK146.out 6).trans rfl, (blk_cell BK146.out 7).trans rfl, (blk_cell BK146.out 8).trans rfl⟩ (fun hHeld => ?_)
                    clear hK K
                    refine norm_ (a' := ?_) ?_ ?_
                    rotate_left
                    · show Act.put _ (some 34) _ = _
                      simp only [Act.put, List.setIfInBounds_toArray, List.set_cons_zero, List.set_cons_succ, i64_w, i32_w]
                      rfl
                    refine one_ (i := 5) (N := some 37) #[true, true, true, true, true, true, false] rfl rfl (by kernel_rfl) (by decide) (fun K hK => ?_)
                    refine goes_ Try.func27 (by kernel_rfl) rfl #[.agg #[.int .u32 a1_0, .int .u32 a1_1, .slice A1_2 l1_2.length c1_2, .int .u32 a1_3], .agg #[.int .u32 a2_0, .int .u32 a2_1, .int .u64 a2_2, .int .u64 a2_3, .int .u64 a2_4, .int .u64 a2_5, .int .u64 a2_6, .int .u64 a2_7, .int .u64 a2_8]] (by rfl) rfl rfl (by (try simp only [List.map_toArray, List.map_cons, List.map_nil]); first | done | rfl | (simp only [List.length_drop, List.length_take]; rfl)) ?_
                    with_reducible refine (hurdleref11_Fits.calls a1_0 a1_1 _ _ l1_2 a1_3 a2_0 a2_1 a2_2 a2_3 a2_4 a2_5 a2_6 a2_7 a2_8 t154 _ ?side1 ?side2 A26.out).mono ?_
                    (case side1 => repeat (first | exact (Kd.C_below HR1_2.out HB.out) | (with_reducible refine Kd.C_alloc ?_ _) | (with_reducible refine Kd.C_drewN ?_ _) | (with_reducible refine Kd.C_drew ?_)))
                    (case side2 => exact HC1_2.out)
                    rintro e w160 ⟨rfl, hb⟩
                    refine ⟨_, rfl, ?_⟩
                    have n0_ := Aside0.mk (blk_below (g := gb144) (o := .cells #[.slice A0_0 l0_0.length c0_0, .int .u32 a0_1] 25 (0, 0)) (by (with_reducible repeat (first | refine blk_drewN ?_ _ | refine blk_drew ?_ | refine blk_alloc ?_ _)); exact BK144.out) hb)
                    have n1_ := Aside0.mk (blk_below (g := gb145) (o := .cells #[.int .u32 a1_0, .int .u32 a1_1, .slice A1_2 l1_2.length c1_2, .int .u32 a1_3] 40 (0, 0)) (by (with_reducible repeat (first | refine blk_drewN ?_ _ | refine blk_drew ?_ | refine blk_alloc ?_ _)); exact BK145.out) hb)
                    have n2_ := Aside0.mk (blk_below (g := gb146) (o := .cells #[.int .u32 a2_0, .int .u32 a2_1, .int .u64 a2_2, .int .u64 a2_3, .int .u64 a2_4, .int .u64 a2_5, .int .u64 a2_6, .int .u64 a2_7, .int .u64 a2_8] 44 (0, 0)) (by (with_reducible repeat (first | refine blk_drewN ?_ _ | refine blk_drew ?_ | refine blk_alloc ?_ _)); exact BK146.out) hb)
                    have n3_ := Aside0.mk (below_step (by repeat (first | (with_reducible first | exact HB.out | apply below_alloc | apply pw_below_drewN | apply below_drew1 | refine below_set ?_ GE144.out | refine below_set ?_ GE145.out | refine below_set ?_ GE146.out) | exact HB.out)) hb)
                    clear BK144
                    clear BK145
                    clear BK146
                    clear HB
                    have BK144 := n0_
                    have BK145 := n1_
                    have BK146 := n2_
                    have HB := n3_
                    clear n0_ n1_ n2_ n3_
                    (try clear hb)
                    (try clear hb2)
                    (try clear hk)
                    (try clear hi)
                    refine hK.out _ _ ⟨(blk_cell BK145.out 0).trans rfl, (blk_cell BK145.out 1).trans rfl, (blk_cell BK145.out 2).trans rfl, (blk_cell BK145.out 3).trans rfl, (blk_cell BK146.out 0).trans rfl, (blk_cell BK146.out 1).trans rfl, (blk_cell BK146.out 2).trans rfl, (blk_cell BK146.out 3).trans rfl, (blk_cell BK146.out 4).trans rfl, (blk_cell BK146.out 5).trans rfl, (blk_cell BK146.out 6).trans rfl, (blk_cell BK146.out 7).trans rfl, (blk_cell BK146.out 8).trans rfl⟩ (fun hHeld => ?_)
                    clear hK K
                    refine norm_ (a' := ?_) ?_ ?_
                    rotate_left
                    · show Act.put _ (some 37) _ = _
                      simp only [Act.put, List.setIfInBounds_toArray, List.set_cons_zero, List.set_cons_succ, i64_w, i32_w]
                      rfl
                    refine pure_ (i := 6) (N := some 38) (v := ?_) (a' := ?_) #[true, true, true, true, true, true, true] rfl rfl (by kernel_rfl) (fun _ _ _ h => h) (Or.inl ⟨by rfl, ?_⟩) ?_ ?_
                    rotate_left
                    · intro w'
                      go_simp
                      with_reducible rfl
                    rotate_left
                    · simp only [Act.put, List.setIfInBounds_toArray, List.set_cons_zero, List.set_cons_succ, i64_w, i32_w]
                      rfl
                    refine done_ (by kernel_rfl) ?_
                    have hcz161_0 : w160.cell? ⟨gb144, 0, none⟩ = some (.slice A0_0 l0_0.length c0_0) := (blk_cell BK144.out 0).trans rfl
                    have hcz161_1 : w160.cell? ⟨gb144, 1, none⟩ = some (.int .u32 a0_1) := (blk_cell BK144.out 1).trans rfl
                    have hfz161_0 := blk_frozen BK144.out 0
                    have hfz161_1 := blk_frozen BK144.out 1
                    try go_wp2_with (first | ((with_reducible refine gate_callee (f := 17) rfl ?_); refine goesL_ (some 40) rfl rfl Try.func17 (by kernel_rfl) rfl #[.agg #[.slice A0_0 l0_0.length c0_0, .int .u32 a0_1]] rfl (by (try simp only [List.map_toArray, List.map_cons, List.map_nil]); first | done | rfl | (simp only [List.length_drop, List.length_take]; rfl)) ?_; (with_reducible refine (hurdleref10_Right.calls _ _ l0_0 a0_1 false _ ?side1 ?side2 A40.out).mono ?_); (case side1 => repeat (first | exact (Kd.C_below HR0_0.out HB.out) | (with_reducible refine Kd.C_alloc ?_ _) | (with_reducible refine Kd.C_drewN ?_ _) | (with_reducible refine Kd.C_drew ?_))); (case side2 => exact HC0_0.out); rintro e w162 ⟨rfl, hb⟩; refine ⟨_, rfl, ?_⟩; have n0_ := Aside0.mk (blk_below (g := gb144) (o := .cells #[.slice A0_0 l0_0.length c0_0, .int .u32 a0_1] 25 (0, 0)) (by (with_reducible repeat (first | refine blk_drewN ?_ _ | refine blk_drew ?_ | refine blk_alloc ?_ _)); exact BK144.out) hb); have n1_ := Aside0.mk (blk_below (g := gb145) (o := .cells #[.int .u32 a1_0, .int .u32 a1_1, .slice A1_2 l1_2.length c1_2, .int .u32 a1_3] 40 (0, 0)) (by (with_reducible repeat (first | refine blk_drewN ?_ _ | refine blk_drew ?_ | refine blk_alloc ?_ _)); exact BK145.out) hb); have n2_ := Aside0.mk (blk_below (g := gb146) (o := .cells #[.int .u32 a2_0, .int .u32 a2_1, .int .u64 a2_2, .int .u64 a2_3, .int .u64 a2_4, .int .u64 a2_5, .int .u64 a2_6, .int .u64 a2_7, .int .u64 a2_8] 44 (0, 0)) (by (with_reducible repeat (first | refine blk_drewN ?_ _ | refine blk_drew ?_ | refine blk_alloc ?_ _)); exact BK146.out) hb); have n3_ := Aside0.mk (below_step (by repeat (first | (with_reducible first | exact HB.out | apply below_alloc | apply pw_below_drewN | apply below_drew1 | refine below_set ?_ GE144.out | refine below_set ?_ GE145.out | refine below_set ?_ GE146.out) | exact HB.out)) hb); clear BK144; clear BK145; clear BK146; clear HB; have BK144 := n0_; have BK145 := n1_; have BK146 := n2_; have HB := n3_; clear n0_ n1_ n2_ n3_; (try clear hb); (try clear hb2); (try clear hk); (try clear hi)) | (go_at_call 23; (with_reducible refine (hurdlelaw11_knows.calls  t159 _ A148.out).mono ?_); rintro e w163 ⟨rfl, hb⟩; have n0_ := Aside0.mk (blk_below (g := gb144) (o := .cells #[.slice A0_0 l0_0.length c0_0, .int .u32 a0_1] 25 (0, 0)) (by (with_reducible repeat (first | refine blk_drewN ?_ _ | refine blk_drew ?_ | refine blk_alloc ?_ _)); exact BK144.out) hb); have n1_ := Aside0.mk (blk_below (g := gb145) (o := .cells #[.int .u32 a1_0, .int .u32 a1_1, .slice A1_2 l1_2.length c1_2, .int .u32 a1_3] 40 (0, 0)) (by (with_reducible repeat (first | refine blk_drewN ?_ _ | refine blk_drew ?_ | refine blk_alloc ?_ _)); exact BK145.out) hb); have n2_ := Aside0.mk (blk_below (g := gb146) (o := .cells #[.int .u32 a2_0, .int .u32 a2_1, .int .u64 a2_2, .int .u64 a2_3, .int .u64 a2_4, .int .u64 a2_5, .int .u64 a2_6, .int .u64 a2_7, .int .u64 a2_8] 44 (0, 0)) (by (with_reducible repeat (first | refine blk_drewN ?_ _ | refine blk_drew ?_ | refine blk_alloc ?_ _)); exact BK146.out) hb); have n3_ := Aside0.mk (below_step (by repeat (first | (with_reducible first | exact HB.out | apply below_alloc | apply pw_below_drewN | apply below_drew1 | refine below_set ?_ GE144.out | refine below_set ?_ GE145.out | refine below_set ?_ GE146.out) | exact HB.out)) hb); clear BK144; clear BK145; clear BK146; clear HB; have BK144 := n0_; have BK145 := n1_; have BK146 := n2_; have HB := n3_; clear n0_ n1_ n2_ n3_; (try clear hb); (try clear hb2); (try clear hk); (try clear hi)))
                    go_ret
                    exact ⟨by first | rfl | (simp [errW_none, errW_some] <;> rfl) | (simp [*, errW_none, errW_some] <;> rfl), by repeat (first | (with_reducible first | exact HB.out | apply below_alloc | apply pw_below_drewN | apply below_drew1 | refine below_set ?_ GE144.out | refine below_set ?_ GE145.out | refine below_set ?_ GE146.out) | exact HB.out)⟩
                  · rw [if_neg c147] at H
                    exact absurd ((Option.some.inj H).trans ht) Bool.false_ne_true
                · rw [if_neg c146] at H
                  exact absurd ((Option.some.inj H).trans ht) Bool.false_ne_true
              · rw [if_neg c145] at H
                exact absurd ((Option.some.inj H).trans ht) Bool.false_ne_true
            · rw [if_neg c144] at H
              exact absurd ((Option.some.inj H).trans ht) Bool.false_ne_true
end Go.Proofs.Ytekpbgmmogpbdaa.D
set_option linter.unusedVariables false
set_option linter.unusedSimpArgs false
set_option maxRecDepth 100000
namespace Go.Proofs.Ytekpbgmmogpbdaa.H
open Go.RowKit Go.Proofs.YtekpbgmmogpbdaaW.PrintWords Go.ChangeShapes Go.WideShapes
section
variable {H : Type} {enc : TypeId × Value → H} {P : Program} {w : World} {base : Nat} {spare : Nat → Bool} {held : Bool} {fuel : Nat} {t : TypeId} {cs : List Value} {x : DataW H × List MemPlace}
theorem trod_arr_ints {n : Nat} {e : TypeId} {k : IntKind} (ht : P.underlying t = some (.array n e)) (he : P.underlying e = some (.int k)) (hc : P.cellsOf e = 1) (hct : P.cellsOf t = n)
    (h : DataW.trod enc P w base spare held fuel t cs = some x) :
    ∃ xs : List Int, xs.length = n ∧ cs = nums k xs ∧ x.2 = [] ∧ ∀ i, i < n → (Lit.int k (xs.getD i 0)).wf = true := by
  obtain ⟨ys, m, _, rfl, hl, hly, hf⟩ := DataW.trod_array ht h
  rw [hct] at hl
  have key : ∀ i, i < n → ∃ z y, cs[i]? = some (.int k z) ∧ ys[i]? = some y ∧ y.2 = [] ∧ (Lit.int k z).wf = true := by
    intro i hi
    have h1 := hf i hi
    rw [hc, Nat.mul_one, List.getElem?_eq_getElem (show i < ys.length by omega)] at h1
    obtain ⟨z, h2, h3, h4⟩ := DataW.trod_int he h1
    refine ⟨z, ys[i]'(by omega), ?_, List.getElem?_eq_getElem (by omega), by rw [h3], h4⟩
    have h5 : (cs.drop i).take 1 = [cs[i]'(by omega)] := by
      rw [List.take_one, List.head?_drop, List.getElem?_eq_getElem (show i < cs.length by omega)]
      rfl
    rw [h5] at h2
    rw [List.getElem?_eq_getElem (show i < cs.length by omega)]
    simpa using h2
  refine ⟨cs.map intOf, by simpa using hl, ?_, ?_, ?_⟩
  · apply List.ext_getElem?
    intro i
    by_cases hi : i < n
    · obtain ⟨z, y, h1, _⟩ := key i hi
      simp [nums, h1, intOf]
    · rw [List.getElem?_eq_none (by omega), List.getElem?_eq_none (by simp [nums]; omega)]
  · show ys.flatMap (·.2) = []
    rw [List.flatMap_eq_nil_iff]
    intro y hy
    obtain ⟨i, hi, rfl⟩ := List.mem_iff_getElem.1 hy
    obtain ⟨z, y, _, h2, h3, _⟩ := key i (by omega)
    rw [List.getElem?_eq_getElem hi] at h2
    cases h2
    exact h3
  · intro i hi
    obtain ⟨z, y, h1, _, _, h4⟩ := key i hi
    rw [show (cs.map intOf).getD i 0 = z by simp [List.getD_eq_getElem?_getD, h1, intOf]]
    exact h4
end
end Go.Proofs.Ytekpbgmmogpbdaa.H
set_option linter.unusedVariables false
set_option linter.unusedSimpArgs false
set_option maxRecDepth 100000
namespace Go.Proofs.Ytekpbgmmogpbdaa.H
open Go.RowKit Go.Proofs.Ytekpbgmmogpbdaa.P Go.Proofs.YtekpbgmmogpbdaaW.PrintWords Go.ChangeShapes Go.WideShapes
section
variable {H : Type} {enc : TypeId × Value → H} {w : World} {base : Nat} {spare : Nat → Bool} {held : Bool} {fuel : Nat} {x : DataW H × List MemPlace}
theorem open_kd {α : Type} (d : Kd α) (Q : α → Prop) {t e : TypeId} (ht : Try.prog.underlying t = some (.slice e)) (hs : Try.prog.cellsOf e = d.sz) {cs : List Value}
    (el : ∀ (n : Nat) (cs : List Value) (x : DataW H × List MemPlace), cs.length = d.sz → DataW.trod enc Try.prog w base spare held n e cs = some x → ∃ a : α, d.K w a cs ∧ Q a)
    (h : DataW.trod enc Try.prog w base spare held fuel t cs = some x) :
    ∃ A c L, cs = [.slice A L.length c] ∧ L.length ≤ c ∧ d.C w A L.length L ∧ ∀ a ∈ L, Q a := by
  rcases DataW.trod_slice ht h with ⟨rfl, _⟩ | ⟨a, len, cap, elems, rest, n, _, rfl, _, hb, hl, hm, hlen, hel, _⟩
  · exact ⟨none, 0, [], rfl, Nat.le_refl _, ⟨rfl, by simp, fun h => absurd h (by simp)⟩, by simp⟩
  · have key : ∀ i, i < len → ∃ cs', w.cells? base (a.add (i * d.sz)) d.sz = some cs' ∧ ∃ z : α, d.K w z cs' ∧ Q z := by
      intro i hi
      have h1 := hel i hi
      rw [hs, List.getElem?_eq_getElem (show i < elems.length by omega)] at h1
      obtain ⟨cs', h2, h3⟩ := Option.bind_eq_some_iff.1 h1
      exact ⟨cs', h2, el n cs' _ (World.cells?_some h2).2.1 h3⟩
    have : ∃ L : List α, L.length = len ∧ ∀ i (hi : i < L.length), ∃ cs', w.cells? base (a.add (i * d.sz)) d.sz = some cs' ∧ d.K w L[i] cs' ∧ Q L[i] := by
      have : ∀ m, m ≤ len → ∃ L : List α, L.length = m ∧ ∀ i (hi : i < L.length), ∃ cs', w.cells? base (a.add (i * d.sz)) d.sz = some cs' ∧ d.K w L[i] cs' ∧ Q L[i] := by
        intro m
        induction m with
        | zero => intro _; exact ⟨[], rfl, fun i hi => absurd hi (by simp)⟩
        | succ m ih =>
          intro hm
          obtain ⟨L, hL, hp⟩ := ih (by omega)
          obtain ⟨cs', h1, z, h2, h3⟩ := key m (by omega)
          refine ⟨L ++ [z], by simp [hL], fun i hi => ?_⟩
          by_cases hlt : i < L.length
          · obtain ⟨c2, g1, g2, g3⟩ := hp i hlt
            exact ⟨c2, g1, by rw [List.getElem_append_left hlt]; exact g2, by rw [List.getElem_append_left hlt]; exact g3⟩
          · have e : i = m := by simp at hi; omega
            subst e
            have hz : (L ++ [z])[i] = z := by rw [List.getElem_append_right (by omega)]; simp [hL]
            exact ⟨cs', h1, by rw [hz]; exact h2, by rw [hz]; exact h3⟩
      exact this len (Nat.le_refl _)
    obtain ⟨L, hL, hp⟩ := this
    subst hL
    refine ⟨some a, cap, L, rfl, hl, ⟨rfl, ?_, fun _ => ⟨a, rfl, fun j p hj => ?_⟩⟩, fun z hz => ?_⟩
    · unfold maxLen at hm; omega
    · obtain ⟨hlt, rfl⟩ := List.getElem?_eq_some_iff.1 hj
      obtain ⟨cs', h1, h2, h3⟩ := hp j hlt
      obtain ⟨_, h5, h6⟩ := World.cells?_some h1
      refine ⟨cs', h5, h2, fun i u hu => ?_⟩
      have hi : i < d.sz := by rw [← h5]; exact (List.getElem?_eq_some_iff.1 hu).1
      have := h6 i hi
      rw [hu] at this
      rw [← Go.Proofs.YtekpbgmmogpbdaaW.PrintWords.add_add]
      exact this
    · obtain ⟨i, hi, rfl⟩ := List.mem_iff_getElem.1 hz
      obtain ⟨_, _, _, h⟩ := hp i hi
      exact h
theorem wf32 {n : Int} (h : (Lit.int .u32 n).wf = true) : u32P n := by have := bounds_u32 h; unfold u32P; omega
theorem wf64 {n : Int} (h : (Lit.int .u64 n).wf = true) : u64P n := by have := bounds_u64 h; unfold u64P; omega
theorem el_cond (n : Nat) (cs : List Value) (x : DataW H × List MemPlace) (hl : cs.length = 4) (h : DataW.trod enc Try.prog w base spare held n 61 cs = some x) : ∃ a : S61, k61.K w a cs ∧ condK a := by
  obtain ⟨xs, m, _, hx, hl2, hlx, hfi⟩ := DataW.trod_struct Try.underlying61 h
  have h1 : Try.prog.cellsOf 3 = 1 := by kernel_rfl
  have h2 : Try.prog.cellsOf 41 = 1 := by kernel_rfl
  match cs, hl with
  | [c0, c1, c2, c3], _ =>
    match xs, hlx with
    | [y0, y1, y2, y3], _ =>
      have f0 : DataW.trod enc Try.prog w base spare held m 3 ((List.drop 0 [c0, c1, c2, c3]).take (Try.prog.cellsOf 3)) = some y0 := hfi 0 _ rfl
      have f1 : DataW.trod enc Try.prog w base spare held m 3 ((List.drop 1 [c0, c1, c2, c3]).take (Try.prog.cellsOf 3)) = some y1 := hfi 1 _ rfl
      have f2 : DataW.trod enc Try.prog w base spare held m 41 ((List.drop 2 [c0, c1, c2, c3]).take (Try.prog.cellsOf 41)) = some y2 := hfi 2 _ rfl
      have f3 : DataW.trod enc Try.prog w base spare held m 41 ((List.drop 3 [c0, c1, c2, c3]).take (Try.prog.cellsOf 41)) = some y3 := hfi 3 _ rfl
      simp only [h1, h2, Value.cells, List.drop_zero, List.drop_succ_cons, List.take_succ_cons, List.take_zero] at f0 f1 f2 f3
      obtain ⟨x0, e0, g0, w0⟩ := DataW.trod_int Try.underlying3 f0
      obtain ⟨x1, e1, g1, w1⟩ := DataW.trod_int Try.underlying3 f1
      obtain ⟨x2, e2, g2, w2⟩ := DataW.trod_int Try.underlying41 f2
      obtain ⟨x3, e3, g3, w3⟩ := DataW.trod_int Try.underlying41 f3
      simp only [List.cons.injEq, and_true] at e0 e1 e2 e3
      subst e0 e1 e2 e3
      exact ⟨⟨x0, x1, x2, x3⟩, k61_mk w ⟨x0, x1, x2, x3⟩, wf64 w2, wf64 w3⟩
theorem el_rule (n : Nat) (cs : List Value) (x : DataW H × List MemPlace) (hl : cs.length = 4) (h : DataW.trod enc Try.prog w base spare held n 40 cs = some x) : ∃ a : S40, k40.K w a cs ∧ ruleK a := by
  obtain ⟨xs, m, _, hx, hl2, hlx, hfi⟩ := DataW.trod_struct Try.underlying40 h
  have h1 : Try.prog.cellsOf 23 = 1 := by kernel_rfl
  have h2 : Try.prog.cellsOf 38 = 1 := by kernel_rfl
  match cs, hl with
  | [c0, c1, c2, c3], _ =>
    match xs, hlx with
    | [y0, y1, y2, y3], _ =>
      have f0 : DataW.trod enc Try.prog w base spare held m 23 ((List.drop 0 [c0, c1, c2, c3]).take (Try.prog.cellsOf 23)) = some y0 := hfi 0 _ rfl
      have f1 : DataW.trod enc Try.prog w base spare held m 23 ((List.drop 1 [c0, c1, c2, c3]).take (Try.prog.cellsOf 23)) = some y1 := hfi 1 _ rfl
      have f2 : DataW.trod enc Try.prog w base spare held m 38 ((List.drop 2 [c0, c1, c2, c3]).take (Try.prog.cellsOf 38)) = some y2 := hfi 2 _ rfl
      have f3 : DataW.trod enc Try.prog w base spare held m 23 ((List.drop 3 [c0, c1, c2, c3]).take (Try.prog.cellsOf 23)) = some y3 := hfi 3 _ rfl
      simp only [h1, h2, Value.cells, List.drop_zero, List.drop_succ_cons, List.take_succ_cons, List.take_zero] at f0 f1 f2 f3
      obtain ⟨x0, e0, g0, w0⟩ := DataW.trod_int Try.underlying23 f0
      obtain ⟨x1, e1, g1, w1⟩ := DataW.trod_int Try.underlying23 f1
      obtain ⟨A, c, L, e2, hc, hr, hk⟩ := open_kd k61 condK Try.underlying38 (by kernel_rfl) el_cond f2
      obtain ⟨x3, e3, g3, w3⟩ := DataW.trod_int Try.underlying23 f3
      simp only [List.cons.injEq, and_true] at e0 e1 e2 e3
      subst e0 e1 e2 e3
      exact ⟨⟨x0, x1, L, x3⟩, k40_mk w ⟨x0, x1, L, x3⟩ hc hr, wf32 w0, wf32 w1, wf32 w3, hk⟩
theorem open_policy {r : Reach} {b0 : Nat} {v : Value} {d : DataW H} {ps : List MemPlace} (hval : Value.okWide Try.prog w r b0 25 v) (hd : DataW.Trod enc Try.prog w base spare held 25 v d ps) :
    ∃ (A : Option Addr) (c : Nat) (L : List S40) (df : Int), v = .agg #[.slice A L.length c, .int .u32 df] ∧ L.length ≤ c ∧ k40.C w A L.length L ∧ polK L df := by
  obtain ⟨cs, rfl, hsz⟩ := okWide_struct Try.underlying25 hval
  obtain ⟨fuel, hf⟩ := hd
  obtain ⟨xs, n, _, hx, hl, hlx, hfi⟩ := DataW.trod_struct Try.underlying25 hf
  have h9 : Try.prog.cellsOf 25 = 2 := by kernel_rfl
  have h1 : Try.prog.cellsOf 23 = 1 := by kernel_rfl
  have h2 : Try.prog.cellsOf 22 = 1 := by kernel_rfl
  have hc9 : cs.toList.length = 2 := by simpa [h9] using hsz
  obtain ⟨L, hL⟩ : ∃ L, cs.toList = L := ⟨_, rfl⟩
  have hcs : cs = L.toArray := by rw [← hL]
  rw [hL] at hc9
  subst hcs
  match L, hc9 with
  | [c0, c1], _ =>
    match xs, hlx with
    | [y0, y1], _ =>
      have f0 : DataW.trod enc Try.prog w base spare held n 22 ((List.drop 0 [c0, c1]).take (Try.prog.cellsOf 22)) = some y0 := hfi 0 _ rfl
      have f1 : DataW.trod enc Try.prog w base spare held n 23 ((List.drop 1 [c0, c1]).take (Try.prog.cellsOf 23)) = some y1 := hfi 1 _ rfl
      simp only [h1, h2, Value.cells, List.drop_zero, List.drop_succ_cons, List.take_succ_cons, List.take_zero] at f0 f1
      obtain ⟨A, c, L, e0, hc, hr, hk⟩ := open_kd k40 ruleK Try.underlying22 (by kernel_rfl) el_rule f0
      obtain ⟨df, e1, g1, w1⟩ := DataW.trod_int Try.underlying23 f1
      simp only [List.cons.injEq, and_true] at e0 e1
      subst e0 e1
      exact ⟨A, c, L, df, rfl, hc, hr, hk, wf32 w1⟩
theorem open_rule {r : Reach} {b0 : Nat} {v : Value} {d : DataW H} {ps : List MemPlace} (hval : Value.okWide Try.prog w r b0 40 v) (hd : DataW.Trod enc Try.prog w base spare held 40 v d ps) :
    ∃ (x0 x1 : Int) (A : Option Addr) (c : Nat) (L : List S61) (x3 : Int), v = .agg #[.int .u32 x0, .int .u32 x1, .slice A L.length c, .int .u32 x3] ∧ L.length ≤ c ∧ k61.C w A L.length L ∧ ruleK ⟨x0, x1, L, x3⟩ := by
  obtain ⟨cs, rfl, hsz⟩ := okWide_struct Try.underlying40 hval
  obtain ⟨fuel, hf⟩ := hd
  have h9 : Try.prog.cellsOf 40 = 4 := by kernel_rfl
  obtain ⟨a, ha, hk⟩ := el_rule fuel cs.toList _ (by simpa [h9] using hsz) hf
  obtain ⟨A2, c2, he, hl, hC⟩ := k40_open ha
  refine ⟨a.f0, a.f1, A2, c2, a.f2, a.f3, ?_, hl, hC, hk⟩
  have : cs = #[.int .u32 a.f0, .int .u32 a.f1, .slice A2 a.f2.length c2, .int .u32 a.f3] := by
    apply Array.toList_inj.1; rw [he]
  rw [this]
end
end Go.Proofs.Ytekpbgmmogpbdaa.H
set_option linter.unusedVariables false
set_option linter.unusedSimpArgs false
set_option maxRecDepth 100000
namespace Go.Proofs.Ytekpbgmmogpbdaa.H
open Go.RowKit Go.Proofs.YtekpbgmmogpbdaaW.PrintWords Go.ChangeShapes Go.WideShapes
section
variable {H : Type} {enc : TypeId × Value → H} {w : World} {base : Nat} {spare : Nat → Bool} {held : Bool}
theorem wf_bounds32 {n : Int} (h : (Lit.int .u32 n).wf = true) : 0 ≤ n ∧ n < 4294967296 := by have := bounds_u32 h; omega
theorem wf_bounds64 {n : Int} (h : (Lit.int .u64 n).wf = true) : 0 ≤ n ∧ n < 18446744073709551616 := by have := bounds_u64 h; omega
theorem open_data {r : Reach} {b0 : Nat} {v : Value} {d : DataW H} {ps : List MemPlace} (hval : Value.okWide Try.prog w r b0 44 v) (hd : DataW.Trod enc Try.prog w base spare held 44 v d ps) :
    ∃ x0 x1 x2 x3 x4 x5 x6 x7 x8 : Int, v = .agg #[.int .u32 x0, .int .u32 x1, .int .u64 x2, .int .u64 x3, .int .u64 x4, .int .u64 x5, .int .u64 x6, .int .u64 x7, .int .u64 x8] ∧ ps = [] ∧
      IsDat x0 x1 x2 [x3, x4, x5, x6, x7, x8] := by
  obtain ⟨cs, rfl, hsz⟩ := okWide_struct Try.underlying44 hval
  obtain ⟨fuel, hf⟩ := hd
  obtain ⟨xs, n, _, hx, hl, hlx, hfi⟩ := DataW.trod_struct Try.underlying44 hf
  simp only [Prod.mk.injEq] at hx
  have h9 : Try.prog.cellsOf 44 = 9 := by kernel_rfl
  have h1 : Try.prog.cellsOf 23 = 1 := by kernel_rfl
  have h2 : Try.prog.cellsOf 41 = 1 := by kernel_rfl
  have h6 : Try.prog.cellsOf 42 = 6 := by kernel_rfl
  have hc9 : cs.toList.length = 9 := by simpa [h9] using hsz
  obtain ⟨L, hL⟩ : ∃ L, cs.toList = L := ⟨_, rfl⟩
  have hcs : cs = L.toArray := by rw [← hL]
  rw [hL] at hc9
  subst hcs
  match L, hc9 with
  | [c0, c1, c2, c3, c4, c5, c6, c7, c8], _ =>
    match xs, hlx with
    | [y0, y1, y2, y3], _ =>
      have f0 : DataW.trod enc Try.prog w base spare held n 23 ((List.drop 0 [c0, c1, c2, c3, c4, c5, c6, c7, c8]).take (Try.prog.cellsOf 23)) = some y0 := hfi 0 _ rfl
      have f1 : DataW.trod enc Try.prog w base spare held n 23 ((List.drop 1 [c0, c1, c2, c3, c4, c5, c6, c7, c8]).take (Try.prog.cellsOf 23)) = some y1 := hfi 1 _ rfl
      have f2 : DataW.trod enc Try.prog w base spare held n 41 ((List.drop 2 [c0, c1, c2, c3, c4, c5, c6, c7, c8]).take (Try.prog.cellsOf 41)) = some y2 := hfi 2 _ rfl
      have f3 : DataW.trod enc Try.prog w base spare held n 42 ((List.drop 3 [c0, c1, c2, c3, c4, c5, c6, c7, c8]).take (Try.prog.cellsOf 42)) = some y3 := hfi 3 _ rfl
      simp only [h1, h2, h6, Value.cells, List.drop_zero, List.drop_succ_cons, List.take_succ_cons, List.take_zero, List.getElem?_cons_zero, List.getElem?_cons_succ] at f0 f1 f2 f3
      obtain ⟨x0, e0, g0, w0⟩ := DataW.trod_int Try.underlying23 f0
      obtain ⟨x1, e1, g1, w1⟩ := DataW.trod_int Try.underlying23 f1
      obtain ⟨x2, e2, g2, w2⟩ := DataW.trod_int Try.underlying41 f2
      obtain ⟨zs, hz, e3, g3, w3⟩ := trod_arr_ints Try.underlying42 Try.underlying41 h2 h6 f3
      match zs, hz with
      | [x3, x4, x5, x6, x7, x8], _ =>
        simp only [nums, List.map_cons, List.map_nil, List.cons.injEq, and_true] at e0 e1 e2 e3
        obtain ⟨rfl, rfl, rfl, rfl, rfl, rfl⟩ := e3
        subst e0 e1 e2
        refine ⟨x0, x1, x2, x3, x4, x5, x6, x7, x8, rfl, ?_, ⟨rfl, wf_bounds32 w0, wf_bounds32 w1, wf_bounds64 w2, fun k => by
          by_cases hk : k < 6
          · exact wf_bounds64 (w3 k hk)
          · rw [List.getD_eq_getElem?_getD, List.getElem?_eq_none (by simpa using hk)]; exact ⟨by decide, by decide⟩⟩⟩
        rw [hx.2]
        simp [g0, g1, g2, g3]
end
end Go.Proofs.Ytekpbgmmogpbdaa.H
set_option linter.unusedVariables false
set_option linter.unusedSimpArgs false
set_option maxRecDepth 100000
namespace Go.Proofs.Ytekpbgmmogpbdaa.H
open Go.RowKit Go.Proofs.YtekpbgmmogpbdaaW.PrintWords
open Go.Proofs.Ytekpbgmmogpbdaa.P (S61 S40 k61 k40)
theorem great_small {L : List S40} (h : greatB L = false) : small L := by
  obtain ⟨h1, h2⟩ := great_false h
  exact ⟨by omega, fun x hx => by have := h2 x hx; omega⟩
theorem judgeR_of {L : List S40} {df dn da : Int} {ags : List Int} (h : polB L df = true) : judgeR L df dn da ags = (judgeV L df dn da ags, 0) := by unfold judgeR judgeV; rw [if_pos h] <;> cases L.find? (fitX dn da ags) <;> rfl
theorem Fits_f {x : S40} {a0 a1 a2 a3 a4 a5 a6 a7 a8 : Int} (h : ruleK x) (hd : IsDat a0 a1 a2 [a3, a4, a5, a6, a7, a8]) : denote_Fits.f x.f0 x.f1 x.f2 x.f3 a0 a1 a2 a3 a4 a5 a6 a7 a8 = some (fitX a0 a1 [a3, a4, a5, a6, a7, a8] x) := by
  unfold denote_Fits.f
  rw [if_pos ⟨fun y hy => (h.2.2.2 y hy).1, hd⟩]
  rfl
theorem Right_f {L : List S40} {df : Int} (h : polK L df) : H.hurdleref10_Right.f L df = some (polB L df) := by
  unfold H.hurdleref10_Right.f
  rw [if_pos h]
theorem Great_f {L : List S40} {df : Int} (h : L.length ≤ 9223372036854775807) : H.hurdlelaw10_Great.f L df = some (greatB L) := by
  unfold H.hurdlelaw10_Great.f
  rw [if_pos h]
end Go.Proofs.Ytekpbgmmogpbdaa.H
set_option linter.unusedVariables false
set_option linter.unusedSimpArgs false
set_option maxRecDepth 100000
namespace Go.Proofs.Ytekpbgmmogpbdaa.H
open Go.RowKit Go.Proofs.YtekpbgmmogpbdaaW.PrintWords
open Go.Proofs.Ytekpbgmmogpbdaa.P (S61 S40 k61 k40)
theorem judges_f (k : Nat) (L : List S40) (df : Int) (x : S40) (a0 a1 a2 a3 a4 a5 a6 a7 a8 : Int) (h : polK L df) (hx : ruleK x) (hd : IsDat a0 a1 a2 [a3, a4, a5, a6, a7, a8]) (hl : L.length ≤ 9223372036854775807) :
    D.hurdlelaw11_DenoteJudges.f (k + 1) L df x.f0 x.f1 x.f2 x.f3 a0 a1 a2 a3 a4 a5 a6 a7 a8 = some true := by
  unfold D.hurdlelaw11_DenoteJudges.f
  rw [Great_f hl]
  simp only [Option.bind_some]
  by_cases hg : greatB L = true
  · rw [if_pos hg]
    simp only [D.hurdlelaw11_DenoteJudges.j0, if_true, hurdlelaw11_knows.f, Option.bind_some]
  · rw [if_neg hg]
    have hs := great_small (Bool.eq_false_iff.2 hg)
    by_cases hn : ((x.f2.length : Int) > 100)
    · rw [decide_eq_true hn]
      simp only [D.hurdlelaw11_DenoteJudges.j0, if_true, hurdlelaw11_knows.f, Option.bind_some]
    · rw [decide_eq_false hn]
      have e1 : denote_First.f L df a0 a1 a2 a3 a4 a5 a6 a7 a8 = some (firstR L df a0 a1 [a3, a4, a5, a6, a7, a8]) := by unfold denote_First.f; rw [if_pos ⟨h, hs, hd⟩]
      have e2 : denote_Judge.f L df a0 a1 a2 a3 a4 a5 a6 a7 a8 = some (judgeR L df a0 a1 [a3, a4, a5, a6, a7, a8]) := by unfold denote_Judge.f; rw [if_pos ⟨h, hs, hd⟩]
      have e3 := Fits_f hx hd
      have e4 : hurdleref11_Fits.f x.f0 x.f1 x.f2 x.f3 a0 a1 a2 a3 a4 a5 a6 a7 a8 = some (fitX a0 a1 [a3, a4, a5, a6, a7, a8] x) := by
        unfold hurdleref11_Fits.f fitX
        rw [if_pos ⟨fun y hy => (hx.2.2.2 y hy).1, hd⟩]
      have e5 : hurdleref11_First.f L df a0 a1 a2 a3 a4 a5 a6 a7 a8 = some (firstI L (fitX a0 a1 [a3, a4, a5, a6, a7, a8])) := by unfold hurdleref11_First.f; rw [if_pos ⟨h, hd⟩]
      have e6 : hurdleref11_Judge.f L df a0 a1 a2 a3 a4 a5 a6 a7 a8 = some (judgeV L df a0 a1 [a3, a4, a5, a6, a7, a8]) := by unfold hurdleref11_Judge.f; rw [if_pos ⟨h, hd⟩]
      simp only [D.hurdlelaw11_DenoteJudges.j0, Bool.false_eq_true, if_false, e1, e2, e3, e4, Option.bind_some, Right_f h, bne_self_eq_false, e5, e6, hurdlelaw11_knows.f]
      by_cases hb : polB L df = true
      · rw [if_pos hb, judgeR_of hb]
        unfold firstR
        rw [if_pos hb]
        simp
      · rw [if_neg hb]
        unfold firstR judgeR
        rw [if_neg hb, if_neg hb]
        simp
theorem DenoteJudges_row (A : Option Addr) (c : Nat) (L : List S40) (df : Int) (r0 r1 : Int) (A2 : Option Addr) (c2 : Nat) (L2 : List S61) (r3 : Int) (a0 a1 a2 a3 a4 a5 a6 a7 a8 : Int) (W : World) (hc : L.length ≤ c) (hr : k40.C W A L.length L) (hk : polK L df) (hc2 : L2.length ≤ c2) (hr2 : k61.C W A2 L2.length L2) (hk2 : ruleK ⟨r0, r1, L2, r3⟩) (hd : IsDat a0 a1 a2 [a3, a4, a5, a6, a7, a8]) :
    Calls Try.prog 9 #[.agg #[.slice A L.length c, .int .u32 df], .agg #[.int .u32 r0, .int .u32 r1, .slice A2 L2.length c2, .int .u32 r3], .agg #[.int .u32 a0, .int .u32 a1, .int .u64 a2, .int .u64 a3, .int .u64 a4, .int .u64 a5, .int .u64 a6, .int .u64 a7, .int .u64 a8]] W fun e w' => e = .returned (.bool true) ∧ Below W.heap.size W w' :=
  (D.hurdlelaw11_DenoteJudges.calls 1 A c L df r0 r1 A2 c2 L2 r3 a0 a1 a2 a3 a4 a5 a6 a7 a8 true W hr hc hr2 hc2 (judges_f 0 L df ⟨r0, r1, L2, r3⟩ a0 a1 a2 a3 a4 a5 a6 a7 a8 hk hk2 hd (C_len hr)) rfl).mono (fun e w' h => h)
end Go.Proofs.Ytekpbgmmogpbdaa.H
namespace Go.Proofs.Ytekpbgmmogpbdaa.denoteJudges
open Go.ChangeShapes Go.WideShapes Go.ChangeAt Go.RowKit
open Go.ChangeMaps (open_string shut_string)
set_option linter.unusedVariables false
theorem laidOut : laidOutB Try.prog = true := by kernel_rfl
theorem own : ownKnob Try.prog.godebug = none := by kernel_rfl
set_option maxRecDepth 100000 in
theorem lifted (os : Os) (started : os.Started) (H : Type) (enc : TypeId × Value → H) :
    ReturnsInHanded {} Try.checked os 9 .any (Rows.denoteJudgesSpec.pre6 enc Try.prog Try.f9 Rows.denoteJudgesRow.domain false) (Rows.denoteJudgesSpec.post enc Try.prog Try.f9 false true false false) := by
  refine returnsInHanded_of_change_sized (C := Try.checked) own started (by kernel_rfl) Try.func9
    (ChangeSpec.witness6 (enc := enc) (C := Try.checked) false ⟨#[], #[.agg #[.slice none 0 0, .int .u32 0], .agg #[.int .u32 0, .int .u32 0, .slice none 0 0, .int .u32 0], .agg #[.int .u32 0, .int .u32 0, .int .u64 0, .int .u64 0, .int .u64 0, .int .u64 0, .int .u64 0, .int .u64 0, .int .u64 0]], []⟩ 8 (by kernel_rfl) (by kernel_rfl) (by kernel_rfl) (by kernel_rfl)) ?_
  intro W base args ds gs before hval0 hW hcnd hsz0 _
  have hsz : (DataW.weightsEach Try.prog (Try.f9.params.toList ++ Rows.denoteJudgesSpec.plain.varTypes Try.prog) (ds ++ gs)).all (· ≤ reachBytes) = true := hsz0
  have hval : ∀ (j : Nat) t v, Try.f9.params[j]? = some t → args[j]? = some v → Value.okWide Try.prog W .any base t v := hval0
  have hW' := hW
  obtain ⟨p, q, hA0, hV, rfl, hfz, hnd⟩ := hW
  have hA : DataW.TrodAll enc Try.prog W 0 (fun _ => true) true Try.f9.params.toList args.toList ds p := hA0
  rw [Try.params9] at hA hval hsz
  obtain ⟨v0, vs0, d0, ds0, p0, q0, hargs, rfl, rfl, h0, r0⟩ := trodAll_cons hA
  obtain ⟨v1, vs1, d1, ds1, p1, q1, rfl, rfl, rfl, h1, r1⟩ := trodAll_cons r0
  obtain ⟨v2, vs2, d2, ds2, p2, q2, rfl, rfl, rfl, h2, r2⟩ := trodAll_cons r1
  obtain ⟨rfl, rfl, rfl⟩ := trodAll_nil r2
  obtain rfl : args = #[v0, v1, v2] := by cases args; simp_all
  obtain ⟨rfl, rfl⟩ := trodVars_none hV
  have k0 := h0
  have lt0 : ∀ x ∈ p0, x.block < W.heap.size := by obtain ⟨m, hm⟩ := k0; exact DataW.trod_lt m _ _ _ hm
  obtain ⟨A0, c0, L0, f0, rfl, hc0, hr0, b0⟩ := Go.Proofs.Ytekpbgmmogpbdaa.H.open_policy (hval 0 25 v0 rfl rfl) h0
  have k1 := h1
  have lt1 : ∀ x ∈ p1, x.block < W.heap.size := by obtain ⟨m, hm⟩ := k1; exact DataW.trod_lt m _ _ _ hm
  obtain ⟨r1_0, r1_1, A1, c1, L1, r1_3, rfl, hc1, hr1, b1⟩ := Go.Proofs.Ytekpbgmmogpbdaa.H.open_rule (hval 1 40 v1 rfl rfl) h1
  have k2 := h2
  obtain ⟨a2_0, a2_1, a2_2, a2_3, a2_4, a2_5, a2_6, a2_7, a2_8, rfl, hp2, b2⟩ := Go.Proofs.Ytekpbgmmogpbdaa.H.open_data (hval 2 44 v2 rfl rfl) h2
  have lt2 : ∀ x ∈ p2, x.block < W.heap.size := by rw [hp2]; simp
  clear hA0 hval0 hsz0 hsz
  refine (Go.Proofs.Ytekpbgmmogpbdaa.H.DenoteJudges_row A0 c0 L0 f0 r1_0 r1_1 A1 c1 L1 r1_3 a2_0 a2_1 a2_2 a2_3 a2_4 a2_5 a2_6 a2_7 a2_8 W hc0 hr0 b0 hc1 hr1 b1 b2).mono fun e W' ⟨he, bel⟩ => ?_
  subst he
  exact ⟨_, rfl, _, _, _, [], _, [], hW', trodAll_mk1 (shut_bool Try.underlying4 _), (trodAll_cons_mk (Below.trod laidOut (by kernel_rfl) (of_decide_eq_true (by kernel_rfl)) k0 bel lt0) (trodAll_cons_mk (Below.trod laidOut (by kernel_rfl) (of_decide_eq_true (by kernel_rfl)) k1 bel lt1) (trodAll_cons_mk (Below.trod laidOut (by kernel_rfl) (of_decide_eq_true (by kernel_rfl)) k2 bel lt2) trodAll_mk0))), rfl, bel.frame _, fun h => by cases h⟩
theorem over : Rows.denoteJudgesRow.holds Try.pinned (OpenSpec.ofChange Rows.denoteJudgesSpec) :=
  OpenClaim.holds_of_wide 9 Try.f9 rfl rfl rfl rfl rfl rfl rfl ⟨rfl, rfl, rfl, rfl, rfl⟩ rfl rfl rfl rfl rfl (by kernel_rfl) Try.func9 (by kernel_rfl)
    (of_decide_eq_true (by kernel_rfl)) (by unfold Func.isWrapper; first | (rw [if_pos (by decide +kernel)]; kernel_rfl) | (rw [if_neg (by decide +kernel)]; exact ⟨rfl, rfl⟩))
    (fun os started H enc _ => lifted os started H enc)
theorem proved : Rows.DenoteJudgesSaid := over
#print axioms proved
end Go.Proofs.Ytekpbgmmogpbdaa.denoteJudges
namespace Go.Proofs.Ytekpbgmmogpbdaa
theorem denoteJudges_holds : Rows.DenoteJudgesSaid := denoteJudges.proved
end Go.Proofs.Ytekpbgmmogpbdaa
