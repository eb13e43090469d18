/- Lemmas for this claim: A text is the policy that the document says, or the place and the error are told (any text of up to 25000 bytes). (Some lines were printed for this seat by the kit's print.sh; wip/pack.py has put the needed ones together.) -/
import Derived.WalkKit
import Derived.Laws.RangeString
import Derived.Laws.RangeAny
import Derived.Test.YtekpbgmmogpbdaaZPP0
import Derived.Test.YtekpbgmmogpbdaaZPP1
import Derived.Test.YtekpbgmmogpbdaaZPP2
import Derived.Test.YtekpbgmmogpbdaaZPP3
set_option linter.unusedVariables false
set_option linter.unusedSimpArgs false
namespace Go.Proofs.Ytekpbgmmogpbdaa.P
open Go.RowKit Go.Proofs.Ytekpbgmmogpbdaa.H Go.Proofs.YtekpbgmmogpbdaaW.PrintWords Go.Proofs.YtekpbgmmogpbdaaW.PrintLast Go.Proofs.YtekpbgmmogpbdaaW.PrintMore
attribute [local go_sem] max2_int min2_int max_two min_two max_three min_three max_four min_four
set_option maxHeartbeats 8000000 in
set_option maxRecDepth 100000 in
theorem hurdleref10_Parse.calls (k : Nat) (a0 : ByteArray) (r1 : List (S40)) (r2 : Int) (r3 : Int) (r4 : Int) (w : World) (h : hurdleref10_Parse.f k a0 = some (r1, r2, r3, r4)) :
 Calls Try.prog 21 #[.string a0] w fun e w' => ∃ v0_ : Value, e = .returned (.tuple #[.agg #[v0_, .int .u32 r2], .int .i64 r3, .int .i64 r4]) ∧ Kd.S k40 40 w' w.heap.size (fun _ => True) v0_ r1 ∧ Below w.heap.size w w' := by
 have hu25 := Try.underlying25
 have hu40 := Try.underlying40
 have HB := aM (Below.refl w.heap.size w)
 have H : (if (a0.size : Int) > 20000 then (some (([] : List (S40)), 0, 0, 3)) else ((hurdleref02_Cut.f k a0 10).bind fun t414 => (hurdleref10_Parse.l0 k a0 t414 0 false 0 ([] : List (S40)) 0))) = some (r1, r2, r3, r4) := h
 clear h
 by_cases c2 : (a0.size : Int) > 20000
 · rw [if_pos c2] at H
   have c2b0 : decide (20000 < (a0.size : Int)) = true := decide_eq_true c2
   have c2b1 : decide (20000 < a0.size) = true := decide_eq_true (by omega)
   clear c2
   simp only [Option.some.injEq, Prod.mk.injEq] at H
   obtain ⟨rfl, rfl, rfl, rfl⟩ := H
   go_enter Try.func21, Try.ntmps21
   go_wp2_with (first | ((with_reducible refine gate_dst (N := 2) rfl ?_); refine box_event ?hg (N := 2) ?hd (cs := #[.slice none 0 0, .int .u32 0]) (t := 25) ?hr ?_; (case hd => rfl); (case hg => rfl); (case hr => first | (go_simp; done) | (go_simp; rfl)); intro gb412 hg w3 hbox hb; have n0_ := aM (below_step bl0 hb); have n1_ := aM (hbox); have n2_ := aM ((by rw [hg]; exact (below_size bl0) : w.heap.size ≤ gb412)); have n3_ := aM ((by rw [hg]; exact (below_size bl0) : w.heap.size ≤ gb412)); clear HB; have HB := n0_; have BK412 := n1_; have GW412 := n2_; have GE412 := n3_; clear n0_ n1_ n2_ n3_; clear hb hbox hg; have hcz4_0 : w3.cell? ⟨gb412, 0, none⟩ = some (.slice none 0 0) := (blk_cell BK412.out 0).trans rfl; have hcz4_1 : w3.cell? ⟨gb412, 1, none⟩ = some (.int .u32 0) := (blk_cell BK412.out 1).trans rfl; have hfz4_0 := blk_frozen BK412.out 0; have hfz4_1 := blk_frozen BK412.out 1))
   refine bodyPost_ret (results_ctt rfl _ _ gb412 25 #[.slice none 0 0, .int .u32 0] (0, 0) _ rfl (by refine bkS ?_; refine blk_put (cs := #[.slice none 0 0, .int .u32 0]) ?_ 1 _ rfl; refine bkS ?_; refine blk_put (cs := #[.slice none 0 0, .int .u32 0]) ?_ 0 _ rfl; refine bkS ?_; exact BK412.out) Try.underlying25 rfl kR) rfl ?_
   exact ⟨_, erA, by first | exact Kd.S_nil _ _ _ _ _ | exact Kd.N_nil _ _ _ _ _ | exact Kd.V_nil _ _ _ _ _ | exact Kd.Q_nil _ _ _ _ _ | exact Kd.R_nil _ _ _ _ _, bl1 GE412.out⟩
 rw [if_neg c2] at H
 have c2b0 : decide (20000 < (a0.size : Int)) = false := decide_eq_false c2
 have c2b1 : decide (20000 < a0.size) = false := decide_eq_false (by omega)
 clear c2
 replace H := Option.bind_eq_some_iff.mp H
 obtain ⟨t414, A50, H⟩ := H
 replace H : (hurdleref10_Parse.l0 k a0 t414 0 false 0 ([] : List (S40)) 0) = some (r1, r2, r3, r4) := H
 have A5 := aM A50
 clear A50
 have H' := aM H
 clear H
 go_enter Try.func21, Try.ntmps21
 go_wp2_with (first | ((with_reducible refine gate_dst (N := 2) rfl ?_); refine box_event ?hg (N := 2) ?hd (cs := #[.slice none 0 0, .int .u32 0]) (t := 25) ?hr ?_; (case hd => rfl); (case hg => rfl); (case hr => first | (go_simp; done) | (go_simp; rfl)); intro gb412 hg w6 hbox hb; have n0_ := aM (below_step bl0 hb); have n1_ := aM (hbox); have n2_ := aM ((by rw [hg]; exact (below_size bl0) : w.heap.size ≤ gb412)); have n3_ := aM ((by rw [hg]; exact (below_size bl0) : w.heap.size ≤ gb412)); clear HB; have HB := n0_; have BK412 := n1_; have GW412 := n2_; have GE412 := n3_; clear n0_ n1_ n2_ n3_; clear hb hbox hg) | ((with_reducible refine gate_dst (N := 5) rfl ?_); refine box_event ?hg (N := 5) ?hd (cs := #[.slice none 0 0, .int .u32 0]) (t := 25) ?hr ?_; (case hd => rfl); (case hg => rfl); (case hr => first | (go_simp; done) | (go_simp; rfl)); intro gb413 hg w7 hbox hb; have n0_ := aM (blk_below (g := gb412) (o := .cells #[.slice none 0 0, .int .u32 0] 25 (0, 0)) (bkS BK412.out) hb); have n1_ := aM (below_step (bl1 GE412.out) hb); have n2_ := aM (hbox); have n3_ := aM ((by rw [hg]; exact (below_size (bl1 GE412.out)) : w.heap.size ≤ gb413)); have n4_ := aM ((by rw [hg]; exact (below_size (bl1 GE412.out)) : w.heap.size ≤ gb413)); have n5_ := aM ((by rw [hg]; exact Nat.ne_of_lt (blk_lt (g := gb412) (o := .cells #[.slice none 0 0, .int .u32 0] 25 (0, 0)) (bkS BK412.out)) : gb412 ≠ gb413)); have n6_ := aM ((by rw [hg]; exact Nat.ne_of_gt (blk_lt (g := gb412) (o := .cells #[.slice none 0 0, .int .u32 0] 25 (0, 0)) (bkS BK412.out)) : gb413 ≠ gb412)); clear BK412; clear HB; have BK412 := n0_; have HB := n1_; have BK413 := n2_; have GW413 := n3_; have GE413 := n4_; have NB412_413 := n5_; have NB413_412 := n6_; clear n0_ n1_ n2_ n3_ n4_ n5_ n6_; clear hb hbox hg) | ((with_reducible refine gate_callee (f := 41) rfl ?_); refine goesL_ (some 21) rfl rfl Try.func41 kR rfl #[.string a0, .int .u8 10] rfl mpA ?_; (with_reducible refine (hurdleref02_Cut.calls k a0 10 t414 _ A5.out).mono ?_); rintro e w8 ⟨v415, rfl, ho0, hb⟩; refine ⟨_, rfl, ?_⟩; have n0_ := aM (Kd.R_lower ho0 (below_size (bl2 GE412.out GE413.out))); have n1_ := aM (blk_below (g := gb412) (o := .cells #[.slice none 0 0, .int .u32 0] 25 (0, 0)) (bkS BK412.out) hb); have n2_ := aM (blk_below (g := gb413) (o := .cells #[.slice none 0 0, .int .u32 0] 25 (0, 0)) (bkS BK413.out) hb); have n3_ := aM (below_step (bl2 GE412.out GE413.out) hb); clear BK412; clear BK413; clear HB; have HO416 := n0_; have BK412 := n1_; have BK413 := n2_; have HB := n3_; clear n0_ n1_ n2_ n3_; (try clear hb); (try clear hb2); (try clear hk); (try clear hi); (try clear ho0)))
 go_loopg [7, 8, 9] k (fun kq v7 v8 v9 w' => ∃ (x7_1 : Int) (x8_1 : Bool) (x9_1 : Int) (x413001_1 : Int) (x414000_1 : List (S40)) (x414001_1 : Int) (u414000 : Value), v7 = .int .i64 x7_1 ∧ v8 = .bool x8_1 ∧ v9 = .int .i64 x9_1 ∧ Aside0 (hurdleref10_Parse.l0 kq a0 t414 x7_1 x8_1 x9_1 x414000_1 x414001_1 = some (r1, r2, r3, r4)) ∧ Aside0 (kq ≤ k) ∧ Aside0 (Kd.R Kd.string 9 w' w.heap.size (fun _ => True) v415 t414) ∧ Aside0 (Kd.S k40 40 w' w.heap.size (fun _ => True) u414000 x414000_1) ∧ Aside0 (w'.heap[gb412]? = some (.cells #[(.slice none 0 0), .int .u32 x413001_1] 25 (0, 0))) ∧ Aside0 (w'.heap[gb413]? = some (.cells #[u414000, .int .u32 x414001_1] 25 (0, 0))) ∧ Aside0 (Below w.heap.size w w'))
 case atStart => exact ⟨(0), (false), (0), (0), (([] : List (S40))), (0), (.slice none 0 0), (by first | rfl | (simp; done) | (simp [*]; done)), (by first | rfl | (simp; done) | (simp [*]; done)), (by first | rfl | (simp; done) | (simp [*]; done)), H', ⟨Nat.le_refl _⟩, ⟨by refine rdS ?_; exact HO416.out⟩, ⟨by first | exact Kd.S_nil _ _ _ _ _ | exact Kd.N_nil _ _ _ _ _ | exact Kd.V_nil _ _ _ _ _ | exact Kd.Q_nil _ _ _ _ _ | exact Kd.R_nil _ _ _ _ _⟩, ⟨by refine bkS ?_; exact BK412.out⟩, ⟨by refine bkS ?_; exact BK413.out⟩, ⟨bl2 GE412.out GE413.out⟩⟩
 case round =>
  clear H'
  try clear c2
  try clear c2b0
  try clear c2b1
  try clear p2
  try clear c4
  try clear hcz4_0
  try clear hcz4_1
  try clear hfz4_0
  try clear hfz4_1
  obtain ⟨x7_1, x8_1, x9_1, x413001_1, x414000_1, x414001_1, u414000, rfl, rfl, rfl, HA, HK1, HO_6, HO_414000, BK412, BK413, HB⟩ := hrel
  cases gk with
  | zero => exact absurd HA.out (by simp [hurdleref10_Parse.l0])
  | succ k1 =>
   have H := HA.out
   clear HA
   simp only [hurdleref10_Parse.l0] at H
   by_cases c9 : x9_1 < (t414.length : Int)
   rotate_left
   · rw [if_neg c9] at H
     have c9b0 : decide (x9_1 < (t414.length : Int)) = false := decide_eq_false c9
     clear c9
     simp only [Option.some.injEq, Prod.mk.injEq] at H
     obtain ⟨rfl, rfl, rfl, rfl⟩ := H
     obtain ⟨Ao110, co110, eo110⟩ := Kd.R_slice HO_6.out
     subst eo110
     have hnb111 := NB413_412.out
     have hnc111 := NB412_413.out
     have hcz112_0 : wr.cell? ⟨gb413, 0, none⟩ = some (u414000) := (blk_cell BK413.out 0).trans rfl
     have hcz112_1 : wr.cell? ⟨gb413, 1, none⟩ = some (.int .u32 x414001_1) := (blk_cell BK413.out 1).trans rfl
     have hfz112_0 := blk_frozen BK413.out 0
     have hfz112_1 := blk_frozen BK413.out 1
     obtain ⟨Ao113, co113, eo113⟩ := Kd.S_slice HO_414000.out
     subst eo113
     have hcz114_0 : wr.cell? ⟨gb412, 0, none⟩ = some (.slice none 0 0) := (blk_cell BK412.out 0).trans rfl
     have hcz114_1 : wr.cell? ⟨gb412, 1, none⟩ = some (.int .u32 x413001_1) := (blk_cell BK412.out 1).trans rfl
     have hfz114_0 := blk_frozen BK412.out 0
     have hfz114_1 := blk_frozen BK412.out 1
     go_wp2_with (first | ((with_reducible refine bpI ?_); refine bodyPost_ret (results_ctt rfl _ _ gb412 25 #[.slice Ao113 x414000_1.length co113, .int .u32 x414001_1] (0, 0) _ rfl (by refine bkS ?_; refine blk_put (cs := #[.slice Ao113 x414000_1.length co113, .int .u32 x413001_1]) ?_ 1 _ rfl; refine bkS ?_; refine blk_put (cs := #[.slice none 0 0, .int .u32 x413001_1]) ?_ 0 _ rfl; refine bkS ?_; exact BK412.out) Try.underlying25 rfl kR) rfl ?_; exact ⟨_, erA, by refine sdS ?_; exact Kd.S_mono (Kd.S_far (p := ⟨gb412, 1, none⟩) (Kd.S_far (p := ⟨gb412, 0, none⟩) (Kd.S_types HO_414000.out BK412.out (by decide)) (fun _ hk => hk.2) (.slice Ao113 x414000_1.length co113)) (fun _ hk => hk.2) (.int .u32 x414001_1)) (fun _ hk => trivial), bl2 GE412.out GE413.out⟩) | go_in)
   rw [if_pos c9] at H
   have c9b0 : decide (x9_1 < (t414.length : Int)) = true := decide_eq_true c9
   clear c9
   have HC10 := aM H
   clear H
   obtain ⟨Ao11, co11, eo11⟩ := Kd.R_slice HO_6.out
   subst eo11
   obtain ⟨b10, hb10⟩ : ∃ b_ : Bool, (x9_1 == (wrap64 ((t414.length : Int) - 1))) = b_ := ⟨_, rfl⟩
   go_upto_region 11 with (fail)
   (try rw [hb10])
   go_cut [40] (fun v40 wc => ∃ (kq : Nat) (x40_9 : Bool), v40 = .bool x40_9 ∧ Aside0 (hurdleref10_Parse.j1 kq a0 t414 x7_1 x8_1 x9_1 b10 x40_9 x414000_1 x414001_1 = some (r1, r2, r3, r4)) ∧ Aside0 (kq ≤ k1) ∧ Aside0 (Kd.R Kd.string 9 wc w.heap.size (fun _ => True) (.slice Ao11 t414.length co11) t414) ∧ Aside0 (Kd.S k40 40 wc w.heap.size (fun _ => True) u414000 x414000_1) ∧ Aside0 (wc.heap[gb412]? = some (.cells #[(.slice none 0 0), .int .u32 x413001_1] 25 (0, 0))) ∧ Aside0 (wc.heap[gb413]? = some (.cells #[u414000, .int .u32 x414001_1] 25 (0, 0))) ∧ Aside0 (Below w.heap.size w wc))
   case first =>
    have H := HC10.out
    clear HC10
    rw [hb10] at H
    by_cases c12 : x9_1 = (wrap64 ((t414.length : Int) - 1))
    rotate_left
    · rw [if_neg c12] at H
      have c12b0 : (x9_1 == (wrap64 ((t414.length : Int) - 1))) = false := beq_eq_false_iff_ne.mpr c12
      have c12b1 : (x9_1 != (wrap64 ((t414.length : Int) - 1))) = true := bne_iff_ne.mpr c12
      have c12s := hb10.symm.trans c12b0
      subst c12s
      have H' := aM H
      clear H
      go_wp2
      go_meet
      case rel => exact ⟨_, (false), (by first | rfl | (simp; done) | (simp [*]; done)), H', ⟨by have := HK1.out; first | omega | exact Nat.le_refl _⟩, ⟨by refine rdS ?_; exact HO_6.out⟩, ⟨by refine sdS ?_; exact HO_414000.out⟩, ⟨by refine bkS ?_; exact BK412.out⟩, ⟨by refine bkS ?_; exact BK413.out⟩, ⟨bl2 GE412.out GE413.out⟩⟩
    rw [if_pos c12] at H
    have c12b0 : (x9_1 == (wrap64 ((t414.length : Int) - 1))) = true := beq_iff_eq.mpr c12
    have c12b1 : (x9_1 != (wrap64 ((t414.length : Int) - 1))) = false := bne_eq_false_iff_eq.mpr c12
    clear c12
    have c12s := hb10.symm.trans c12b0
    subst c12s
    by_cases c13 : 0 ≤ x9_1
    rotate_left
    · rw [if_neg c13] at H
      exact absurd H (by simp)
    rw [if_pos c13] at H
    have c13b0 : decide (0 ≤ x9_1) = true := decide_eq_true c13
    clear c13
    have H' := aM H
    clear H
    have p417 : 0 ≤ (x9_1 : Int) := of_decide_eq_true as_
    have q417 : x9_1 < (t414.length : Int) := of_decide_eq_true as_
    obtain ⟨ad417, e417, hx417_0⟩ := Kd.at_string (Kd.R_reads' HO_6.out).2.2 x9_1 p417 q417
    cases e417
    replace p417 := eq_true p417
    replace q417 := eq_true q417
    go_wp2
    go_meet
    case rel => exact ⟨_, (((rdOf ByteArray.empty t414 x9_1).toList == ([] : List UInt8))), (by first | rfl | (simp; done) | (simp [*]; done)), H', ⟨by have := HK1.out; first | omega | exact Nat.le_refl _⟩, ⟨by refine rdS ?_; exact HO_6.out⟩, ⟨by refine sdS ?_; exact HO_414000.out⟩, ⟨by refine bkS ?_; exact BK412.out⟩, ⟨by refine bkS ?_; exact BK413.out⟩, ⟨bl2 GE412.out GE413.out⟩⟩
   case rest =>
    clear HC10
    try clear c1
    try clear c2
    try clear c2b0
    try clear c2b1
    try clear p2
    try clear c4
    try clear p4
    try clear q4
    try clear hx4
    try clear p6
    try clear c9
    try clear c9b0
    try clear c12
    try clear c12b0
    try clear c12b1
    try clear c13
    try clear c13b0
    try clear hcz4_0
    try clear hcz4_1
    try clear hfz4_0
    try clear hfz4_1
    try clear hx417_0
    try clear p2
    try clear p417
    try clear q417
    obtain ⟨kq, x40_9, rfl, HA, HJ9, HO_6, HO_414000, BK412, BK413, HB⟩ := hcut
    cases kq with
    | zero => exact absurd HA.out (by simp [hurdleref10_Parse.j1])
    | succ kj9 =>
     have H := HA.out
     clear HA
     simp only [hurdleref10_Parse.j1] at H
     by_cases c14 : x40_9 = true
     · subst c14
       have H1 : (if x8_1 = true then (some (x414000_1, x414001_1, 0, 0)) else (some (([] : List (S40)), 0, (a0.size : Int), 5))) = some (r1, r2, r3, r4) := by rw [if_pos rfl] at H; exact H
       clear H
       have H := H1
       clear H1
       by_cases c15 : x8_1 = true
       rotate_left
       · replace c15 := Bool.eq_false_iff.mpr c15
         subst c15
         have H1 : (some (([] : List (S40)), 0, (a0.size : Int), 5)) = some (r1, r2, r3, r4) := by rw [if_neg (show ¬ (false = true) by decide)] at H; exact H
         clear H
         have H := H1
         clear H1
         simp only [Option.some.injEq, Prod.mk.injEq] at H
         obtain ⟨rfl, rfl, rfl, rfl⟩ := H
         have hnb20 := NB412_413.out
         have hnc20 := NB413_412.out
         have hcz21_0 : wc.cell? ⟨gb412, 0, none⟩ = some (.slice none 0 0) := (blk_cell BK412.out 0).trans rfl
         have hcz21_1 : wc.cell? ⟨gb412, 1, none⟩ = some (.int .u32 x413001_1) := (blk_cell BK412.out 1).trans rfl
         have hfz21_0 := blk_frozen BK412.out 0
         have hfz21_1 := blk_frozen BK412.out 1
         go_wp2_with (first | ((with_reducible refine bpI ?_); refine bodyPost_ret (results_ctt rfl _ _ gb412 25 #[.slice none 0 0, .int .u32 0] (0, 0) _ rfl (by refine bkS ?_; refine blk_put (cs := #[.slice none 0 0, .int .u32 x413001_1]) ?_ 1 _ rfl; refine bkS ?_; refine blk_put (cs := #[.slice none 0 0, .int .u32 x413001_1]) ?_ 0 _ rfl; refine bkS ?_; exact BK412.out) Try.underlying25 rfl kR) rfl ?_; exact ⟨_, erA, by first | exact Kd.S_nil _ _ _ _ _ | exact Kd.N_nil _ _ _ _ _ | exact Kd.V_nil _ _ _ _ _ | exact Kd.Q_nil _ _ _ _ _ | exact Kd.R_nil _ _ _ _ _, bl2 GE412.out GE413.out⟩) | go_in)
       subst c15
       have H1 : (some (x414000_1, x414001_1, 0, 0)) = some (r1, r2, r3, r4) := by rw [if_pos rfl] at H; exact H
       clear H
       have H := H1
       clear H1
       simp only [Option.some.injEq, Prod.mk.injEq] at H
       obtain ⟨rfl, rfl, rfl, rfl⟩ := H
       have hnb16 := NB413_412.out
       have hnc16 := NB412_413.out
       have hcz17_0 : wc.cell? ⟨gb413, 0, none⟩ = some (u414000) := (blk_cell BK413.out 0).trans rfl
       have hcz17_1 : wc.cell? ⟨gb413, 1, none⟩ = some (.int .u32 x414001_1) := (blk_cell BK413.out 1).trans rfl
       have hfz17_0 := blk_frozen BK413.out 0
       have hfz17_1 := blk_frozen BK413.out 1
       obtain ⟨Ao18, co18, eo18⟩ := Kd.S_slice HO_414000.out
       subst eo18
       have hcz19_0 : wc.cell? ⟨gb412, 0, none⟩ = some (.slice none 0 0) := (blk_cell BK412.out 0).trans rfl
       have hcz19_1 : wc.cell? ⟨gb412, 1, none⟩ = some (.int .u32 x413001_1) := (blk_cell BK412.out 1).trans rfl
       have hfz19_0 := blk_frozen BK412.out 0
       have hfz19_1 := blk_frozen BK412.out 1
       go_wp2_with (first | ((with_reducible refine bpI ?_); refine bodyPost_ret (results_ctt rfl _ _ gb412 25 #[.slice Ao18 x414000_1.length co18, .int .u32 x414001_1] (0, 0) _ rfl (by refine bkS ?_; refine blk_put (cs := #[.slice Ao18 x414000_1.length co18, .int .u32 x413001_1]) ?_ 1 _ rfl; refine bkS ?_; refine blk_put (cs := #[.slice none 0 0, .int .u32 x413001_1]) ?_ 0 _ rfl; refine bkS ?_; exact BK412.out) Try.underlying25 rfl kR) rfl ?_; exact ⟨_, erA, by refine sdS ?_; exact Kd.S_mono (Kd.S_far (p := ⟨gb412, 1, none⟩) (Kd.S_far (p := ⟨gb412, 0, none⟩) (Kd.S_types HO_414000.out BK412.out (by decide)) (fun _ hk => hk.2) (.slice Ao18 x414000_1.length co18)) (fun _ hk => hk.2) (.int .u32 x414001_1)) (fun _ hk => trivial), bl2 GE412.out GE413.out⟩) | go_in)
     replace c14 := Bool.eq_false_iff.mpr c14
     subst c14
     have H1 : (if b10 = true then (hurdleref10_Parse.j2 kj9 a0 t414 x7_1 x8_1 x9_1 true x414000_1 x414001_1) else (hurdleref10_Parse.j2 kj9 a0 t414 x7_1 x8_1 x9_1 x8_1 x414000_1 x414001_1)) = some (r1, r2, r3, r4) := by rw [if_neg (show ¬ (false = true) by decide)] at H; exact H
     clear H
     have H := H1
     clear H1
     have HC22 := aM H
     clear H
     go_upto_region 15 with (fail)
     go_cut [50] (fun v50 wc => ∃ (kq : Nat) (x50_21 : Bool), v50 = .bool x50_21 ∧ Aside0 (hurdleref10_Parse.j2 kq a0 t414 x7_1 x8_1 x9_1 x50_21 x414000_1 x414001_1 = some (r1, r2, r3, r4)) ∧ Aside0 (kq ≤ kj9) ∧ Aside0 (Kd.R Kd.string 9 wc w.heap.size (fun _ => True) (.slice Ao11 t414.length co11) t414) ∧ Aside0 (Kd.S k40 40 wc w.heap.size (fun _ => True) u414000 x414000_1) ∧ Aside0 (wc.heap[gb412]? = some (.cells #[(.slice none 0 0), .int .u32 x413001_1] 25 (0, 0))) ∧ Aside0 (wc.heap[gb413]? = some (.cells #[u414000, .int .u32 x414001_1] 25 (0, 0))) ∧ Aside0 (Below w.heap.size w wc))
     case first =>
      have H := HC22.out
      clear HC22
      by_cases c23 : b10 = true
      · rw [if_pos c23] at H
        subst c23
        have H' := aM H
        clear H
        go_wp2
        go_meet
        case rel => exact ⟨_, (true), (by first | rfl | (simp; done) | (simp [*]; done)), H', ⟨by have := HK1.out; have := HJ9.out; first | omega | exact Nat.le_refl _⟩, ⟨by refine rdS ?_; exact HO_6.out⟩, ⟨by refine sdS ?_; exact HO_414000.out⟩, ⟨by refine bkS ?_; exact BK412.out⟩, ⟨by refine bkS ?_; exact BK413.out⟩, ⟨bl2 GE412.out GE413.out⟩⟩
      rw [if_neg c23] at H
      replace c23 := Bool.eq_false_iff.mpr c23
      subst c23
      have H' := aM H
      clear H
      go_wp2
      go_meet
      case rel => exact ⟨_, (x8_1), (by first | rfl | (simp; done) | (simp [*]; done)), H', ⟨by have := HK1.out; have := HJ9.out; first | omega | exact Nat.le_refl _⟩, ⟨by refine rdS ?_; exact HO_6.out⟩, ⟨by refine sdS ?_; exact HO_414000.out⟩, ⟨by refine bkS ?_; exact BK412.out⟩, ⟨by refine bkS ?_; exact BK413.out⟩, ⟨bl2 GE412.out GE413.out⟩⟩
     case rest =>
      clear HC22
      try clear c1
      try clear c2
      try clear c2b0
      try clear c2b1
      try clear p2
      try clear c4
      try clear p4
      try clear q4
      try clear hx4
      try clear p6
      try clear c9
      try clear c9b0
      try clear c12
      try clear c12b0
      try clear c12b1
      try clear c13
      try clear c13b0
      try clear c14
      try clear c15
      try clear c16
      try clear c20
      try clear c21
      try clear c23
      try clear c23b0
      try clear c23b1
      try clear c23b2
      try clear hcz17_0
      try clear hcz17_1
      try clear hcz19_0
      try clear hcz19_1
      try clear hcz21_0
      try clear hcz21_1
      try clear hcz4_0
      try clear hcz4_1
      try clear hfz17_0
      try clear hfz17_1
      try clear hfz19_0
      try clear hfz19_1
      try clear hfz21_0
      try clear hfz21_1
      try clear hfz4_0
      try clear hfz4_1
      try clear hx417_0
      try clear p2
      try clear p4
      try clear p417
      try clear p6
      try clear q4
      try clear q417
      obtain ⟨kq, x50_21, rfl, HA, HJ21, HO_6, HO_414000, BK412, BK413, HB⟩ := hcut
      cases kq with
      | zero => exact absurd HA.out (by simp [hurdleref10_Parse.j2])
      | succ kj21 =>
       have H := HA.out
       clear HA
       simp only [hurdleref10_Parse.j2] at H
       by_cases c24 : x50_21 = true
       · subst c24
         have H1 : (some (([] : List (S40)), 0, x7_1, 2)) = some (r1, r2, r3, r4) := by rw [if_pos rfl] at H; exact H
         clear H
         have H := H1
         clear H1
         simp only [Option.some.injEq, Prod.mk.injEq] at H
         obtain ⟨rfl, rfl, rfl, rfl⟩ := H
         have hnb25 := NB412_413.out
         have hnc25 := NB413_412.out
         have hcz26_0 : wc.cell? ⟨gb412, 0, none⟩ = some (.slice none 0 0) := (blk_cell BK412.out 0).trans rfl
         have hcz26_1 : wc.cell? ⟨gb412, 1, none⟩ = some (.int .u32 x413001_1) := (blk_cell BK412.out 1).trans rfl
         have hfz26_0 := blk_frozen BK412.out 0
         have hfz26_1 := blk_frozen BK412.out 1
         go_wp2_with (first | ((with_reducible refine bpI ?_); refine bodyPost_ret (results_ctt rfl _ _ gb412 25 #[.slice none 0 0, .int .u32 0] (0, 0) _ rfl (by refine bkS ?_; refine blk_put (cs := #[.slice none 0 0, .int .u32 x413001_1]) ?_ 1 _ rfl; refine bkS ?_; refine blk_put (cs := #[.slice none 0 0, .int .u32 x413001_1]) ?_ 0 _ rfl; refine bkS ?_; exact BK412.out) Try.underlying25 rfl kR) rfl ?_; exact ⟨_, erA, by first | exact Kd.S_nil _ _ _ _ _ | exact Kd.N_nil _ _ _ _ _ | exact Kd.V_nil _ _ _ _ _ | exact Kd.Q_nil _ _ _ _ _ | exact Kd.R_nil _ _ _ _ _, bl2 GE412.out GE413.out⟩) | go_in)
       replace c24 := Bool.eq_false_iff.mpr c24
       subst c24
       have H1 : (if 0 ≤ x9_1 then (if x9_1 < (t414.length : Int) then ((hurdleref10_Read.f kj21 (rdOf ByteArray.empty t414 x9_1)).bind fun bt419 => (if bt419.2.2.2.2 = true then (if (x414000_1.length : Int) ≥ 64 then (some (([] : List (S40)), 0, x7_1, 3)) else (if x414000_1.length < 3518437208883 then (hurdleref10_Parse.l0 kj21 a0 t414 (wrap64 ((wrap64 (x7_1 + ((rdOf ByteArray.empty t414 x9_1).size : Int))) + 1)) x8_1 (wrap64 (x9_1 + 1)) (x414000_1 ++ [(⟨bt419.1, bt419.2.1, bt419.2.2.1, bt419.2.2.2.1⟩ : S40)]) x414001_1) else (none))) else ((hurdleref02_Cut.f kj21 (rdOf ByteArray.empty t414 x9_1) 32).bind fun t432 => (if 0 ≤ (wrap64 ((t432.length : Int) - 1)) then (if (wrap64 ((t432.length : Int) - 1)) < (t432.length : Int) then ((hurdleref09_ReadAction.f kj21 (rdOf ByteArray.empty t432 (wrap64 ((t432.length : Int) - 1)))).bind fun bt436 => (if (t432.length : Int) = 2 then (if 0 < (t432.length : Int) then (if (rdOf ByteArray.empty t432 0).toList = ([100, 101, 102, 97, 117, 108, 116] : List UInt8) then (if bt436.2 = true then (hurdleref10_Parse.l0 kj21 a0 t414 (wrap64 ((wrap64 (x7_1 + ((rdOf ByteArray.empty t414 x9_1).size : Int))) + 1)) true (wrap64 (x9_1 + 1)) x414000_1 bt436.1) else (some (([] : List (S40)), 0, x7_1, 2))) else (some (([] : List (S40)), 0, x7_1, 2))) else (none)) else (some (([] : List (S40)), 0, x7_1, 2)))) else (none)) else (none))))) else (none)) else (none)) = some (r1, r2, r3, r4) := by rw [if_neg (show ¬ (false = true) by decide)] at H; exact H
       clear H
       have H := H1
       clear H1
       by_cases c27 : 0 ≤ x9_1
       rotate_left
       · rw [if_neg c27] at H
         exact absurd H (by simp)
       rw [if_pos c27] at H
       have c27b0 : decide (0 ≤ x9_1) = true := decide_eq_true c27
       clear c27
       by_cases c28 : x9_1 < (t414.length : Int)
       rotate_left
       · rw [if_neg c28] at H
         exact absurd H (by simp)
       rw [if_pos c28] at H
       have c28b0 : decide (x9_1 < (t414.length : Int)) = true := decide_eq_true c28
       clear c28
       replace H := Option.bind_eq_some_iff.mp H
       obtain ⟨⟨t419, t420, t421, t424, t425⟩, A290, H⟩ := H
       replace H : (if t425 = true then (if (x414000_1.length : Int) ≥ 64 then (some (([] : List (S40)), 0, x7_1, 3)) else (if x414000_1.length < 3518437208883 then (hurdleref10_Parse.l0 kj21 a0 t414 (wrap64 ((wrap64 (x7_1 + ((rdOf ByteArray.empty t414 x9_1).size : Int))) + 1)) x8_1 (wrap64 (x9_1 + 1)) (x414000_1 ++ [(⟨t419, t420, t421, t424⟩ : S40)]) x414001_1) else (none))) else ((hurdleref02_Cut.f kj21 (rdOf ByteArray.empty t414 x9_1) 32).bind fun t432 => (if 0 ≤ (wrap64 ((t432.length : Int) - 1)) then (if (wrap64 ((t432.length : Int) - 1)) < (t432.length : Int) then ((hurdleref09_ReadAction.f kj21 (rdOf ByteArray.empty t432 (wrap64 ((t432.length : Int) - 1)))).bind fun bt436 => (if (t432.length : Int) = 2 then (if 0 < (t432.length : Int) then (if (rdOf ByteArray.empty t432 0).toList = ([100, 101, 102, 97, 117, 108, 116] : List UInt8) then (if bt436.2 = true then (hurdleref10_Parse.l0 kj21 a0 t414 (wrap64 ((wrap64 (x7_1 + ((rdOf ByteArray.empty t414 x9_1).size : Int))) + 1)) true (wrap64 (x9_1 + 1)) x414000_1 bt436.1) else (some (([] : List (S40)), 0, x7_1, 2))) else (some (([] : List (S40)), 0, x7_1, 2))) else (none)) else (some (([] : List (S40)), 0, x7_1, 2)))) else (none)) else (none)))) = some (r1, r2, r3, r4) := H
       have A29 := aM A290
       clear A290
       by_cases c30 : t425 = true
       · subst c30
         have H1 : (if (x414000_1.length : Int) ≥ 64 then (some (([] : List (S40)), 0, x7_1, 3)) else (if x414000_1.length < 3518437208883 then (hurdleref10_Parse.l0 kj21 a0 t414 (wrap64 ((wrap64 (x7_1 + ((rdOf ByteArray.empty t414 x9_1).size : Int))) + 1)) x8_1 (wrap64 (x9_1 + 1)) (x414000_1 ++ [(⟨t419, t420, t421, t424⟩ : S40)]) x414001_1) else (none))) = some (r1, r2, r3, r4) := by rw [if_pos rfl] at H; exact H
         clear H
         have H := H1
         clear H1
         by_cases c31 : (x414000_1.length : Int) ≥ 64
         · rw [if_pos c31] at H
           have c31b0 : decide (64 ≤ (x414000_1.length : Int)) = true := decide_eq_true c31
           have c31b1 : decide (64 ≤ x414000_1.length) = true := decide_eq_true (by omega)
           clear c31
           simp only [Option.some.injEq, Prod.mk.injEq] at H
           obtain ⟨rfl, rfl, rfl, rfl⟩ := H
           have p418 : 0 ≤ (x9_1 : Int) := of_decide_eq_true as_
           have q418 : x9_1 < (t414.length : Int) := of_decide_eq_true as_
           obtain ⟨ad418, e418, hx418_0⟩ := Kd.at_string (Kd.R_reads' HO_6.out).2.2 x9_1 p418 q418
           cases e418
           replace p418 := eq_true p418
           replace q418 := eq_true q418
           go_wp2_with (first | ((with_reducible refine bpI ?_); refine bodyPost_ret (results_ctt rfl _ _ gb412 25 #[.slice none 0 0, .int .u32 0] (0, 0) _ rfl (by refine bkS ?_; refine blk_put (cs := #[.slice none 0 0, .int .u32 x413001_1]) ?_ 1 _ rfl; refine bkS ?_; refine blk_put (cs := #[.slice none 0 0, .int .u32 x413001_1]) ?_ 0 _ rfl; refine bkS ?_; refine blk_far ?_ NB412_426.out _; refine bkS ?_; refine blk_far ?_ NB412_426.out _; refine bkS ?_; refine blk_far ?_ NB412_426.out _; refine bkS ?_; refine blk_far ?_ NB412_426.out _; refine bkS ?_; exact BK412.out) Try.underlying25 rfl kR) rfl ?_; exact ⟨_, erA, by first | exact Kd.S_nil _ _ _ _ _ | exact Kd.N_nil _ _ _ _ _ | exact Kd.V_nil _ _ _ _ _ | exact Kd.Q_nil _ _ _ _ _ | exact Kd.R_nil _ _ _ _ _, bl3 GE412.out GE413.out GE426.out⟩) | ((with_reducible refine gate_callee (f := 42) rfl ?_); refine goesL_ (some 58) rfl rfl Try.func42 kR rfl #[.string (rdOf ByteArray.empty t414 x9_1)] rfl mpA ?_; (with_reducible refine (hurdleref10_Read.calls kj21 (rdOf ByteArray.empty t414 x9_1) t419 t420 t421 t424 true _ A29.out).mono ?_); rintro e w32 ⟨v422, rfl, ho0, hb⟩; refine ⟨_, rfl, ?_⟩; have n0_ := aM (Kd.R_below (rdS HO_6.out) hb); have n1_ := aM (Kd.S_elder' (sdS HO_414000.out) (Kd.R_base ho0) hb); have n2_ := aM (Kd.R_lower ho0 (below_size (bl2 GE412.out GE413.out))); have n3_ := aM (blk_below (g := gb412) (o := .cells #[.slice none 0 0, .int .u32 x413001_1] 25 (0, 0)) (bkS BK412.out) hb); have n4_ := aM (blk_below (g := gb413) (o := .cells #[u414000, .int .u32 x414001_1] 25 (0, 0)) (bkS BK413.out) hb); have n5_ := aM (below_step (bl2 GE412.out GE413.out) hb); clear HO_6; clear HO_414000; clear BK412; clear BK413; clear HB; have HO_6 := n0_; have HO_414000 := n1_; have HO423 := n2_; have BK412 := n3_; have BK413 := n4_; have HB := n5_; clear n0_ n1_ n2_ n3_ n4_ n5_; (try clear hb); (try clear hb2); (try clear hk); (try clear hi); (try clear ho0)) | ((with_reducible refine gate_dst (N := 11) rfl ?_); refine box_event ?hg (N := 11) ?hd (cs := #[.int .u32 0, .int .u32 0, .slice none 0 0, .int .u32 0]) (t := 40) ?hr ?_; (case hd => rfl); (case hg => rfl); (case hr => first | (go_simp; done) | (go_simp; rfl)); intro gb426 hg w33 hbox hb; have n0_ := aM (Kd.R_below (rdS HO_6.out) hb); have n1_ := aM (Kd.S_below (Kd.S_elderB (sdS HO_414000.out) gb426 (Nat.le_of_eq hg.symm)) hb); have n2_ := aM (Kd.R_below (rdS HO423.out) hb); have n3_ := aM (blk_below (g := gb412) (o := .cells #[.slice none 0 0, .int .u32 x413001_1] 25 (0, 0)) (bkS BK412.out) hb); have n4_ := aM (blk_below (g := gb413) (o := .cells #[u414000, .int .u32 x414001_1] 25 (0, 0)) (bkS BK413.out) hb); have n5_ := aM (below_step (bl2 GE412.out GE413.out) hb); have n6_ := aM (hbox); have n7_ := aM ((by rw [hg]; exact (below_size (bl2 GE412.out GE413.out)) : w.heap.size ≤ gb426)); have n8_ := aM ((by rw [hg]; exact (below_size (bl2 GE412.out GE413.out)) : w.heap.size ≤ gb426)); have n9_ := aM ((by rw [hg]; exact Nat.ne_of_lt (blk_lt (g := gb412) (o := .cells #[.slice none 0 0, .int .u32 x413001_1] 25 (0, 0)) (bkS BK412.out)) : gb412 ≠ gb426)); have n10_ := aM ((by rw [hg]; exact Nat.ne_of_gt (blk_lt (g := gb412) (o := .cells #[.slice none 0 0, .int .u32 x413001_1] 25 (0, 0)) (bkS BK412.out)) : gb426 ≠ gb412)); have n11_ := aM ((by rw [hg]; exact Nat.ne_of_lt (blk_lt (g := gb413) (o := .cells #[u414000, .int .u32 x414001_1] 25 (0, 0)) (bkS BK413.out)) : gb413 ≠ gb426)); have n12_ := aM ((by rw [hg]; exact Nat.ne_of_gt (blk_lt (g := gb413) (o := .cells #[u414000, .int .u32 x414001_1] 25 (0, 0)) (bkS BK413.out)) : gb426 ≠ gb413)); clear HO_6; clear HO_414000; clear HO423; clear BK412; clear BK413; clear HB; have HO_6 := n0_; have HO_414000 := n1_; have HO423 := n2_; have BK412 := n3_; have BK413 := n4_; have HB := n5_; have BK426 := n6_; have GW426 := n7_; have GE426 := n8_; have NB412_426 := n9_; have NB426_412 := n10_; have NB413_426 := n11_; have NB426_413 := n12_; clear n0_ n1_ n2_ n3_ n4_ n5_ n6_ n7_ n8_ n9_ n10_ n11_ n12_; clear hb hbox hg; have hnb34 := NB426_412.out; have hnc34 := NB412_426.out; have hnb35 := NB426_413.out; have hnc35 := NB413_426.out; have hcz36_0 : w33.cell? ⟨gb426, 0, none⟩ = some (.int .u32 0) := (blk_cell BK426.out 0).trans rfl; have hcz36_1 : w33.cell? ⟨gb426, 1, none⟩ = some (.int .u32 0) := (blk_cell BK426.out 1).trans rfl; have hcz36_2 : w33.cell? ⟨gb426, 2, none⟩ = some (.slice none 0 0) := (blk_cell BK426.out 2).trans rfl; have hcz36_3 : w33.cell? ⟨gb426, 3, none⟩ = some (.int .u32 0) := (blk_cell BK426.out 3).trans rfl; have hfz36_0 := blk_frozen BK426.out 0; have hfz36_1 := blk_frozen BK426.out 1; have hfz36_2 := blk_frozen BK426.out 2; have hfz36_3 := blk_frozen BK426.out 3; obtain ⟨Ao37, co37, eo37⟩ := Kd.R_slice HO423.out; subst eo37; have hnb38 := NB413_412.out; have hnc38 := NB412_413.out; have hcz39_0 : w33.cell? ⟨gb413, 0, none⟩ = some (u414000) := (blk_cell BK413.out 0).trans rfl; have hcz39_1 : w33.cell? ⟨gb413, 1, none⟩ = some (.int .u32 x414001_1) := (blk_cell BK413.out 1).trans rfl; have hfz39_0 := blk_frozen BK413.out 0; have hfz39_1 := blk_frozen BK413.out 1; obtain ⟨Ao40, co40, eo40⟩ := Kd.S_slice HO_414000.out; subst eo40; have hcz41_0 : w33.cell? ⟨gb412, 0, none⟩ = some (.slice none 0 0) := (blk_cell BK412.out 0).trans rfl; have hcz41_1 : w33.cell? ⟨gb412, 1, none⟩ = some (.int .u32 x413001_1) := (blk_cell BK412.out 1).trans rfl; have hfz41_0 := blk_frozen BK412.out 0; have hfz41_1 := blk_frozen BK412.out 1))
         rw [if_neg c31] at H
         have c31b0 : decide (64 ≤ (x414000_1.length : Int)) = false := decide_eq_false c31
         have c31b1 : decide (64 ≤ x414000_1.length) = false := decide_eq_false (by omega)
         clear c31
         by_cases c42 : x414000_1.length < 3518437208883
         rotate_left
         · rw [if_neg c42] at H
           exact absurd H (by simp)
         rw [if_pos c42] at H
         have LMc42 := aM c42
         clear c42
         obtain ⟨y427, hy427⟩ : ∃ y_ : List (S40), y_ = (x414000_1 ++ [(⟨t419, t420, t421, t424⟩ : S40)]) := ⟨_, rfl⟩
         replace H : (hurdleref10_Parse.l0 kj21 a0 t414 (wrap64 ((wrap64 (x7_1 + ((rdOf ByteArray.empty t414 x9_1).size : Int))) + 1)) x8_1 (wrap64 (x9_1 + 1)) y427 x414001_1) = some (r1, r2, r3, r4) := by first | (rw [hy427]; with_reducible exact H) | (have H2_ := (Option.bind_some _ _).symm.trans H; rw [hy427]; with_reducible exact H2_) | (have H2_ := (Option.bind_some _ _).symm.trans H; with_reducible exact H2_) | with_reducible exact H | (rw [hy427]; exact H) | exact H
         have Ny427 := aM hy427
         clear hy427
         have H' := aM H
         clear H
         have p418 : 0 ≤ (x9_1 : Int) := of_decide_eq_true as_
         have q418 : x9_1 < (t414.length : Int) := of_decide_eq_true as_
         obtain ⟨ad418, e418, hx418_0⟩ := Kd.at_string (Kd.R_reads' HO_6.out).2.2 x9_1 p418 q418
         cases e418
         replace p418 := eq_true p418
         replace q418 := eq_true q418
         go_wp2_with (first | ((with_reducible refine gate_callee (f := 42) rfl ?_); refine goesL_ (some 58) rfl rfl Try.func42 kR rfl #[.string (rdOf ByteArray.empty t414 x9_1)] rfl mpA ?_; (with_reducible refine (hurdleref10_Read.calls kj21 (rdOf ByteArray.empty t414 x9_1) t419 t420 t421 t424 true _ A29.out).mono ?_); rintro e w43 ⟨v422, rfl, ho0, hb⟩; refine ⟨_, rfl, ?_⟩; have n0_ := aM (Kd.R_below (rdS HO_6.out) hb); have n1_ := aM (Kd.S_elder' (sdS HO_414000.out) (Kd.R_base ho0) hb); have n2_ := aM (Kd.R_lower ho0 (below_size (bl2 GE412.out GE413.out))); have n3_ := aM (blk_below (g := gb412) (o := .cells #[.slice none 0 0, .int .u32 x413001_1] 25 (0, 0)) (bkS BK412.out) hb); have n4_ := aM (blk_below (g := gb413) (o := .cells #[u414000, .int .u32 x414001_1] 25 (0, 0)) (bkS BK413.out) hb); have n5_ := aM (below_step (bl2 GE412.out GE413.out) hb); clear HO_6; clear HO_414000; clear BK412; clear BK413; clear HB; have HO_6 := n0_; have HO_414000 := n1_; have HO423 := n2_; have BK412 := n3_; have BK413 := n4_; have HB := n5_; clear n0_ n1_ n2_ n3_ n4_ n5_; (try clear hb); (try clear hb2); (try clear hk); (try clear hi); (try clear ho0)) | ((with_reducible refine gate_dst (N := 11) rfl ?_); refine box_event ?hg (N := 11) ?hd (cs := #[.int .u32 0, .int .u32 0, .slice none 0 0, .int .u32 0]) (t := 40) ?hr ?_; (case hd => rfl); (case hg => rfl); (case hr => first | (go_simp; done) | (go_simp; rfl)); intro gb426 hg w44 hbox hb; have n0_ := aM (Kd.R_below (rdS HO_6.out) hb); have n1_ := aM (Kd.S_below (Kd.S_elderB (sdS HO_414000.out) gb426 (Nat.le_of_eq hg.symm)) hb); have n2_ := aM (Kd.R_below (rdS HO423.out) hb); have n3_ := aM (blk_below (g := gb412) (o := .cells #[.slice none 0 0, .int .u32 x413001_1] 25 (0, 0)) (bkS BK412.out) hb); have n4_ := aM (blk_below (g := gb413) (o := .cells #[u414000, .int .u32 x414001_1] 25 (0, 0)) (bkS BK413.out) hb); have n5_ := aM (below_step (bl2 GE412.out GE413.out) hb); have n6_ := aM (hbox); have n7_ := aM ((by rw [hg]; exact (below_size (bl2 GE412.out GE413.out)) : w.heap.size ≤ gb426)); have n8_ := aM ((by rw [hg]; exact (below_size (bl2 GE412.out GE413.out)) : w.heap.size ≤ gb426)); have n9_ := aM ((by rw [hg]; exact Nat.ne_of_lt (blk_lt (g := gb412) (o := .cells #[.slice none 0 0, .int .u32 x413001_1] 25 (0, 0)) (bkS BK412.out)) : gb412 ≠ gb426)); have n10_ := aM ((by rw [hg]; exact Nat.ne_of_gt (blk_lt (g := gb412) (o := .cells #[.slice none 0 0, .int .u32 x413001_1] 25 (0, 0)) (bkS BK412.out)) : gb426 ≠ gb412)); have n11_ := aM ((by rw [hg]; exact Nat.ne_of_lt (blk_lt (g := gb413) (o := .cells #[u414000, .int .u32 x414001_1] 25 (0, 0)) (bkS BK413.out)) : gb413 ≠ gb426)); have n12_ := aM ((by rw [hg]; exact Nat.ne_of_gt (blk_lt (g := gb413) (o := .cells #[u414000, .int .u32 x414001_1] 25 (0, 0)) (bkS BK413.out)) : gb426 ≠ gb413)); clear HO_6; clear HO_414000; clear HO423; clear BK412; clear BK413; clear HB; have HO_6 := n0_; have HO_414000 := n1_; have HO423 := n2_; have BK412 := n3_; have BK413 := n4_; have HB := n5_; have BK426 := n6_; have GW426 := n7_; have GE426 := n8_; have NB412_426 := n9_; have NB426_412 := n10_; have NB413_426 := n11_; have NB426_413 := n12_; clear n0_ n1_ n2_ n3_ n4_ n5_ n6_ n7_ n8_ n9_ n10_ n11_ n12_; clear hb hbox hg; have hnb45 := NB426_412.out; have hnc45 := NB412_426.out; have hnb46 := NB426_413.out; have hnc46 := NB413_426.out; have hcz47_0 : w44.cell? ⟨gb426, 0, none⟩ = some (.int .u32 0) := (blk_cell BK426.out 0).trans rfl; have hcz47_1 : w44.cell? ⟨gb426, 1, none⟩ = some (.int .u32 0) := (blk_cell BK426.out 1).trans rfl; have hcz47_2 : w44.cell? ⟨gb426, 2, none⟩ = some (.slice none 0 0) := (blk_cell BK426.out 2).trans rfl; have hcz47_3 : w44.cell? ⟨gb426, 3, none⟩ = some (.int .u32 0) := (blk_cell BK426.out 3).trans rfl; have hfz47_0 := blk_frozen BK426.out 0; have hfz47_1 := blk_frozen BK426.out 1; have hfz47_2 := blk_frozen BK426.out 2; have hfz47_3 := blk_frozen BK426.out 3; obtain ⟨Ao48, co48, eo48⟩ := Kd.R_slice HO423.out; subst eo48) | ((with_reducible refine gate_store (t := 40) (p := 11) rfl ?_); refine store_event (t := 40) (p := 11) (v := ?vo_w49) (w1 := ((((w44.setCell ⟨gb426, 0, none⟩ (.int .u32 t419)).setCell ⟨gb426, 1, none⟩ (.int .u32 t420)).setCell ⟨gb426, 2, none⟩ (.slice Ao48 t421.length co48)).setCell ⟨gb426, 3, none⟩ (.int .u32 t424))) ?hg ?ho ?hn ?hr ?_; (case ho => rfl); (case hg => rfl); (case hn => rfl); (case hr => first | (go_simp; done) | (go_simp; rfl)); intro w49 hw; have n0_ : Aside0 (Kd.R Kd.string 9 w49 w.heap.size (fun _ => True) (.slice (some ad418) t414.length co11) t414) := ⟨(by rw [hw]; exact (by refine rdS ?_; exact Kd.R_mono (Kd.R_far (p := ⟨gb426, 3, none⟩) (Kd.R_far (p := ⟨gb426, 2, none⟩) (Kd.R_far (p := ⟨gb426, 1, none⟩) (Kd.R_far (p := ⟨gb426, 0, none⟩) (Kd.R_types HO_6.out BK426.out (by decide)) (fun _ hk => hk.2) (.int .u32 t419)) (fun _ hk => hk.2) (.int .u32 t420)) (fun _ hk => hk.2) (.slice Ao48 t421.length co48)) (fun _ hk => hk.2) (.int .u32 t424)) (fun _ hk => trivial)))⟩; have n1_ : Aside0 (Kd.S k40 40 w49 w.heap.size (fun k_ => some k_ ≠ (.slice Ao48 t421.length co48 : Value).ownBlock ∧ k_ ≠ gb426) u414000 x414000_1) := ⟨(by rw [hw]; exact (by refine sdS ?_; exact Kd.S_mono (Kd.S_far (p := ⟨gb426, 3, none⟩) (Kd.S_far (p := ⟨gb426, 2, none⟩) (Kd.S_far (p := ⟨gb426, 1, none⟩) (Kd.S_far (p := ⟨gb426, 0, none⟩) (Kd.S_mono HO_414000.out (fun k_ hk => (⟨hk, hk.2⟩ : _ ∧ k_ ≠ gb426))) (fun _ hk => hk.2) (.int .u32 t419)) (fun _ hk => hk.2) (.int .u32 t420)) (fun _ hk => hk.2) (.slice Ao48 t421.length co48)) (fun _ hk => hk.2) (.int .u32 t424)) (fun _ hk => ⟨hk.1.1.2, hk.1.2⟩)))⟩; have n2_ : Aside0 (Kd.R k61 61 w49 w.heap.size (fun _ => True) (.slice Ao48 t421.length co48) t421) := ⟨(by rw [hw]; exact (by refine rdS ?_; exact Kd.R_mono (Kd.R_far (p := ⟨gb426, 3, none⟩) (Kd.R_far (p := ⟨gb426, 2, none⟩) (Kd.R_far (p := ⟨gb426, 1, none⟩) (Kd.R_far (p := ⟨gb426, 0, none⟩) (Kd.R_types HO423.out BK426.out (by decide)) (fun _ hk => hk.2) (.int .u32 t419)) (fun _ hk => hk.2) (.int .u32 t420)) (fun _ hk => hk.2) (.slice Ao48 t421.length co48)) (fun _ hk => hk.2) (.int .u32 t424)) (fun _ hk => trivial)))⟩; have n3_ : Aside0 (w49.heap[gb412]? = some (.cells #[.slice none 0 0, .int .u32 x413001_1] 25 (0, 0))) := ⟨(by rw [hw]; exact (by refine bkS ?_; refine blk_far ?_ NB412_426.out _; refine bkS ?_; refine blk_far ?_ NB412_426.out _; refine bkS ?_; refine blk_far ?_ NB412_426.out _; refine bkS ?_; refine blk_far ?_ NB412_426.out _; refine bkS ?_; exact BK412.out))⟩; have n4_ : Aside0 (w49.heap[gb413]? = some (.cells #[u414000, .int .u32 x414001_1] 25 (0, 0))) := ⟨(by rw [hw]; exact (by refine bkS ?_; refine blk_far ?_ NB413_426.out _; refine bkS ?_; refine blk_far ?_ NB413_426.out _; refine bkS ?_; refine blk_far ?_ NB413_426.out _; refine bkS ?_; refine blk_far ?_ NB413_426.out _; refine bkS ?_; exact BK413.out))⟩; have n5_ : Aside0 (w49.heap[gb426]? = some (.cells #[.int .u32 t419, .int .u32 t420, .slice Ao48 t421.length co48, .int .u32 t424] 40 (0, 0))) := ⟨(by rw [hw]; exact (by refine bkS ?_; refine blk_put (cs := #[.int .u32 t419, .int .u32 t420, .slice Ao48 t421.length co48, .int .u32 0]) ?_ 3 _ rfl; refine bkS ?_; refine blk_put (cs := #[.int .u32 t419, .int .u32 t420, .slice none 0 0, .int .u32 0]) ?_ 2 _ rfl; refine bkS ?_; refine blk_put (cs := #[.int .u32 t419, .int .u32 0, .slice none 0 0, .int .u32 0]) ?_ 1 _ rfl; refine bkS ?_; refine blk_put (cs := #[.int .u32 0, .int .u32 0, .slice none 0 0, .int .u32 0]) ?_ 0 _ rfl; refine bkS ?_; exact BK426.out))⟩; have n6_ : Aside0 (Below w.heap.size w w49) := ⟨(by rw [hw]; exact (bl3 GE412.out GE413.out GE426.out))⟩; clear hw; clear HO_6; clear HO_414000; clear HO423; clear BK412; clear BK413; clear BK426; clear HB; have HO_6 := n0_; have HO_414000 := n1_; have HO423 := n2_; have BK412 := n3_; have BK413 := n4_; have BK426 := n5_; have HB := n6_; clear n0_ n1_ n2_ n3_ n4_ n5_ n6_; have hnb50 := NB413_412.out; have hnc50 := NB412_413.out; have hcz51_0 : w49.cell? ⟨gb413, 0, none⟩ = some (u414000) := (blk_cell BK413.out 0).trans rfl; have hcz51_1 : w49.cell? ⟨gb413, 1, none⟩ = some (.int .u32 x414001_1) := (blk_cell BK413.out 1).trans rfl; have hfz51_0 := blk_frozen BK413.out 0; have hfz51_1 := blk_frozen BK413.out 1; obtain ⟨Ao52, co52, eo52⟩ := Kd.S_slice HO_414000.out; subst eo52; have hcz53_0 : w49.cell? ⟨gb426, 0, none⟩ = some (.int .u32 t419) := (blk_cell BK426.out 0).trans rfl; have hcz53_1 : w49.cell? ⟨gb426, 1, none⟩ = some (.int .u32 t420) := (blk_cell BK426.out 1).trans rfl; have hcz53_2 : w49.cell? ⟨gb426, 2, none⟩ = some (.slice Ao48 t421.length co48) := (blk_cell BK426.out 2).trans rfl; have hcz53_3 : w49.cell? ⟨gb426, 3, none⟩ = some (.int .u32 t424) := (blk_cell BK426.out 3).trans rfl; have hfz53_0 := blk_frozen BK426.out 0; have hfz53_1 := blk_frozen BK426.out 1; have hfz53_2 := blk_frozen BK426.out 2; have hfz53_3 := blk_frozen BK426.out 3) | ((with_reducible refine gate_builtin (b := .append) (xs := #[.tmp 69, .tmp 71]) rfl ?_); at_builtin; refine Kd.S_append k40 (w0 := w) w.heap.size rfl (.tmp 69) (.tmp 71) 22 40 (.agg #[(.int .u32 0), (.int .u32 0), (.slice none 0 0), (.int .u32 0)]) 40 rfl Try.underlying22 info40 rfl (by decide) (by omega) (.slice Ao52 x414000_1.length co52) x414000_1 (⟨t419, t420, t421, t424⟩ : S40) [.int .u32 t419, .int .u32 t420, .slice Ao48 t421.length co48, .int .u32 t424] (fun k_ => k_ ≠ gb426) (fun k_ => some k_ = (.slice Ao48 t421.length co48 : Value).ownBlock) rfl rfl ?aP (fun k_ hk_ => ((Kd.R_mono (ok' := fun k_ => ((fun k_ => k_ ≠ gb426)) k_ ∧ some k_ ≠ (.slice Ao52 x414000_1.length co52 : Value).ownBlock) (Kd.R_types (Kd.R_apart' (HO423.out) (Kd.S_typed HO_414000.out) (by decide)) BK426.out (by decide)) (fun k_ hk => ⟨hk.2, hk.1.2⟩))).1 k_ hk_.symm) ?aF ?aO ?aB ?aS ?aL ?_; (case aP => exact k40_mkM _ _ _ (⟨t419, t420, t421, t424⟩ : S40) (Kd.R_mono (Kd.R_tight rfl (Kd.R_mono (ok' := fun k_ => ((fun k_ => k_ ≠ gb426)) k_ ∧ some k_ ≠ (.slice Ao52 x414000_1.length co52 : Value).ownBlock) (Kd.R_types (Kd.R_apart' (HO423.out) (Kd.S_typed HO_414000.out) (by decide)) BK426.out (by decide)) (fun k_ hk => ⟨hk.2, hk.1.2⟩))) (fun _ h_ => h_))); (case aB => exact (bl3 GE412.out GE413.out GE426.out)); (case aF => exact (fun k_ hk => Kd.freshB (g := gb426) (o := .cells #[.int .u32 t419, .int .u32 t420, .slice Ao48 t421.length co48, .int .u32 t424] 40 (0, 0)) (bkS BK426.out) k_ hk)); (case aO => exact (by refine sdS ?_; exact Kd.S_mono HO_414000.out (fun k_ hk => ⟨hk.2, fun e_ => hk.1 e_⟩))); (case aS => exact (below_size (bl3 GE412.out GE413.out GE426.out))); (case aL => have := LMc42.out; omega); intro v428 w54 ho hb hg hat; rw [← Ny427.out] at ho; have n0_ := aM (Kd.R_over' (rdS HO_6.out) (Kd.S_typed (sdS HO_414000.out)) (by decide) hg); have n1_ := aM (blk_grown (g := gb412) (o := .cells #[.slice none 0 0, .int .u32 x413001_1] 25 (0, 0)) (bkS BK412.out) hg (Kd.S_ne HO_414000.out BK412.out (by decide))); have n2_ := aM (blk_grown (g := gb413) (o := .cells #[.slice Ao52 x414000_1.length co52, .int .u32 x414001_1] 25 (0, 0)) (bkS BK413.out) hg (Kd.S_ne HO_414000.out BK413.out (by decide))); have n3_ := aM (blk_grown (g := gb426) (o := .cells #[.int .u32 t419, .int .u32 t420, .slice Ao48 t421.length co48, .int .u32 t424] 40 (0, 0)) (bkS BK426.out) hg (Kd.S_away HO_414000.out (fun _ hk => hk.2))); have n4_ := aM (hb); have n5_ := aM (ho); clear HO_6; clear BK412; clear BK413; clear BK426; clear HB; clear HO_414000; clear HO423; have HO_6 := n0_; have BK412 := n1_; have BK413 := n2_; have BK426 := n3_; have HB := n4_; have HO429 := n5_; clear n0_ n1_ n2_ n3_ n4_ n5_; clear ho hb hg hat; obtain ⟨Ao55, co55, eo55⟩ := Kd.S_slice HO429.out; subst eo55; have hcz56_0 : w54.cell? ⟨gb413, 0, none⟩ = some (.slice Ao52 x414000_1.length co52) := (blk_cell BK413.out 0).trans rfl; have hcz56_1 : w54.cell? ⟨gb413, 1, none⟩ = some (.int .u32 x414001_1) := (blk_cell BK413.out 1).trans rfl; have hfz56_0 := blk_frozen BK413.out 0; have hfz56_1 := blk_frozen BK413.out 1; have p430 : 0 ≤ (x9_1 : Int) := of_decide_eq_true as_; have q430 : x9_1 < (t414.length : Int) := of_decide_eq_true as_; obtain ⟨ad430, e430, hx430_0⟩ := Kd.at_string (Kd.R_reads' HO_6.out).2.2 x9_1 p430 q430; obtain rfl : ad418 = ad430 := (by injection e430); have hn430_0 : ad418.block ≠ gb413 := Kd.own_blk (Kd.R_ne HO_6.out BK413.out (by decide)); replace hx430_0 := (cell_far (p := ⟨gb413, 0, none⟩) (by first | (rw [add_block]; exact hn430_0) | (show (Addr.add _ _).block ≠ _; rw [add_block]; exact hn430_0) | exact hn430_0) (.slice Ao55 y427.length co55)).trans hx430_0; clear hn430_0; replace p430 := eq_true p430; replace q430 := eq_true q430))
         go_roundg kj21
         case measure => have := HK1.out; have := HJ9.out; have := HJ21.out; omega
         case rel => exact ⟨(wrap64 ((wrap64 (x7_1 + ((rdOf ByteArray.empty t414 x9_1).size : Int))) + 1)), (x8_1), (wrap64 (x9_1 + 1)), (x413001_1), (y427), (x414001_1), (.slice Ao55 y427.length co55), (by first | rfl | (simp; done) | (simp [*]; done)), (by first | rfl | (simp; done) | (simp [*]; done)), (by first | rfl | (simp; done) | (simp [*]; done)), H', ⟨by have := HK1.out; have := HJ9.out; have := HJ21.out; omega⟩, ⟨by refine rdS ?_; exact Kd.R_mono (Kd.R_far (p := ⟨gb413, 0, none⟩) (Kd.R_types HO_6.out BK413.out (by decide)) (fun _ hk => hk.2) (.slice Ao55 y427.length co55)) (fun _ hk => trivial)⟩, ⟨by refine sdS ?_; exact Kd.S_mono (Kd.S_far (p := ⟨gb413, 0, none⟩) (Kd.S_types HO429.out BK413.out (by decide)) (fun _ hk => hk.2) (.slice Ao55 y427.length co55)) (fun _ hk => trivial)⟩, ⟨by refine bkS ?_; refine blk_far ?_ NB412_413.out _; refine bkS ?_; exact BK412.out⟩, ⟨by refine bkS ?_; refine blk_put (cs := #[.slice Ao52 x414000_1.length co52, .int .u32 x414001_1]) ?_ 0 _ rfl; refine bkS ?_; exact BK413.out⟩, ⟨bl3 GE412.out GE413.out GE426.out⟩⟩
       replace c30 := Bool.eq_false_iff.mpr c30
       subst c30
       have H1 : ((hurdleref02_Cut.f kj21 (rdOf ByteArray.empty t414 x9_1) 32).bind fun t432 => (if 0 ≤ (wrap64 ((t432.length : Int) - 1)) then (if (wrap64 ((t432.length : Int) - 1)) < (t432.length : Int) then ((hurdleref09_ReadAction.f kj21 (rdOf ByteArray.empty t432 (wrap64 ((t432.length : Int) - 1)))).bind fun bt436 => (if (t432.length : Int) = 2 then (if 0 < (t432.length : Int) then (if (rdOf ByteArray.empty t432 0).toList = ([100, 101, 102, 97, 117, 108, 116] : List UInt8) then (if bt436.2 = true then (hurdleref10_Parse.l0 kj21 a0 t414 (wrap64 ((wrap64 (x7_1 + ((rdOf ByteArray.empty t414 x9_1).size : Int))) + 1)) true (wrap64 (x9_1 + 1)) x414000_1 bt436.1) else (some (([] : List (S40)), 0, x7_1, 2))) else (some (([] : List (S40)), 0, x7_1, 2))) else (none)) else (some (([] : List (S40)), 0, x7_1, 2)))) else (none)) else (none))) = some (r1, r2, r3, r4) := by rw [if_neg (show ¬ (false = true) by decide)] at H; exact H
       clear H
       have H := H1
       clear H1
       replace H := Option.bind_eq_some_iff.mp H
       obtain ⟨t432, A570, H⟩ := H
       replace H : (if 0 ≤ (wrap64 ((t432.length : Int) - 1)) then (if (wrap64 ((t432.length : Int) - 1)) < (t432.length : Int) then ((hurdleref09_ReadAction.f kj21 (rdOf ByteArray.empty t432 (wrap64 ((t432.length : Int) - 1)))).bind fun bt436 => (if (t432.length : Int) = 2 then (if 0 < (t432.length : Int) then (if (rdOf ByteArray.empty t432 0).toList = ([100, 101, 102, 97, 117, 108, 116] : List UInt8) then (if bt436.2 = true then (hurdleref10_Parse.l0 kj21 a0 t414 (wrap64 ((wrap64 (x7_1 + ((rdOf ByteArray.empty t414 x9_1).size : Int))) + 1)) true (wrap64 (x9_1 + 1)) x414000_1 bt436.1) else (some (([] : List (S40)), 0, x7_1, 2))) else (some (([] : List (S40)), 0, x7_1, 2))) else (none)) else (some (([] : List (S40)), 0, x7_1, 2)))) else (none)) else (none)) = some (r1, r2, r3, r4) := H
       have A57 := aM A570
       clear A570
       obtain ⟨ji58, hji58⟩ : ∃ j_ : Int, (wrap64 ((t432.length : Int) - 1)) = j_ := ⟨_, rfl⟩
       replace H : (if 0 ≤ (ji58) then (if (ji58) < (t432.length : Int) then ((hurdleref09_ReadAction.f kj21 (rdOf ByteArray.empty t432 (ji58))).bind fun bt436 => (if (t432.length : Int) = 2 then (if 0 < (t432.length : Int) then (if (rdOf ByteArray.empty t432 0).toList = ([100, 101, 102, 97, 117, 108, 116] : List UInt8) then (if bt436.2 = true then (hurdleref10_Parse.l0 kj21 a0 t414 (wrap64 ((wrap64 (x7_1 + ((rdOf ByteArray.empty t414 x9_1).size : Int))) + 1)) true (wrap64 (x9_1 + 1)) x414000_1 bt436.1) else (some (([] : List (S40)), 0, x7_1, 2))) else (some (([] : List (S40)), 0, x7_1, 2))) else (none)) else (some (([] : List (S40)), 0, x7_1, 2)))) else (none)) else (none)) = some (r1, r2, r3, r4) := by first | (rw [hji58] at H; exact H) | (simp only [hji58] at H ⊢; exact H)
       (try rw [hji58] at A29)
       (try rw [hji58] at A57)
       have hji58w : (IntKind.i64.wrap ((t432.length : Int) - 1)) = ji58 := (i64_w _).trans hji58
       by_cases c59 : 0 ≤ (ji58)
       rotate_left
       · rw [if_neg c59] at H
         exact absurd H (by simp)
       rw [if_pos c59] at H
       have c59b0 : decide (0 ≤ (ji58)) = true := decide_eq_true c59
       clear c59
       by_cases c60 : (ji58) < (t432.length : Int)
       rotate_left
       · rw [if_neg c60] at H
         exact absurd H (by simp)
       rw [if_pos c60] at H
       have c60b0 : decide ((ji58) < (t432.length : Int)) = true := decide_eq_true c60
       clear c60
       replace H := Option.bind_eq_some_iff.mp H
       obtain ⟨⟨t436, t437⟩, A610, H⟩ := H
       replace H : (if (t432.length : Int) = 2 then (if 0 < (t432.length : Int) then (if (rdOf ByteArray.empty t432 0).toList = ([100, 101, 102, 97, 117, 108, 116] : List UInt8) then (if t437 = true then (hurdleref10_Parse.l0 kj21 a0 t414 (wrap64 ((wrap64 (x7_1 + ((rdOf ByteArray.empty t414 x9_1).size : Int))) + 1)) true (wrap64 (x9_1 + 1)) x414000_1 t436) else (some (([] : List (S40)), 0, x7_1, 2))) else (some (([] : List (S40)), 0, x7_1, 2))) else (none)) else (some (([] : List (S40)), 0, x7_1, 2))) = some (r1, r2, r3, r4) := H
       have A61 := aM A610
       clear A610
       by_cases c62 : (t432.length : Int) = 2
       rotate_left
       · rw [if_neg c62] at H
         have c62b0 : ((t432.length : Int) == 2) = false := beq_eq_false_iff_ne.mpr c62
         have c62b1 : ((t432.length : Int) != 2) = true := bne_iff_ne.mpr c62
         simp only [Option.some.injEq, Prod.mk.injEq] at H
         obtain ⟨rfl, rfl, rfl, rfl⟩ := H
         have p418 : 0 ≤ (x9_1 : Int) := of_decide_eq_true as_
         have q418 : x9_1 < (t414.length : Int) := of_decide_eq_true as_
         obtain ⟨ad418, e418, hx418_0⟩ := Kd.at_string (Kd.R_reads' HO_6.out).2.2 x9_1 p418 q418
         cases e418
         replace p418 := eq_true p418
         replace q418 := eq_true q418
         go_wp2_with (first | ((with_reducible refine bpI ?_); refine bodyPost_ret (results_ctt rfl _ _ gb412 25 #[.slice none 0 0, .int .u32 0] (0, 0) _ rfl (by refine bkS ?_; refine blk_put (cs := #[.slice none 0 0, .int .u32 x413001_1]) ?_ 1 _ rfl; refine bkS ?_; refine blk_put (cs := #[.slice none 0 0, .int .u32 x413001_1]) ?_ 0 _ rfl; refine bkS ?_; exact BK412.out) Try.underlying25 rfl kR) rfl ?_; exact ⟨_, by first | rfl | (simp [errW_none, errW_some] <;> rfl) | (simp only [← hji58]; first | rfl | (simp [errW_none, errW_some] <;> rfl)) | (simp [*, errW_none, errW_some] <;> rfl), by first | exact Kd.S_nil _ _ _ _ _ | exact Kd.N_nil _ _ _ _ _ | exact Kd.V_nil _ _ _ _ _ | exact Kd.Q_nil _ _ _ _ _ | exact Kd.R_nil _ _ _ _ _, bl3 GE412.out GE413.out GE426.out⟩) | ((with_reducible refine gate_callee (f := 42) rfl ?_); refine goesL_ (some 58) rfl rfl Try.func42 kR rfl #[.string (rdOf ByteArray.empty t414 x9_1)] rfl mpA ?_; (with_reducible refine (hurdleref10_Read.calls kj21 (rdOf ByteArray.empty t414 x9_1) t419 t420 t421 t424 false _ A29.out).mono ?_); rintro e w99 ⟨v422, rfl, ho0, hb⟩; refine ⟨_, rfl, ?_⟩; have n0_ := aM (Kd.R_below (rdS HO_6.out) hb); have n1_ := aM (Kd.S_elder' (sdS HO_414000.out) (Kd.R_base ho0) hb); have n2_ := aM (Kd.R_lower ho0 (below_size (bl2 GE412.out GE413.out))); have n3_ := aM (blk_below (g := gb412) (o := .cells #[.slice none 0 0, .int .u32 x413001_1] 25 (0, 0)) (bkS BK412.out) hb); have n4_ := aM (blk_below (g := gb413) (o := .cells #[u414000, .int .u32 x414001_1] 25 (0, 0)) (bkS BK413.out) hb); have n5_ := aM (below_step (bl2 GE412.out GE413.out) hb); clear HO_6; clear HO_414000; clear BK412; clear BK413; clear HB; have HO_6 := n0_; have HO_414000 := n1_; have HO423 := n2_; have BK412 := n3_; have BK413 := n4_; have HB := n5_; clear n0_ n1_ n2_ n3_ n4_ n5_; (try clear hb); (try clear hb2); (try clear hk); (try clear hi); (try clear ho0)) | ((with_reducible refine gate_dst (N := 11) rfl ?_); refine box_event ?hg (N := 11) ?hd (cs := #[.int .u32 0, .int .u32 0, .slice none 0 0, .int .u32 0]) (t := 40) ?hr ?_; (case hd => rfl); (case hg => rfl); (case hr => first | (go_simp; done) | (go_simp; rfl)); intro gb426 hg w100 hbox hb; have n0_ := aM (Kd.R_below (rdS HO_6.out) hb); have n1_ := aM (Kd.S_below (Kd.S_elderB (sdS HO_414000.out) gb426 (Nat.le_of_eq hg.symm)) hb); have n2_ := aM (Kd.R_below (rdS HO423.out) hb); have n3_ := aM (blk_below (g := gb412) (o := .cells #[.slice none 0 0, .int .u32 x413001_1] 25 (0, 0)) (bkS BK412.out) hb); have n4_ := aM (blk_below (g := gb413) (o := .cells #[u414000, .int .u32 x414001_1] 25 (0, 0)) (bkS BK413.out) hb); have n5_ := aM (below_step (bl2 GE412.out GE413.out) hb); have n6_ := aM (hbox); have n7_ := aM ((by rw [hg]; exact (below_size (bl2 GE412.out GE413.out)) : w.heap.size ≤ gb426)); have n8_ := aM ((by rw [hg]; exact (below_size (bl2 GE412.out GE413.out)) : w.heap.size ≤ gb426)); have n9_ := aM ((by rw [hg]; exact Nat.ne_of_lt (blk_lt (g := gb412) (o := .cells #[.slice none 0 0, .int .u32 x413001_1] 25 (0, 0)) (bkS BK412.out)) : gb412 ≠ gb426)); have n10_ := aM ((by rw [hg]; exact Nat.ne_of_gt (blk_lt (g := gb412) (o := .cells #[.slice none 0 0, .int .u32 x413001_1] 25 (0, 0)) (bkS BK412.out)) : gb426 ≠ gb412)); have n11_ := aM ((by rw [hg]; exact Nat.ne_of_lt (blk_lt (g := gb413) (o := .cells #[u414000, .int .u32 x414001_1] 25 (0, 0)) (bkS BK413.out)) : gb413 ≠ gb426)); have n12_ := aM ((by rw [hg]; exact Nat.ne_of_gt (blk_lt (g := gb413) (o := .cells #[u414000, .int .u32 x414001_1] 25 (0, 0)) (bkS BK413.out)) : gb426 ≠ gb413)); clear HO_6; clear HO_414000; clear HO423; clear BK412; clear BK413; clear HB; have HO_6 := n0_; have HO_414000 := n1_; have HO423 := n2_; have BK412 := n3_; have BK413 := n4_; have HB := n5_; have BK426 := n6_; have GW426 := n7_; have GE426 := n8_; have NB412_426 := n9_; have NB426_412 := n10_; have NB413_426 := n11_; have NB426_413 := n12_; clear n0_ n1_ n2_ n3_ n4_ n5_ n6_ n7_ n8_ n9_ n10_ n11_ n12_; clear hb hbox hg; have hnb101 := NB426_412.out; have hnc101 := NB412_426.out; have hnb102 := NB426_413.out; have hnc102 := NB413_426.out; have hcz103_0 : w100.cell? ⟨gb426, 0, none⟩ = some (.int .u32 0) := (blk_cell BK426.out 0).trans rfl; have hcz103_1 : w100.cell? ⟨gb426, 1, none⟩ = some (.int .u32 0) := (blk_cell BK426.out 1).trans rfl; have hcz103_2 : w100.cell? ⟨gb426, 2, none⟩ = some (.slice none 0 0) := (blk_cell BK426.out 2).trans rfl; have hcz103_3 : w100.cell? ⟨gb426, 3, none⟩ = some (.int .u32 0) := (blk_cell BK426.out 3).trans rfl; have hfz103_0 := blk_frozen BK426.out 0; have hfz103_1 := blk_frozen BK426.out 1; have hfz103_2 := blk_frozen BK426.out 2; have hfz103_3 := blk_frozen BK426.out 3; obtain ⟨Ao104, co104, eo104⟩ := Kd.R_slice HO423.out; subst eo104; have p431 : 0 ≤ (x9_1 : Int) := of_decide_eq_true as_; have q431 : x9_1 < (t414.length : Int) := of_decide_eq_true as_; obtain ⟨ad431, e431, hx431_0⟩ := Kd.at_string (Kd.R_reads' HO_6.out).2.2 x9_1 p431 q431; obtain rfl : ad418 = ad431 := (by injection e431); have hn431_0 : ad418.block ≠ gb426 := Kd.own_blk (Kd.R_ne HO_6.out BK426.out (by decide)); have hn431_1 : ad418.block ≠ gb426 := Kd.own_blk (Kd.R_ne HO_6.out BK426.out (by decide)); have hn431_2 : ad418.block ≠ gb426 := Kd.own_blk (Kd.R_ne HO_6.out BK426.out (by decide)); have hn431_3 : ad418.block ≠ gb426 := Kd.own_blk (Kd.R_ne HO_6.out BK426.out (by decide)); replace hx431_0 := (cell_far (p := ⟨gb426, 0, none⟩) (by first | (rw [add_block]; exact hn431_0) | (show (Addr.add _ _).block ≠ _; rw [add_block]; exact hn431_0) | exact hn431_0) (.int .u32 t419)).trans hx431_0; replace hx431_0 := (cell_far (p := ⟨gb426, 1, none⟩) (by first | (rw [add_block]; exact hn431_1) | (show (Addr.add _ _).block ≠ _; rw [add_block]; exact hn431_1) | exact hn431_1) (.int .u32 t420)).trans hx431_0; replace hx431_0 := (cell_far (p := ⟨gb426, 2, none⟩) (by first | (rw [add_block]; exact hn431_2) | (show (Addr.add _ _).block ≠ _; rw [add_block]; exact hn431_2) | exact hn431_2) (.slice Ao104 t421.length co104)).trans hx431_0; replace hx431_0 := (cell_far (p := ⟨gb426, 3, none⟩) (by first | (rw [add_block]; exact hn431_3) | (show (Addr.add _ _).block ≠ _; rw [add_block]; exact hn431_3) | exact hn431_3) (.int .u32 t424)).trans hx431_0; clear hn431_0; clear hn431_1; clear hn431_2; clear hn431_3; replace p431 := eq_true p431; replace q431 := eq_true q431) | ((with_reducible refine gate_callee (f := 41) rfl ?_); refine goesL_ (some 78) rfl rfl Try.func41 kR rfl #[.string (rdOf ByteArray.empty t414 x9_1), .int .u8 32] rfl mpA ?_; (with_reducible refine (hurdleref02_Cut.calls kj21 (rdOf ByteArray.empty t414 x9_1) 32 t432 _ A57.out).mono ?_); rintro e w105 ⟨v433, rfl, ho0, hb⟩; refine ⟨_, rfl, ?_⟩; have n0_ := aM (Kd.R_elder' (by refine rdS ?_; exact (Kd.R_mono (Kd.R_far (p := ⟨gb426, 3, none⟩) (Kd.R_far (p := ⟨gb426, 2, none⟩) (Kd.R_far (p := ⟨gb426, 1, none⟩) (Kd.R_far (p := ⟨gb426, 0, none⟩) (Kd.R_types HO_6.out BK426.out (by decide)) (fun _ hk => hk.2) (.int .u32 t419)) (fun _ hk => hk.2) (.int .u32 t420)) (fun _ hk => hk.2) (.slice Ao104 t421.length co104)) (fun _ hk => hk.2) (.int .u32 t424)) (fun _ h_ => h_.1))) (Kd.R_base ho0) hb); have n1_ := aM (Kd.S_below (by refine sdS ?_; exact (Kd.S_mono (Kd.S_far (p := ⟨gb426, 3, none⟩) (Kd.S_far (p := ⟨gb426, 2, none⟩) (Kd.S_far (p := ⟨gb426, 1, none⟩) (Kd.S_far (p := ⟨gb426, 0, none⟩) (Kd.S_mono HO_414000.out (fun k_ hk => (⟨hk, hk.2⟩ : _ ∧ k_ ≠ gb426))) (fun _ hk => hk.2) (.int .u32 t419)) (fun _ hk => hk.2) (.int .u32 t420)) (fun _ hk => hk.2) (.slice Ao104 t421.length co104)) (fun _ hk => hk.2) (.int .u32 t424)) (fun _ h_ => h_.1))) hb); have n2_ := aM (Kd.R_below (by refine rdS ?_; exact (Kd.R_mono (Kd.R_far (p := ⟨gb426, 3, none⟩) (Kd.R_far (p := ⟨gb426, 2, none⟩) (Kd.R_far (p := ⟨gb426, 1, none⟩) (Kd.R_far (p := ⟨gb426, 0, none⟩) (Kd.R_types HO423.out BK426.out (by decide)) (fun _ hk => hk.2) (.int .u32 t419)) (fun _ hk => hk.2) (.int .u32 t420)) (fun _ hk => hk.2) (.slice Ao104 t421.length co104)) (fun _ hk => hk.2) (.int .u32 t424)) (fun _ h_ => h_.1))) hb); have n3_ := aM (Kd.R_lower (Kd.R_new' ho0 (Kd.R_lt (by refine rdS ?_; exact (Kd.R_mono (Kd.R_far (p := ⟨gb426, 3, none⟩) (Kd.R_far (p := ⟨gb426, 2, none⟩) (Kd.R_far (p := ⟨gb426, 1, none⟩) (Kd.R_far (p := ⟨gb426, 0, none⟩) (Kd.R_types HO_6.out BK426.out (by decide)) (fun _ hk => hk.2) (.int .u32 t419)) (fun _ hk => hk.2) (.int .u32 t420)) (fun _ hk => hk.2) (.slice Ao104 t421.length co104)) (fun _ hk => hk.2) (.int .u32 t424)) (fun _ h_ => h_.1))))) (below_size (bl3 GE412.out GE413.out GE426.out))); have n4_ := aM (blk_below (g := gb412) (o := .cells #[.slice none 0 0, .int .u32 x413001_1] 25 (0, 0)) (by refine bkS ?_; refine blk_far ?_ NB412_426.out _; refine bkS ?_; refine blk_far ?_ NB412_426.out _; refine bkS ?_; refine blk_far ?_ NB412_426.out _; refine bkS ?_; refine blk_far ?_ NB412_426.out _; refine bkS ?_; exact BK412.out) hb); have n5_ := aM (blk_below (g := gb413) (o := .cells #[u414000, .int .u32 x414001_1] 25 (0, 0)) (by refine bkS ?_; refine blk_far ?_ NB413_426.out _; refine bkS ?_; refine blk_far ?_ NB413_426.out _; refine bkS ?_; refine blk_far ?_ NB413_426.out _; refine bkS ?_; refine blk_far ?_ NB413_426.out _; refine bkS ?_; exact BK413.out) hb); have n6_ := aM (blk_below (g := gb426) (o := .cells #[.int .u32 t419, .int .u32 t420, .slice Ao104 t421.length co104, .int .u32 t424] 40 (0, 0)) (by refine bkS ?_; refine blk_put (cs := #[.int .u32 t419, .int .u32 t420, .slice Ao104 t421.length co104, .int .u32 0]) ?_ 3 _ rfl; refine bkS ?_; refine blk_put (cs := #[.int .u32 t419, .int .u32 t420, .slice none 0 0, .int .u32 0]) ?_ 2 _ rfl; refine bkS ?_; refine blk_put (cs := #[.int .u32 t419, .int .u32 0, .slice none 0 0, .int .u32 0]) ?_ 1 _ rfl; refine bkS ?_; refine blk_put (cs := #[.int .u32 0, .int .u32 0, .slice none 0 0, .int .u32 0]) ?_ 0 _ rfl; refine bkS ?_; exact BK426.out) hb); have n7_ := aM (below_step (bl3 GE412.out GE413.out GE426.out) hb); clear HO_6; clear HO_414000; clear HO423; clear BK412; clear BK413; clear BK426; clear HB; have HO_6 := n0_; have HO_414000 := n1_; have HO423 := n2_; have HO434 := n3_; have BK412 := n4_; have BK413 := n5_; have BK426 := n6_; have HB := n7_; clear n0_ n1_ n2_ n3_ n4_ n5_ n6_ n7_; (try clear hb); (try clear hb2); (try clear hk); (try clear hi); (try clear ho0); obtain ⟨Ao106, co106, eo106⟩ := Kd.R_slice HO434.out; subst eo106; have p435 : 0 ≤ ((ji58) : Int) := of_decide_eq_true as_; have q435 : (ji58) < (t432.length : Int) := of_decide_eq_true as_; obtain ⟨ad435, e435, hx435_0⟩ := Kd.at_string (Kd.R_reads' HO434.out).2.2 (ji58) p435 q435; cases e435; replace p435 := eq_true p435; replace q435 := eq_true q435) | ((with_reducible refine gate_callee (f := 43) rfl ?_); refine goesL_ (some 86) rfl rfl Try.func43 kR rfl #[.string (rdOf ByteArray.empty t432 (ji58))] rfl (by (try simp only [List.map_toArray, List.map_cons, List.map_nil]); first | done | (simp only [hji58]; rfl) | rfl | (simp only [List.length_drop, List.length_take]; rfl)) ?_; (with_reducible refine (hurdleref09_ReadAction.calls kj21 (rdOf ByteArray.empty t432 (ji58)) t436 t437 _ A61.out).mono ?_); rintro e w107 ⟨rfl, hb⟩; refine ⟨_, rfl, ?_⟩; have n0_ := aM (Kd.R_below (rdS HO_6.out) hb); have n1_ := aM (Kd.S_below (sdS HO_414000.out) hb); have n2_ := aM (Kd.R_below (rdS HO423.out) hb); have n3_ := aM (Kd.R_below (rdS HO434.out) hb); have n4_ := aM (blk_below (g := gb412) (o := .cells #[.slice none 0 0, .int .u32 x413001_1] 25 (0, 0)) (bkS BK412.out) hb); have n5_ := aM (blk_below (g := gb413) (o := .cells #[u414000, .int .u32 x414001_1] 25 (0, 0)) (bkS BK413.out) hb); have n6_ := aM (blk_below (g := gb426) (o := .cells #[.int .u32 t419, .int .u32 t420, .slice Ao104 t421.length co104, .int .u32 t424] 40 (0, 0)) (bkS BK426.out) hb); have n7_ := aM (below_step (bl3 GE412.out GE413.out GE426.out) hb); clear HO_6; clear HO_414000; clear HO423; clear HO434; clear BK412; clear BK413; clear BK426; clear HB; have HO_6 := n0_; have HO_414000 := n1_; have HO423 := n2_; have HO434 := n3_; have BK412 := n4_; have BK413 := n5_; have BK426 := n6_; have HB := n7_; clear n0_ n1_ n2_ n3_ n4_ n5_ n6_ n7_; (try clear hb); (try clear hb2); (try clear hk); (try clear hi); have hnb108 := NB412_413.out; have hnc108 := NB413_412.out; have hcz109_0 : w107.cell? ⟨gb412, 0, none⟩ = some (.slice none 0 0) := (blk_cell BK412.out 0).trans rfl; have hcz109_1 : w107.cell? ⟨gb412, 1, none⟩ = some (.int .u32 x413001_1) := (blk_cell BK412.out 1).trans rfl; have hfz109_0 := blk_frozen BK412.out 0; have hfz109_1 := blk_frozen BK412.out 1))
       rw [if_pos c62] at H
       have c62b0 : ((t432.length : Int) == 2) = true := beq_iff_eq.mpr c62
       have c62b1 : ((t432.length : Int) != 2) = false := bne_eq_false_iff_eq.mpr c62
       clear c62
       by_cases c63 : 0 < (t432.length : Int)
       rotate_left
       · rw [if_neg c63] at H
         exact absurd H (by simp)
       rw [if_pos c63] at H
       have c63b0 : decide (0 < (t432.length : Int)) = true := decide_eq_true c63
       have c63b1 : decide (0 < t432.length) = true := decide_eq_true (by omega)
       clear c63
       by_cases c64 : (rdOf ByteArray.empty t432 0).toList = ([100, 101, 102, 97, 117, 108, 116] : List UInt8)
       rotate_left
       · rw [if_neg c64] at H
         have c64b0 : ((rdOf ByteArray.empty t432 0).toList == ([100, 101, 102, 97, 117, 108, 116] : List UInt8)) = false := beq_eq_false_iff_ne.mpr c64
         have c64b1 : ((rdOf ByteArray.empty t432 0).toList != ([100, 101, 102, 97, 117, 108, 116] : List UInt8)) = true := bne_iff_ne.mpr c64
         simp only [Option.some.injEq, Prod.mk.injEq] at H
         obtain ⟨rfl, rfl, rfl, rfl⟩ := H
         have p418 : 0 ≤ (x9_1 : Int) := of_decide_eq_true as_
         have q418 : x9_1 < (t414.length : Int) := of_decide_eq_true as_
         obtain ⟨ad418, e418, hx418_0⟩ := Kd.at_string (Kd.R_reads' HO_6.out).2.2 x9_1 p418 q418
         cases e418
         replace p418 := eq_true p418
         replace q418 := eq_true q418
         go_wp2_with (first | ((with_reducible refine bpI ?_); refine bodyPost_ret (results_ctt rfl _ _ gb412 25 #[.slice none 0 0, .int .u32 0] (0, 0) _ rfl (by refine bkS ?_; refine blk_put (cs := #[.slice none 0 0, .int .u32 x413001_1]) ?_ 1 _ rfl; refine bkS ?_; refine blk_put (cs := #[.slice none 0 0, .int .u32 x413001_1]) ?_ 0 _ rfl; refine bkS ?_; exact BK412.out) Try.underlying25 rfl kR) rfl ?_; exact ⟨_, by first | rfl | (simp [errW_none, errW_some] <;> rfl) | (simp only [← hji58]; first | rfl | (simp [errW_none, errW_some] <;> rfl)) | (simp [*, errW_none, errW_some] <;> rfl), by first | exact Kd.S_nil _ _ _ _ _ | exact Kd.N_nil _ _ _ _ _ | exact Kd.V_nil _ _ _ _ _ | exact Kd.Q_nil _ _ _ _ _ | exact Kd.R_nil _ _ _ _ _, bl3 GE412.out GE413.out GE426.out⟩) | ((with_reducible refine gate_callee (f := 42) rfl ?_); refine goesL_ (some 58) rfl rfl Try.func42 kR rfl #[.string (rdOf ByteArray.empty t414 x9_1)] rfl mpA ?_; (with_reducible refine (hurdleref10_Read.calls kj21 (rdOf ByteArray.empty t414 x9_1) t419 t420 t421 t424 false _ A29.out).mono ?_); rintro e w88 ⟨v422, rfl, ho0, hb⟩; refine ⟨_, rfl, ?_⟩; have n0_ := aM (Kd.R_below (rdS HO_6.out) hb); have n1_ := aM (Kd.S_elder' (sdS HO_414000.out) (Kd.R_base ho0) hb); have n2_ := aM (Kd.R_lower ho0 (below_size (bl2 GE412.out GE413.out))); have n3_ := aM (blk_below (g := gb412) (o := .cells #[.slice none 0 0, .int .u32 x413001_1] 25 (0, 0)) (bkS BK412.out) hb); have n4_ := aM (blk_below (g := gb413) (o := .cells #[u414000, .int .u32 x414001_1] 25 (0, 0)) (bkS BK413.out) hb); have n5_ := aM (below_step (bl2 GE412.out GE413.out) hb); clear HO_6; clear HO_414000; clear BK412; clear BK413; clear HB; have HO_6 := n0_; have HO_414000 := n1_; have HO423 := n2_; have BK412 := n3_; have BK413 := n4_; have HB := n5_; clear n0_ n1_ n2_ n3_ n4_ n5_; (try clear hb); (try clear hb2); (try clear hk); (try clear hi); (try clear ho0)) | ((with_reducible refine gate_dst (N := 11) rfl ?_); refine box_event ?hg (N := 11) ?hd (cs := #[.int .u32 0, .int .u32 0, .slice none 0 0, .int .u32 0]) (t := 40) ?hr ?_; (case hd => rfl); (case hg => rfl); (case hr => first | (go_simp; done) | (go_simp; rfl)); intro gb426 hg w89 hbox hb; have n0_ := aM (Kd.R_below (rdS HO_6.out) hb); have n1_ := aM (Kd.S_below (Kd.S_elderB (sdS HO_414000.out) gb426 (Nat.le_of_eq hg.symm)) hb); have n2_ := aM (Kd.R_below (rdS HO423.out) hb); have n3_ := aM (blk_below (g := gb412) (o := .cells #[.slice none 0 0, .int .u32 x413001_1] 25 (0, 0)) (bkS BK412.out) hb); have n4_ := aM (blk_below (g := gb413) (o := .cells #[u414000, .int .u32 x414001_1] 25 (0, 0)) (bkS BK413.out) hb); have n5_ := aM (below_step (bl2 GE412.out GE413.out) hb); have n6_ := aM (hbox); have n7_ := aM ((by rw [hg]; exact (below_size (bl2 GE412.out GE413.out)) : w.heap.size ≤ gb426)); have n8_ := aM ((by rw [hg]; exact (below_size (bl2 GE412.out GE413.out)) : w.heap.size ≤ gb426)); have n9_ := aM ((by rw [hg]; exact Nat.ne_of_lt (blk_lt (g := gb412) (o := .cells #[.slice none 0 0, .int .u32 x413001_1] 25 (0, 0)) (bkS BK412.out)) : gb412 ≠ gb426)); have n10_ := aM ((by rw [hg]; exact Nat.ne_of_gt (blk_lt (g := gb412) (o := .cells #[.slice none 0 0, .int .u32 x413001_1] 25 (0, 0)) (bkS BK412.out)) : gb426 ≠ gb412)); have n11_ := aM ((by rw [hg]; exact Nat.ne_of_lt (blk_lt (g := gb413) (o := .cells #[u414000, .int .u32 x414001_1] 25 (0, 0)) (bkS BK413.out)) : gb413 ≠ gb426)); have n12_ := aM ((by rw [hg]; exact Nat.ne_of_gt (blk_lt (g := gb413) (o := .cells #[u414000, .int .u32 x414001_1] 25 (0, 0)) (bkS BK413.out)) : gb426 ≠ gb413)); clear HO_6; clear HO_414000; clear HO423; clear BK412; clear BK413; clear HB; have HO_6 := n0_; have HO_414000 := n1_; have HO423 := n2_; have BK412 := n3_; have BK413 := n4_; have HB := n5_; have BK426 := n6_; have GW426 := n7_; have GE426 := n8_; have NB412_426 := n9_; have NB426_412 := n10_; have NB413_426 := n11_; have NB426_413 := n12_; clear n0_ n1_ n2_ n3_ n4_ n5_ n6_ n7_ n8_ n9_ n10_ n11_ n12_; clear hb hbox hg; have hnb90 := NB426_412.out; have hnc90 := NB412_426.out; have hnb91 := NB426_413.out; have hnc91 := NB413_426.out; have hcz92_0 : w89.cell? ⟨gb426, 0, none⟩ = some (.int .u32 0) := (blk_cell BK426.out 0).trans rfl; have hcz92_1 : w89.cell? ⟨gb426, 1, none⟩ = some (.int .u32 0) := (blk_cell BK426.out 1).trans rfl; have hcz92_2 : w89.cell? ⟨gb426, 2, none⟩ = some (.slice none 0 0) := (blk_cell BK426.out 2).trans rfl; have hcz92_3 : w89.cell? ⟨gb426, 3, none⟩ = some (.int .u32 0) := (blk_cell BK426.out 3).trans rfl; have hfz92_0 := blk_frozen BK426.out 0; have hfz92_1 := blk_frozen BK426.out 1; have hfz92_2 := blk_frozen BK426.out 2; have hfz92_3 := blk_frozen BK426.out 3; obtain ⟨Ao93, co93, eo93⟩ := Kd.R_slice HO423.out; subst eo93; have p431 : 0 ≤ (x9_1 : Int) := of_decide_eq_true as_; have q431 : x9_1 < (t414.length : Int) := of_decide_eq_true as_; obtain ⟨ad431, e431, hx431_0⟩ := Kd.at_string (Kd.R_reads' HO_6.out).2.2 x9_1 p431 q431; obtain rfl : ad418 = ad431 := (by injection e431); have hn431_0 : ad418.block ≠ gb426 := Kd.own_blk (Kd.R_ne HO_6.out BK426.out (by decide)); have hn431_1 : ad418.block ≠ gb426 := Kd.own_blk (Kd.R_ne HO_6.out BK426.out (by decide)); have hn431_2 : ad418.block ≠ gb426 := Kd.own_blk (Kd.R_ne HO_6.out BK426.out (by decide)); have hn431_3 : ad418.block ≠ gb426 := Kd.own_blk (Kd.R_ne HO_6.out BK426.out (by decide)); replace hx431_0 := (cell_far (p := ⟨gb426, 0, none⟩) (by first | (rw [add_block]; exact hn431_0) | (show (Addr.add _ _).block ≠ _; rw [add_block]; exact hn431_0) | exact hn431_0) (.int .u32 t419)).trans hx431_0; replace hx431_0 := (cell_far (p := ⟨gb426, 1, none⟩) (by first | (rw [add_block]; exact hn431_1) | (show (Addr.add _ _).block ≠ _; rw [add_block]; exact hn431_1) | exact hn431_1) (.int .u32 t420)).trans hx431_0; replace hx431_0 := (cell_far (p := ⟨gb426, 2, none⟩) (by first | (rw [add_block]; exact hn431_2) | (show (Addr.add _ _).block ≠ _; rw [add_block]; exact hn431_2) | exact hn431_2) (.slice Ao93 t421.length co93)).trans hx431_0; replace hx431_0 := (cell_far (p := ⟨gb426, 3, none⟩) (by first | (rw [add_block]; exact hn431_3) | (show (Addr.add _ _).block ≠ _; rw [add_block]; exact hn431_3) | exact hn431_3) (.int .u32 t424)).trans hx431_0; clear hn431_0; clear hn431_1; clear hn431_2; clear hn431_3; replace p431 := eq_true p431; replace q431 := eq_true q431) | ((with_reducible refine gate_callee (f := 41) rfl ?_); refine goesL_ (some 78) rfl rfl Try.func41 kR rfl #[.string (rdOf ByteArray.empty t414 x9_1), .int .u8 32] rfl mpA ?_; (with_reducible refine (hurdleref02_Cut.calls kj21 (rdOf ByteArray.empty t414 x9_1) 32 t432 _ A57.out).mono ?_); rintro e w94 ⟨v433, rfl, ho0, hb⟩; refine ⟨_, rfl, ?_⟩; have n0_ := aM (Kd.R_elder' (by refine rdS ?_; exact (Kd.R_mono (Kd.R_far (p := ⟨gb426, 3, none⟩) (Kd.R_far (p := ⟨gb426, 2, none⟩) (Kd.R_far (p := ⟨gb426, 1, none⟩) (Kd.R_far (p := ⟨gb426, 0, none⟩) (Kd.R_types HO_6.out BK426.out (by decide)) (fun _ hk => hk.2) (.int .u32 t419)) (fun _ hk => hk.2) (.int .u32 t420)) (fun _ hk => hk.2) (.slice Ao93 t421.length co93)) (fun _ hk => hk.2) (.int .u32 t424)) (fun _ h_ => h_.1))) (Kd.R_base ho0) hb); have n1_ := aM (Kd.S_below (by refine sdS ?_; exact (Kd.S_mono (Kd.S_far (p := ⟨gb426, 3, none⟩) (Kd.S_far (p := ⟨gb426, 2, none⟩) (Kd.S_far (p := ⟨gb426, 1, none⟩) (Kd.S_far (p := ⟨gb426, 0, none⟩) (Kd.S_mono HO_414000.out (fun k_ hk => (⟨hk, hk.2⟩ : _ ∧ k_ ≠ gb426))) (fun _ hk => hk.2) (.int .u32 t419)) (fun _ hk => hk.2) (.int .u32 t420)) (fun _ hk => hk.2) (.slice Ao93 t421.length co93)) (fun _ hk => hk.2) (.int .u32 t424)) (fun _ h_ => h_.1))) hb); have n2_ := aM (Kd.R_below (by refine rdS ?_; exact (Kd.R_mono (Kd.R_far (p := ⟨gb426, 3, none⟩) (Kd.R_far (p := ⟨gb426, 2, none⟩) (Kd.R_far (p := ⟨gb426, 1, none⟩) (Kd.R_far (p := ⟨gb426, 0, none⟩) (Kd.R_types HO423.out BK426.out (by decide)) (fun _ hk => hk.2) (.int .u32 t419)) (fun _ hk => hk.2) (.int .u32 t420)) (fun _ hk => hk.2) (.slice Ao93 t421.length co93)) (fun _ hk => hk.2) (.int .u32 t424)) (fun _ h_ => h_.1))) hb); have n3_ := aM (Kd.R_lower (Kd.R_new' ho0 (Kd.R_lt (by refine rdS ?_; exact (Kd.R_mono (Kd.R_far (p := ⟨gb426, 3, none⟩) (Kd.R_far (p := ⟨gb426, 2, none⟩) (Kd.R_far (p := ⟨gb426, 1, none⟩) (Kd.R_far (p := ⟨gb426, 0, none⟩) (Kd.R_types HO_6.out BK426.out (by decide)) (fun _ hk => hk.2) (.int .u32 t419)) (fun _ hk => hk.2) (.int .u32 t420)) (fun _ hk => hk.2) (.slice Ao93 t421.length co93)) (fun _ hk => hk.2) (.int .u32 t424)) (fun _ h_ => h_.1))))) (below_size (bl3 GE412.out GE413.out GE426.out))); have n4_ := aM (blk_below (g := gb412) (o := .cells #[.slice none 0 0, .int .u32 x413001_1] 25 (0, 0)) (by refine bkS ?_; refine blk_far ?_ NB412_426.out _; refine bkS ?_; refine blk_far ?_ NB412_426.out _; refine bkS ?_; refine blk_far ?_ NB412_426.out _; refine bkS ?_; refine blk_far ?_ NB412_426.out _; refine bkS ?_; exact BK412.out) hb); have n5_ := aM (blk_below (g := gb413) (o := .cells #[u414000, .int .u32 x414001_1] 25 (0, 0)) (by refine bkS ?_; refine blk_far ?_ NB413_426.out _; refine bkS ?_; refine blk_far ?_ NB413_426.out _; refine bkS ?_; refine blk_far ?_ NB413_426.out _; refine bkS ?_; refine blk_far ?_ NB413_426.out _; refine bkS ?_; exact BK413.out) hb); have n6_ := aM (blk_below (g := gb426) (o := .cells #[.int .u32 t419, .int .u32 t420, .slice Ao93 t421.length co93, .int .u32 t424] 40 (0, 0)) (by refine bkS ?_; refine blk_put (cs := #[.int .u32 t419, .int .u32 t420, .slice Ao93 t421.length co93, .int .u32 0]) ?_ 3 _ rfl; refine bkS ?_; refine blk_put (cs := #[.int .u32 t419, .int .u32 t420, .slice none 0 0, .int .u32 0]) ?_ 2 _ rfl; refine bkS ?_; refine blk_put (cs := #[.int .u32 t419, .int .u32 0, .slice none 0 0, .int .u32 0]) ?_ 1 _ rfl; refine bkS ?_; refine blk_put (cs := #[.int .u32 0, .int .u32 0, .slice none 0 0, .int .u32 0]) ?_ 0 _ rfl; refine bkS ?_; exact BK426.out) hb); have n7_ := aM (below_step (bl3 GE412.out GE413.out GE426.out) hb); clear HO_6; clear HO_414000; clear HO423; clear BK412; clear BK413; clear BK426; clear HB; have HO_6 := n0_; have HO_414000 := n1_; have HO423 := n2_; have HO434 := n3_; have BK412 := n4_; have BK413 := n5_; have BK426 := n6_; have HB := n7_; clear n0_ n1_ n2_ n3_ n4_ n5_ n6_ n7_; (try clear hb); (try clear hb2); (try clear hk); (try clear hi); (try clear ho0); obtain ⟨Ao95, co95, eo95⟩ := Kd.R_slice HO434.out; subst eo95; have p435 : 0 ≤ ((ji58) : Int) := of_decide_eq_true as_; have q435 : (ji58) < (t432.length : Int) := of_decide_eq_true as_; obtain ⟨ad435, e435, hx435_0⟩ := Kd.at_string (Kd.R_reads' HO434.out).2.2 (ji58) p435 q435; cases e435; replace p435 := eq_true p435; replace q435 := eq_true q435) | ((with_reducible refine gate_callee (f := 43) rfl ?_); refine goesL_ (some 86) rfl rfl Try.func43 kR rfl #[.string (rdOf ByteArray.empty t432 (ji58))] rfl (by (try simp only [List.map_toArray, List.map_cons, List.map_nil]); first | done | (simp only [hji58]; rfl) | rfl | (simp only [List.length_drop, List.length_take]; rfl)) ?_; (with_reducible refine (hurdleref09_ReadAction.calls kj21 (rdOf ByteArray.empty t432 (ji58)) t436 t437 _ A61.out).mono ?_); rintro e w96 ⟨rfl, hb⟩; refine ⟨_, rfl, ?_⟩; have n0_ := aM (Kd.R_below (rdS HO_6.out) hb); have n1_ := aM (Kd.S_below (sdS HO_414000.out) hb); have n2_ := aM (Kd.R_below (rdS HO423.out) hb); have n3_ := aM (Kd.R_below (rdS HO434.out) hb); have n4_ := aM (blk_below (g := gb412) (o := .cells #[.slice none 0 0, .int .u32 x413001_1] 25 (0, 0)) (bkS BK412.out) hb); have n5_ := aM (blk_below (g := gb413) (o := .cells #[u414000, .int .u32 x414001_1] 25 (0, 0)) (bkS BK413.out) hb); have n6_ := aM (blk_below (g := gb426) (o := .cells #[.int .u32 t419, .int .u32 t420, .slice Ao93 t421.length co93, .int .u32 t424] 40 (0, 0)) (bkS BK426.out) hb); have n7_ := aM (below_step (bl3 GE412.out GE413.out GE426.out) hb); clear HO_6; clear HO_414000; clear HO423; clear HO434; clear BK412; clear BK413; clear BK426; clear HB; have HO_6 := n0_; have HO_414000 := n1_; have HO423 := n2_; have HO434 := n3_; have BK412 := n4_; have BK413 := n5_; have BK426 := n6_; have HB := n7_; clear n0_ n1_ n2_ n3_ n4_ n5_ n6_ n7_; (try clear hb); (try clear hb2); (try clear hk); (try clear hi); have p438 : 0 ≤ (0 : Int) := (by omega); have q438 : 0 < (t432.length : Int) := of_decide_eq_true as_; obtain ⟨ad438, e438, hx438_0⟩ := Kd.at_string (Kd.R_reads' HO434.out).2.2 0 p438 q438; obtain rfl : ad435 = ad438 := (by injection e438); have qi438 : (0 < t432.length) = True := eq_true (by omega); (try rw [show ((0 : Int)).toNat = 0 from rfl] at hx438_0); (try rw [Addr.add_zero'] at hx438_0); replace p438 := eq_true p438; replace q438 := eq_true q438; have hnb97 := NB412_413.out; have hnc97 := NB413_412.out; have hcz98_0 : w96.cell? ⟨gb412, 0, none⟩ = some (.slice none 0 0) := (blk_cell BK412.out 0).trans rfl; have hcz98_1 : w96.cell? ⟨gb412, 1, none⟩ = some (.int .u32 x413001_1) := (blk_cell BK412.out 1).trans rfl; have hfz98_0 := blk_frozen BK412.out 0; have hfz98_1 := blk_frozen BK412.out 1))
       rw [if_pos c64] at H
       have c64b0 : ((rdOf ByteArray.empty t432 0).toList == ([100, 101, 102, 97, 117, 108, 116] : List UInt8)) = true := beq_iff_eq.mpr c64
       have c64b1 : ((rdOf ByteArray.empty t432 0).toList != ([100, 101, 102, 97, 117, 108, 116] : List UInt8)) = false := bne_eq_false_iff_eq.mpr c64
       clear c64
       by_cases c65 : t437 = true
       rotate_left
       · replace c65 := Bool.eq_false_iff.mpr c65
         subst c65
         have H1 : (some (([] : List (S40)), 0, x7_1, 2)) = some (r1, r2, r3, r4) := by rw [if_neg (show ¬ (false = true) by decide)] at H; exact H
         clear H
         have H := H1
         clear H1
         simp only [Option.some.injEq, Prod.mk.injEq] at H
         obtain ⟨rfl, rfl, rfl, rfl⟩ := H
         have p418 : 0 ≤ (x9_1 : Int) := of_decide_eq_true as_
         have q418 : x9_1 < (t414.length : Int) := of_decide_eq_true as_
         obtain ⟨ad418, e418, hx418_0⟩ := Kd.at_string (Kd.R_reads' HO_6.out).2.2 x9_1 p418 q418
         cases e418
         replace p418 := eq_true p418
         replace q418 := eq_true q418
         go_wp2_with (first | ((with_reducible refine bpI ?_); refine bodyPost_ret (results_ctt rfl _ _ gb412 25 #[.slice none 0 0, .int .u32 0] (0, 0) _ rfl (by refine bkS ?_; refine blk_put (cs := #[.slice none 0 0, .int .u32 x413001_1]) ?_ 1 _ rfl; refine bkS ?_; refine blk_put (cs := #[.slice none 0 0, .int .u32 x413001_1]) ?_ 0 _ rfl; refine bkS ?_; exact BK412.out) Try.underlying25 rfl kR) rfl ?_; exact ⟨_, by first | rfl | (simp [errW_none, errW_some] <;> rfl) | (simp only [← hji58]; first | rfl | (simp [errW_none, errW_some] <;> rfl)) | (simp [*, errW_none, errW_some] <;> rfl), by first | exact Kd.S_nil _ _ _ _ _ | exact Kd.N_nil _ _ _ _ _ | exact Kd.V_nil _ _ _ _ _ | exact Kd.Q_nil _ _ _ _ _ | exact Kd.R_nil _ _ _ _ _, bl3 GE412.out GE413.out GE426.out⟩) | ((with_reducible refine gate_callee (f := 42) rfl ?_); refine goesL_ (some 58) rfl rfl Try.func42 kR rfl #[.string (rdOf ByteArray.empty t414 x9_1)] rfl mpA ?_; (with_reducible refine (hurdleref10_Read.calls kj21 (rdOf ByteArray.empty t414 x9_1) t419 t420 t421 t424 false _ A29.out).mono ?_); rintro e w77 ⟨v422, rfl, ho0, hb⟩; refine ⟨_, rfl, ?_⟩; have n0_ := aM (Kd.R_below (rdS HO_6.out) hb); have n1_ := aM (Kd.S_elder' (sdS HO_414000.out) (Kd.R_base ho0) hb); have n2_ := aM (Kd.R_lower ho0 (below_size (bl2 GE412.out GE413.out))); have n3_ := aM (blk_below (g := gb412) (o := .cells #[.slice none 0 0, .int .u32 x413001_1] 25 (0, 0)) (bkS BK412.out) hb); have n4_ := aM (blk_below (g := gb413) (o := .cells #[u414000, .int .u32 x414001_1] 25 (0, 0)) (bkS BK413.out) hb); have n5_ := aM (below_step (bl2 GE412.out GE413.out) hb); clear HO_6; clear HO_414000; clear BK412; clear BK413; clear HB; have HO_6 := n0_; have HO_414000 := n1_; have HO423 := n2_; have BK412 := n3_; have BK413 := n4_; have HB := n5_; clear n0_ n1_ n2_ n3_ n4_ n5_; (try clear hb); (try clear hb2); (try clear hk); (try clear hi); (try clear ho0)) | ((with_reducible refine gate_dst (N := 11) rfl ?_); refine box_event ?hg (N := 11) ?hd (cs := #[.int .u32 0, .int .u32 0, .slice none 0 0, .int .u32 0]) (t := 40) ?hr ?_; (case hd => rfl); (case hg => rfl); (case hr => first | (go_simp; done) | (go_simp; rfl)); intro gb426 hg w78 hbox hb; have n0_ := aM (Kd.R_below (rdS HO_6.out) hb); have n1_ := aM (Kd.S_below (Kd.S_elderB (sdS HO_414000.out) gb426 (Nat.le_of_eq hg.symm)) hb); have n2_ := aM (Kd.R_below (rdS HO423.out) hb); have n3_ := aM (blk_below (g := gb412) (o := .cells #[.slice none 0 0, .int .u32 x413001_1] 25 (0, 0)) (bkS BK412.out) hb); have n4_ := aM (blk_below (g := gb413) (o := .cells #[u414000, .int .u32 x414001_1] 25 (0, 0)) (bkS BK413.out) hb); have n5_ := aM (below_step (bl2 GE412.out GE413.out) hb); have n6_ := aM (hbox); have n7_ := aM ((by rw [hg]; exact (below_size (bl2 GE412.out GE413.out)) : w.heap.size ≤ gb426)); have n8_ := aM ((by rw [hg]; exact (below_size (bl2 GE412.out GE413.out)) : w.heap.size ≤ gb426)); have n9_ := aM ((by rw [hg]; exact Nat.ne_of_lt (blk_lt (g := gb412) (o := .cells #[.slice none 0 0, .int .u32 x413001_1] 25 (0, 0)) (bkS BK412.out)) : gb412 ≠ gb426)); have n10_ := aM ((by rw [hg]; exact Nat.ne_of_gt (blk_lt (g := gb412) (o := .cells #[.slice none 0 0, .int .u32 x413001_1] 25 (0, 0)) (bkS BK412.out)) : gb426 ≠ gb412)); have n11_ := aM ((by rw [hg]; exact Nat.ne_of_lt (blk_lt (g := gb413) (o := .cells #[u414000, .int .u32 x414001_1] 25 (0, 0)) (bkS BK413.out)) : gb413 ≠ gb426)); have n12_ := aM ((by rw [hg]; exact Nat.ne_of_gt (blk_lt (g := gb413) (o := .cells #[u414000, .int .u32 x414001_1] 25 (0, 0)) (bkS BK413.out)) : gb426 ≠ gb413)); clear HO_6; clear HO_414000; clear HO423; clear BK412; clear BK413; clear HB; have HO_6 := n0_; have HO_414000 := n1_; have HO423 := n2_; have BK412 := n3_; have BK413 := n4_; have HB := n5_; have BK426 := n6_; have GW426 := n7_; have GE426 := n8_; have NB412_426 := n9_; have NB426_412 := n10_; have NB413_426 := n11_; have NB426_413 := n12_; clear n0_ n1_ n2_ n3_ n4_ n5_ n6_ n7_ n8_ n9_ n10_ n11_ n12_; clear hb hbox hg; have hnb79 := NB426_412.out; have hnc79 := NB412_426.out; have hnb80 := NB426_413.out; have hnc80 := NB413_426.out; have hcz81_0 : w78.cell? ⟨gb426, 0, none⟩ = some (.int .u32 0) := (blk_cell BK426.out 0).trans rfl; have hcz81_1 : w78.cell? ⟨gb426, 1, none⟩ = some (.int .u32 0) := (blk_cell BK426.out 1).trans rfl; have hcz81_2 : w78.cell? ⟨gb426, 2, none⟩ = some (.slice none 0 0) := (blk_cell BK426.out 2).trans rfl; have hcz81_3 : w78.cell? ⟨gb426, 3, none⟩ = some (.int .u32 0) := (blk_cell BK426.out 3).trans rfl; have hfz81_0 := blk_frozen BK426.out 0; have hfz81_1 := blk_frozen BK426.out 1; have hfz81_2 := blk_frozen BK426.out 2; have hfz81_3 := blk_frozen BK426.out 3; obtain ⟨Ao82, co82, eo82⟩ := Kd.R_slice HO423.out; subst eo82; have p431 : 0 ≤ (x9_1 : Int) := of_decide_eq_true as_; have q431 : x9_1 < (t414.length : Int) := of_decide_eq_true as_; obtain ⟨ad431, e431, hx431_0⟩ := Kd.at_string (Kd.R_reads' HO_6.out).2.2 x9_1 p431 q431; obtain rfl : ad418 = ad431 := (by injection e431); have hn431_0 : ad418.block ≠ gb426 := Kd.own_blk (Kd.R_ne HO_6.out BK426.out (by decide)); have hn431_1 : ad418.block ≠ gb426 := Kd.own_blk (Kd.R_ne HO_6.out BK426.out (by decide)); have hn431_2 : ad418.block ≠ gb426 := Kd.own_blk (Kd.R_ne HO_6.out BK426.out (by decide)); have hn431_3 : ad418.block ≠ gb426 := Kd.own_blk (Kd.R_ne HO_6.out BK426.out (by decide)); replace hx431_0 := (cell_far (p := ⟨gb426, 0, none⟩) (by first | (rw [add_block]; exact hn431_0) | (show (Addr.add _ _).block ≠ _; rw [add_block]; exact hn431_0) | exact hn431_0) (.int .u32 t419)).trans hx431_0; replace hx431_0 := (cell_far (p := ⟨gb426, 1, none⟩) (by first | (rw [add_block]; exact hn431_1) | (show (Addr.add _ _).block ≠ _; rw [add_block]; exact hn431_1) | exact hn431_1) (.int .u32 t420)).trans hx431_0; replace hx431_0 := (cell_far (p := ⟨gb426, 2, none⟩) (by first | (rw [add_block]; exact hn431_2) | (show (Addr.add _ _).block ≠ _; rw [add_block]; exact hn431_2) | exact hn431_2) (.slice Ao82 t421.length co82)).trans hx431_0; replace hx431_0 := (cell_far (p := ⟨gb426, 3, none⟩) (by first | (rw [add_block]; exact hn431_3) | (show (Addr.add _ _).block ≠ _; rw [add_block]; exact hn431_3) | exact hn431_3) (.int .u32 t424)).trans hx431_0; clear hn431_0; clear hn431_1; clear hn431_2; clear hn431_3; replace p431 := eq_true p431; replace q431 := eq_true q431) | ((with_reducible refine gate_callee (f := 41) rfl ?_); refine goesL_ (some 78) rfl rfl Try.func41 kR rfl #[.string (rdOf ByteArray.empty t414 x9_1), .int .u8 32] rfl mpA ?_; (with_reducible refine (hurdleref02_Cut.calls kj21 (rdOf ByteArray.empty t414 x9_1) 32 t432 _ A57.out).mono ?_); rintro e w83 ⟨v433, rfl, ho0, hb⟩; refine ⟨_, rfl, ?_⟩; have n0_ := aM (Kd.R_elder' (by refine rdS ?_; exact (Kd.R_mono (Kd.R_far (p := ⟨gb426, 3, none⟩) (Kd.R_far (p := ⟨gb426, 2, none⟩) (Kd.R_far (p := ⟨gb426, 1, none⟩) (Kd.R_far (p := ⟨gb426, 0, none⟩) (Kd.R_types HO_6.out BK426.out (by decide)) (fun _ hk => hk.2) (.int .u32 t419)) (fun _ hk => hk.2) (.int .u32 t420)) (fun _ hk => hk.2) (.slice Ao82 t421.length co82)) (fun _ hk => hk.2) (.int .u32 t424)) (fun _ h_ => h_.1))) (Kd.R_base ho0) hb); have n1_ := aM (Kd.S_below (by refine sdS ?_; exact (Kd.S_mono (Kd.S_far (p := ⟨gb426, 3, none⟩) (Kd.S_far (p := ⟨gb426, 2, none⟩) (Kd.S_far (p := ⟨gb426, 1, none⟩) (Kd.S_far (p := ⟨gb426, 0, none⟩) (Kd.S_mono HO_414000.out (fun k_ hk => (⟨hk, hk.2⟩ : _ ∧ k_ ≠ gb426))) (fun _ hk => hk.2) (.int .u32 t419)) (fun _ hk => hk.2) (.int .u32 t420)) (fun _ hk => hk.2) (.slice Ao82 t421.length co82)) (fun _ hk => hk.2) (.int .u32 t424)) (fun _ h_ => h_.1))) hb); have n2_ := aM (Kd.R_below (by refine rdS ?_; exact (Kd.R_mono (Kd.R_far (p := ⟨gb426, 3, none⟩) (Kd.R_far (p := ⟨gb426, 2, none⟩) (Kd.R_far (p := ⟨gb426, 1, none⟩) (Kd.R_far (p := ⟨gb426, 0, none⟩) (Kd.R_types HO423.out BK426.out (by decide)) (fun _ hk => hk.2) (.int .u32 t419)) (fun _ hk => hk.2) (.int .u32 t420)) (fun _ hk => hk.2) (.slice Ao82 t421.length co82)) (fun _ hk => hk.2) (.int .u32 t424)) (fun _ h_ => h_.1))) hb); have n3_ := aM (Kd.R_lower (Kd.R_new' ho0 (Kd.R_lt (by refine rdS ?_; exact (Kd.R_mono (Kd.R_far (p := ⟨gb426, 3, none⟩) (Kd.R_far (p := ⟨gb426, 2, none⟩) (Kd.R_far (p := ⟨gb426, 1, none⟩) (Kd.R_far (p := ⟨gb426, 0, none⟩) (Kd.R_types HO_6.out BK426.out (by decide)) (fun _ hk => hk.2) (.int .u32 t419)) (fun _ hk => hk.2) (.int .u32 t420)) (fun _ hk => hk.2) (.slice Ao82 t421.length co82)) (fun _ hk => hk.2) (.int .u32 t424)) (fun _ h_ => h_.1))))) (below_size (bl3 GE412.out GE413.out GE426.out))); have n4_ := aM (blk_below (g := gb412) (o := .cells #[.slice none 0 0, .int .u32 x413001_1] 25 (0, 0)) (by refine bkS ?_; refine blk_far ?_ NB412_426.out _; refine bkS ?_; refine blk_far ?_ NB412_426.out _; refine bkS ?_; refine blk_far ?_ NB412_426.out _; refine bkS ?_; refine blk_far ?_ NB412_426.out _; refine bkS ?_; exact BK412.out) hb); have n5_ := aM (blk_below (g := gb413) (o := .cells #[u414000, .int .u32 x414001_1] 25 (0, 0)) (by refine bkS ?_; refine blk_far ?_ NB413_426.out _; refine bkS ?_; refine blk_far ?_ NB413_426.out _; refine bkS ?_; refine blk_far ?_ NB413_426.out _; refine bkS ?_; refine blk_far ?_ NB413_426.out _; refine bkS ?_; exact BK413.out) hb); have n6_ := aM (blk_below (g := gb426) (o := .cells #[.int .u32 t419, .int .u32 t420, .slice Ao82 t421.length co82, .int .u32 t424] 40 (0, 0)) (by refine bkS ?_; refine blk_put (cs := #[.int .u32 t419, .int .u32 t420, .slice Ao82 t421.length co82, .int .u32 0]) ?_ 3 _ rfl; refine bkS ?_; refine blk_put (cs := #[.int .u32 t419, .int .u32 t420, .slice none 0 0, .int .u32 0]) ?_ 2 _ rfl; refine bkS ?_; refine blk_put (cs := #[.int .u32 t419, .int .u32 0, .slice none 0 0, .int .u32 0]) ?_ 1 _ rfl; refine bkS ?_; refine blk_put (cs := #[.int .u32 0, .int .u32 0, .slice none 0 0, .int .u32 0]) ?_ 0 _ rfl; refine bkS ?_; exact BK426.out) hb); have n7_ := aM (below_step (bl3 GE412.out GE413.out GE426.out) hb); clear HO_6; clear HO_414000; clear HO423; clear BK412; clear BK413; clear BK426; clear HB; have HO_6 := n0_; have HO_414000 := n1_; have HO423 := n2_; have HO434 := n3_; have BK412 := n4_; have BK413 := n5_; have BK426 := n6_; have HB := n7_; clear n0_ n1_ n2_ n3_ n4_ n5_ n6_ n7_; (try clear hb); (try clear hb2); (try clear hk); (try clear hi); (try clear ho0); obtain ⟨Ao84, co84, eo84⟩ := Kd.R_slice HO434.out; subst eo84; have p435 : 0 ≤ ((ji58) : Int) := of_decide_eq_true as_; have q435 : (ji58) < (t432.length : Int) := of_decide_eq_true as_; obtain ⟨ad435, e435, hx435_0⟩ := Kd.at_string (Kd.R_reads' HO434.out).2.2 (ji58) p435 q435; cases e435; replace p435 := eq_true p435; replace q435 := eq_true q435) | ((with_reducible refine gate_callee (f := 43) rfl ?_); refine goesL_ (some 86) rfl rfl Try.func43 kR rfl #[.string (rdOf ByteArray.empty t432 (ji58))] rfl (by (try simp only [List.map_toArray, List.map_cons, List.map_nil]); first | done | (simp only [hji58]; rfl) | rfl | (simp only [List.length_drop, List.length_take]; rfl)) ?_; (with_reducible refine (hurdleref09_ReadAction.calls kj21 (rdOf ByteArray.empty t432 (ji58)) t436 false _ A61.out).mono ?_); rintro e w85 ⟨rfl, hb⟩; refine ⟨_, rfl, ?_⟩; have n0_ := aM (Kd.R_below (rdS HO_6.out) hb); have n1_ := aM (Kd.S_below (sdS HO_414000.out) hb); have n2_ := aM (Kd.R_below (rdS HO423.out) hb); have n3_ := aM (Kd.R_below (rdS HO434.out) hb); have n4_ := aM (blk_below (g := gb412) (o := .cells #[.slice none 0 0, .int .u32 x413001_1] 25 (0, 0)) (bkS BK412.out) hb); have n5_ := aM (blk_below (g := gb413) (o := .cells #[u414000, .int .u32 x414001_1] 25 (0, 0)) (bkS BK413.out) hb); have n6_ := aM (blk_below (g := gb426) (o := .cells #[.int .u32 t419, .int .u32 t420, .slice Ao82 t421.length co82, .int .u32 t424] 40 (0, 0)) (bkS BK426.out) hb); have n7_ := aM (below_step (bl3 GE412.out GE413.out GE426.out) hb); clear HO_6; clear HO_414000; clear HO423; clear HO434; clear BK412; clear BK413; clear BK426; clear HB; have HO_6 := n0_; have HO_414000 := n1_; have HO423 := n2_; have HO434 := n3_; have BK412 := n4_; have BK413 := n5_; have BK426 := n6_; have HB := n7_; clear n0_ n1_ n2_ n3_ n4_ n5_ n6_ n7_; (try clear hb); (try clear hb2); (try clear hk); (try clear hi); have p438 : 0 ≤ (0 : Int) := (by omega); have q438 : 0 < (t432.length : Int) := of_decide_eq_true as_; obtain ⟨ad438, e438, hx438_0⟩ := Kd.at_string (Kd.R_reads' HO434.out).2.2 0 p438 q438; obtain rfl : ad435 = ad438 := (by injection e438); have qi438 : (0 < t432.length) = True := eq_true (by omega); (try rw [show ((0 : Int)).toNat = 0 from rfl] at hx438_0); (try rw [Addr.add_zero'] at hx438_0); replace p438 := eq_true p438; replace q438 := eq_true q438; have hnb86 := NB412_413.out; have hnc86 := NB413_412.out; have hcz87_0 : w85.cell? ⟨gb412, 0, none⟩ = some (.slice none 0 0) := (blk_cell BK412.out 0).trans rfl; have hcz87_1 : w85.cell? ⟨gb412, 1, none⟩ = some (.int .u32 x413001_1) := (blk_cell BK412.out 1).trans rfl; have hfz87_0 := blk_frozen BK412.out 0; have hfz87_1 := blk_frozen BK412.out 1))
       subst c65
       have H1 : (hurdleref10_Parse.l0 kj21 a0 t414 (wrap64 ((wrap64 (x7_1 + ((rdOf ByteArray.empty t414 x9_1).size : Int))) + 1)) true (wrap64 (x9_1 + 1)) x414000_1 t436) = some (r1, r2, r3, r4) := by rw [if_pos rfl] at H; exact H
       clear H
       have H := H1
       clear H1
       have H' := aM H
       clear H
       have p418 : 0 ≤ (x9_1 : Int) := of_decide_eq_true as_
       have q418 : x9_1 < (t414.length : Int) := of_decide_eq_true as_
       obtain ⟨ad418, e418, hx418_0⟩ := Kd.at_string (Kd.R_reads' HO_6.out).2.2 x9_1 p418 q418
       cases e418
       replace p418 := eq_true p418
       replace q418 := eq_true q418
       go_wp2_with (first | ((with_reducible refine gate_callee (f := 42) rfl ?_); refine goesL_ (some 58) rfl rfl Try.func42 kR rfl #[.string (rdOf ByteArray.empty t414 x9_1)] rfl mpA ?_; (with_reducible refine (hurdleref10_Read.calls kj21 (rdOf ByteArray.empty t414 x9_1) t419 t420 t421 t424 false _ A29.out).mono ?_); rintro e w66 ⟨v422, rfl, ho0, hb⟩; refine ⟨_, rfl, ?_⟩; have n0_ := aM (Kd.R_below (rdS HO_6.out) hb); have n1_ := aM (Kd.S_elder' (sdS HO_414000.out) (Kd.R_base ho0) hb); have n2_ := aM (Kd.R_lower ho0 (below_size (bl2 GE412.out GE413.out))); have n3_ := aM (blk_below (g := gb412) (o := .cells #[.slice none 0 0, .int .u32 x413001_1] 25 (0, 0)) (bkS BK412.out) hb); have n4_ := aM (blk_below (g := gb413) (o := .cells #[u414000, .int .u32 x414001_1] 25 (0, 0)) (bkS BK413.out) hb); have n5_ := aM (below_step (bl2 GE412.out GE413.out) hb); clear HO_6; clear HO_414000; clear BK412; clear BK413; clear HB; have HO_6 := n0_; have HO_414000 := n1_; have HO423 := n2_; have BK412 := n3_; have BK413 := n4_; have HB := n5_; clear n0_ n1_ n2_ n3_ n4_ n5_; (try clear hb); (try clear hb2); (try clear hk); (try clear hi); (try clear ho0)) | ((with_reducible refine gate_dst (N := 11) rfl ?_); refine box_event ?hg (N := 11) ?hd (cs := #[.int .u32 0, .int .u32 0, .slice none 0 0, .int .u32 0]) (t := 40) ?hr ?_; (case hd => rfl); (case hg => rfl); (case hr => first | (go_simp; done) | (go_simp; rfl)); intro gb426 hg w67 hbox hb; have n0_ := aM (Kd.R_below (rdS HO_6.out) hb); have n1_ := aM (Kd.S_below (Kd.S_elderB (sdS HO_414000.out) gb426 (Nat.le_of_eq hg.symm)) hb); have n2_ := aM (Kd.R_below (rdS HO423.out) hb); have n3_ := aM (blk_below (g := gb412) (o := .cells #[.slice none 0 0, .int .u32 x413001_1] 25 (0, 0)) (bkS BK412.out) hb); have n4_ := aM (blk_below (g := gb413) (o := .cells #[u414000, .int .u32 x414001_1] 25 (0, 0)) (bkS BK413.out) hb); have n5_ := aM (below_step (bl2 GE412.out GE413.out) hb); have n6_ := aM (hbox); have n7_ := aM ((by rw [hg]; exact (below_size (bl2 GE412.out GE413.out)) : w.heap.size ≤ gb426)); have n8_ := aM ((by rw [hg]; exact (below_size (bl2 GE412.out GE413.out)) : w.heap.size ≤ gb426)); have n9_ := aM ((by rw [hg]; exact Nat.ne_of_lt (blk_lt (g := gb412) (o := .cells #[.slice none 0 0, .int .u32 x413001_1] 25 (0, 0)) (bkS BK412.out)) : gb412 ≠ gb426)); have n10_ := aM ((by rw [hg]; exact Nat.ne_of_gt (blk_lt (g := gb412) (o := .cells #[.slice none 0 0, .int .u32 x413001_1] 25 (0, 0)) (bkS BK412.out)) : gb426 ≠ gb412)); have n11_ := aM ((by rw [hg]; exact Nat.ne_of_lt (blk_lt (g := gb413) (o := .cells #[u414000, .int .u32 x414001_1] 25 (0, 0)) (bkS BK413.out)) : gb413 ≠ gb426)); have n12_ := aM ((by rw [hg]; exact Nat.ne_of_gt (blk_lt (g := gb413) (o := .cells #[u414000, .int .u32 x414001_1] 25 (0, 0)) (bkS BK413.out)) : gb426 ≠ gb413)); clear HO_6; clear HO_414000; clear HO423; clear BK412; clear BK413; clear HB; have HO_6 := n0_; have HO_414000 := n1_; have HO423 := n2_; have BK412 := n3_; have BK413 := n4_; have HB := n5_; have BK426 := n6_; have GW426 := n7_; have GE426 := n8_; have NB412_426 := n9_; have NB426_412 := n10_; have NB413_426 := n11_; have NB426_413 := n12_; clear n0_ n1_ n2_ n3_ n4_ n5_ n6_ n7_ n8_ n9_ n10_ n11_ n12_; clear hb hbox hg; have hnb68 := NB426_412.out; have hnc68 := NB412_426.out; have hnb69 := NB426_413.out; have hnc69 := NB413_426.out; have hcz70_0 : w67.cell? ⟨gb426, 0, none⟩ = some (.int .u32 0) := (blk_cell BK426.out 0).trans rfl; have hcz70_1 : w67.cell? ⟨gb426, 1, none⟩ = some (.int .u32 0) := (blk_cell BK426.out 1).trans rfl; have hcz70_2 : w67.cell? ⟨gb426, 2, none⟩ = some (.slice none 0 0) := (blk_cell BK426.out 2).trans rfl; have hcz70_3 : w67.cell? ⟨gb426, 3, none⟩ = some (.int .u32 0) := (blk_cell BK426.out 3).trans rfl; have hfz70_0 := blk_frozen BK426.out 0; have hfz70_1 := blk_frozen BK426.out 1; have hfz70_2 := blk_frozen BK426.out 2; have hfz70_3 := blk_frozen BK426.out 3; obtain ⟨Ao71, co71, eo71⟩ := Kd.R_slice HO423.out; subst eo71; have p431 : 0 ≤ (x9_1 : Int) := of_decide_eq_true as_; have q431 : x9_1 < (t414.length : Int) := of_decide_eq_true as_; obtain ⟨ad431, e431, hx431_0⟩ := Kd.at_string (Kd.R_reads' HO_6.out).2.2 x9_1 p431 q431; obtain rfl : ad418 = ad431 := (by injection e431); have hn431_0 : ad418.block ≠ gb426 := Kd.own_blk (Kd.R_ne HO_6.out BK426.out (by decide)); have hn431_1 : ad418.block ≠ gb426 := Kd.own_blk (Kd.R_ne HO_6.out BK426.out (by decide)); have hn431_2 : ad418.block ≠ gb426 := Kd.own_blk (Kd.R_ne HO_6.out BK426.out (by decide)); have hn431_3 : ad418.block ≠ gb426 := Kd.own_blk (Kd.R_ne HO_6.out BK426.out (by decide)); replace hx431_0 := (cell_far (p := ⟨gb426, 0, none⟩) (by first | (rw [add_block]; exact hn431_0) | (show (Addr.add _ _).block ≠ _; rw [add_block]; exact hn431_0) | exact hn431_0) (.int .u32 t419)).trans hx431_0; replace hx431_0 := (cell_far (p := ⟨gb426, 1, none⟩) (by first | (rw [add_block]; exact hn431_1) | (show (Addr.add _ _).block ≠ _; rw [add_block]; exact hn431_1) | exact hn431_1) (.int .u32 t420)).trans hx431_0; replace hx431_0 := (cell_far (p := ⟨gb426, 2, none⟩) (by first | (rw [add_block]; exact hn431_2) | (show (Addr.add _ _).block ≠ _; rw [add_block]; exact hn431_2) | exact hn431_2) (.slice Ao71 t421.length co71)).trans hx431_0; replace hx431_0 := (cell_far (p := ⟨gb426, 3, none⟩) (by first | (rw [add_block]; exact hn431_3) | (show (Addr.add _ _).block ≠ _; rw [add_block]; exact hn431_3) | exact hn431_3) (.int .u32 t424)).trans hx431_0; clear hn431_0; clear hn431_1; clear hn431_2; clear hn431_3; replace p431 := eq_true p431; replace q431 := eq_true q431) | ((with_reducible refine gate_callee (f := 41) rfl ?_); refine goesL_ (some 78) rfl rfl Try.func41 kR rfl #[.string (rdOf ByteArray.empty t414 x9_1), .int .u8 32] rfl mpA ?_; (with_reducible refine (hurdleref02_Cut.calls kj21 (rdOf ByteArray.empty t414 x9_1) 32 t432 _ A57.out).mono ?_); rintro e w72 ⟨v433, rfl, ho0, hb⟩; refine ⟨_, rfl, ?_⟩; have n0_ := aM (Kd.R_elder' (by refine rdS ?_; exact (Kd.R_mono (Kd.R_far (p := ⟨gb426, 3, none⟩) (Kd.R_far (p := ⟨gb426, 2, none⟩) (Kd.R_far (p := ⟨gb426, 1, none⟩) (Kd.R_far (p := ⟨gb426, 0, none⟩) (Kd.R_types HO_6.out BK426.out (by decide)) (fun _ hk => hk.2) (.int .u32 t419)) (fun _ hk => hk.2) (.int .u32 t420)) (fun _ hk => hk.2) (.slice Ao71 t421.length co71)) (fun _ hk => hk.2) (.int .u32 t424)) (fun _ h_ => h_.1))) (Kd.R_base ho0) hb); have n1_ := aM (Kd.S_below (by refine sdS ?_; exact (Kd.S_mono (Kd.S_far (p := ⟨gb426, 3, none⟩) (Kd.S_far (p := ⟨gb426, 2, none⟩) (Kd.S_far (p := ⟨gb426, 1, none⟩) (Kd.S_far (p := ⟨gb426, 0, none⟩) (Kd.S_mono HO_414000.out (fun k_ hk => (⟨hk, hk.2⟩ : _ ∧ k_ ≠ gb426))) (fun _ hk => hk.2) (.int .u32 t419)) (fun _ hk => hk.2) (.int .u32 t420)) (fun _ hk => hk.2) (.slice Ao71 t421.length co71)) (fun _ hk => hk.2) (.int .u32 t424)) (fun _ h_ => h_.1))) hb); have n2_ := aM (Kd.R_below (by refine rdS ?_; exact (Kd.R_mono (Kd.R_far (p := ⟨gb426, 3, none⟩) (Kd.R_far (p := ⟨gb426, 2, none⟩) (Kd.R_far (p := ⟨gb426, 1, none⟩) (Kd.R_far (p := ⟨gb426, 0, none⟩) (Kd.R_types HO423.out BK426.out (by decide)) (fun _ hk => hk.2) (.int .u32 t419)) (fun _ hk => hk.2) (.int .u32 t420)) (fun _ hk => hk.2) (.slice Ao71 t421.length co71)) (fun _ hk => hk.2) (.int .u32 t424)) (fun _ h_ => h_.1))) hb); have n3_ := aM (Kd.R_lower (Kd.R_new' ho0 (Kd.R_lt (by refine rdS ?_; exact (Kd.R_mono (Kd.R_far (p := ⟨gb426, 3, none⟩) (Kd.R_far (p := ⟨gb426, 2, none⟩) (Kd.R_far (p := ⟨gb426, 1, none⟩) (Kd.R_far (p := ⟨gb426, 0, none⟩) (Kd.R_types HO_6.out BK426.out (by decide)) (fun _ hk => hk.2) (.int .u32 t419)) (fun _ hk => hk.2) (.int .u32 t420)) (fun _ hk => hk.2) (.slice Ao71 t421.length co71)) (fun _ hk => hk.2) (.int .u32 t424)) (fun _ h_ => h_.1))))) (below_size (bl3 GE412.out GE413.out GE426.out))); have n4_ := aM (blk_below (g := gb412) (o := .cells #[.slice none 0 0, .int .u32 x413001_1] 25 (0, 0)) (by refine bkS ?_; refine blk_far ?_ NB412_426.out _; refine bkS ?_; refine blk_far ?_ NB412_426.out _; refine bkS ?_; refine blk_far ?_ NB412_426.out _; refine bkS ?_; refine blk_far ?_ NB412_426.out _; refine bkS ?_; exact BK412.out) hb); have n5_ := aM (blk_below (g := gb413) (o := .cells #[u414000, .int .u32 x414001_1] 25 (0, 0)) (by refine bkS ?_; refine blk_far ?_ NB413_426.out _; refine bkS ?_; refine blk_far ?_ NB413_426.out _; refine bkS ?_; refine blk_far ?_ NB413_426.out _; refine bkS ?_; refine blk_far ?_ NB413_426.out _; refine bkS ?_; exact BK413.out) hb); have n6_ := aM (blk_below (g := gb426) (o := .cells #[.int .u32 t419, .int .u32 t420, .slice Ao71 t421.length co71, .int .u32 t424] 40 (0, 0)) (by refine bkS ?_; refine blk_put (cs := #[.int .u32 t419, .int .u32 t420, .slice Ao71 t421.length co71, .int .u32 0]) ?_ 3 _ rfl; refine bkS ?_; refine blk_put (cs := #[.int .u32 t419, .int .u32 t420, .slice none 0 0, .int .u32 0]) ?_ 2 _ rfl; refine bkS ?_; refine blk_put (cs := #[.int .u32 t419, .int .u32 0, .slice none 0 0, .int .u32 0]) ?_ 1 _ rfl; refine bkS ?_; refine blk_put (cs := #[.int .u32 0, .int .u32 0, .slice none 0 0, .int .u32 0]) ?_ 0 _ rfl; refine bkS ?_; exact BK426.out) hb); have n7_ := aM (below_step (bl3 GE412.out GE413.out GE426.out) hb); clear HO_6; clear HO_414000; clear HO423; clear BK412; clear BK413; clear BK426; clear HB; have HO_6 := n0_; have HO_414000 := n1_; have HO423 := n2_; have HO434 := n3_; have BK412 := n4_; have BK413 := n5_; have BK426 := n6_; have HB := n7_; clear n0_ n1_ n2_ n3_ n4_ n5_ n6_ n7_; (try clear hb); (try clear hb2); (try clear hk); (try clear hi); (try clear ho0); obtain ⟨Ao73, co73, eo73⟩ := Kd.R_slice HO434.out; subst eo73; have p435 : 0 ≤ ((ji58) : Int) := of_decide_eq_true as_; have q435 : (ji58) < (t432.length : Int) := of_decide_eq_true as_; obtain ⟨ad435, e435, hx435_0⟩ := Kd.at_string (Kd.R_reads' HO434.out).2.2 (ji58) p435 q435; cases e435; replace p435 := eq_true p435; replace q435 := eq_true q435) | ((with_reducible refine gate_callee (f := 43) rfl ?_); refine goesL_ (some 86) rfl rfl Try.func43 kR rfl #[.string (rdOf ByteArray.empty t432 (ji58))] rfl (by (try simp only [List.map_toArray, List.map_cons, List.map_nil]); first | done | (simp only [hji58]; rfl) | rfl | (simp only [List.length_drop, List.length_take]; rfl)) ?_; (with_reducible refine (hurdleref09_ReadAction.calls kj21 (rdOf ByteArray.empty t432 (ji58)) t436 true _ A61.out).mono ?_); rintro e w74 ⟨rfl, hb⟩; refine ⟨_, rfl, ?_⟩; have n0_ := aM (Kd.R_below (rdS HO_6.out) hb); have n1_ := aM (Kd.S_below (sdS HO_414000.out) hb); have n2_ := aM (Kd.R_below (rdS HO423.out) hb); have n3_ := aM (Kd.R_below (rdS HO434.out) hb); have n4_ := aM (blk_below (g := gb412) (o := .cells #[.slice none 0 0, .int .u32 x413001_1] 25 (0, 0)) (bkS BK412.out) hb); have n5_ := aM (blk_below (g := gb413) (o := .cells #[u414000, .int .u32 x414001_1] 25 (0, 0)) (bkS BK413.out) hb); have n6_ := aM (blk_below (g := gb426) (o := .cells #[.int .u32 t419, .int .u32 t420, .slice Ao71 t421.length co71, .int .u32 t424] 40 (0, 0)) (bkS BK426.out) hb); have n7_ := aM (below_step (bl3 GE412.out GE413.out GE426.out) hb); clear HO_6; clear HO_414000; clear HO423; clear HO434; clear BK412; clear BK413; clear BK426; clear HB; have HO_6 := n0_; have HO_414000 := n1_; have HO423 := n2_; have HO434 := n3_; have BK412 := n4_; have BK413 := n5_; have BK426 := n6_; have HB := n7_; clear n0_ n1_ n2_ n3_ n4_ n5_ n6_ n7_; (try clear hb); (try clear hb2); (try clear hk); (try clear hi); have p438 : 0 ≤ (0 : Int) := (by omega); have q438 : 0 < (t432.length : Int) := of_decide_eq_true as_; obtain ⟨ad438, e438, hx438_0⟩ := Kd.at_string (Kd.R_reads' HO434.out).2.2 0 p438 q438; obtain rfl : ad435 = ad438 := (by injection e438); have qi438 : (0 < t432.length) = True := eq_true (by omega); (try rw [show ((0 : Int)).toNat = 0 from rfl] at hx438_0); (try rw [Addr.add_zero'] at hx438_0); replace p438 := eq_true p438; replace q438 := eq_true q438; have hnb75 := NB413_412.out; have hnc75 := NB412_413.out; have hcz76_0 : w74.cell? ⟨gb413, 0, none⟩ = some (u414000) := (blk_cell BK413.out 0).trans rfl; have hcz76_1 : w74.cell? ⟨gb413, 1, none⟩ = some (.int .u32 x414001_1) := (blk_cell BK413.out 1).trans rfl; have hfz76_0 := blk_frozen BK413.out 0; have hfz76_1 := blk_frozen BK413.out 1; have p439 : 0 ≤ (x9_1 : Int) := of_decide_eq_true as_; have q439 : x9_1 < (t414.length : Int) := of_decide_eq_true as_; obtain ⟨ad439, e439, hx439_0⟩ := Kd.at_string (Kd.R_reads' HO_6.out).2.2 x9_1 p439 q439; obtain rfl : ad418 = ad439 := (by injection e439); have hn439_0 : ad418.block ≠ gb413 := Kd.own_blk (Kd.R_ne HO_6.out BK413.out (by decide)); replace hx439_0 := (cell_far (p := ⟨gb413, 1, none⟩) (by first | (rw [add_block]; exact hn439_0) | (show (Addr.add _ _).block ≠ _; rw [add_block]; exact hn439_0) | exact hn439_0) (.int .u32 t436)).trans hx439_0; clear hn439_0; replace p439 := eq_true p439; replace q439 := eq_true q439))
       go_roundg kj21
       case measure => have := HK1.out; have := HJ9.out; have := HJ21.out; omega
       case rel => exact ⟨(wrap64 ((wrap64 (x7_1 + ((rdOf ByteArray.empty t414 x9_1).size : Int))) + 1)), (true), (wrap64 (x9_1 + 1)), (x413001_1), (x414000_1), (t436), (u414000), (by first | rfl | (simp; done) | (simp [*]; done)), (by first | rfl | (simp; done) | (simp [*]; done)), (by first | rfl | (simp; done) | (simp [*]; done)), H', ⟨by have := HK1.out; have := HJ9.out; have := HJ21.out; omega⟩, ⟨by refine rdS ?_; exact Kd.R_mono (Kd.R_far (p := ⟨gb413, 1, none⟩) (Kd.R_types HO_6.out BK413.out (by decide)) (fun _ hk => hk.2) (.int .u32 t436)) (fun _ hk => trivial)⟩, ⟨by refine sdS ?_; exact Kd.S_mono (Kd.S_far (p := ⟨gb413, 1, none⟩) (Kd.S_types HO_414000.out BK413.out (by decide)) (fun _ hk => hk.2) (.int .u32 t436)) (fun _ hk => trivial)⟩, ⟨by refine bkS ?_; refine blk_far ?_ NB412_413.out _; refine bkS ?_; exact BK412.out⟩, ⟨by refine bkS ?_; refine blk_put (cs := #[u414000, .int .u32 x414001_1]) ?_ 1 _ rfl; refine bkS ?_; exact BK413.out⟩, ⟨bl3 GE412.out GE413.out GE426.out⟩⟩
end Go.Proofs.Ytekpbgmmogpbdaa.P
namespace Go.Proofs.Ytekpbgmmogpbdaa.P
open Go.RowKit Go.Proofs.Ytekpbgmmogpbdaa.H Go.Proofs.YtekpbgmmogpbdaaW.PrintWords Go.Proofs.YtekpbgmmogpbdaaW.PrintLast Go.Proofs.YtekpbgmmogpbdaaW.PrintMore
attribute [local go_sem] max2_int min2_int max_two min_two max_three min_three max_four min_four
mutual
def policy_reader_rest.l0 : Nat → ByteArray → ByteArray → Bool → Bool → Int → Int → List (S61) → Int → Option (Int × Int × (List (S61)) × Int × ByteArray × Bool × Bool)
 | 0, _, _, _, _, _, _, _, _ => none
 | k + 1, x5, x1000, x1001, x1002, x160000, x160001, x160002, x160003 => if x1001 = true then (policy_reader_rest.j1 k x5 false x1000 x1001 x1002 x160000 x160001 x160002 x160003) else (policy_reader_rest.j1 k x5 (!x1002) x1000 x1001 x1002 x160000 x160001 x160002 x160003)
def policy_reader_rest.j1 : Nat → ByteArray → Bool → ByteArray → Bool → Bool → Int → Int → List (S61) → Int → Option (Int × Int × (List (S61)) × Int × ByteArray × Bool × Bool)
 | 0, _, _, _, _, _, _, _, _, _ => none
 | k + 1, x5, x49, x1000, x1001, x1002, x160000, x160001, x160002, x160003 => if x49 = true then ((policy_reader_word.f x1000 x1001 x1002).bind fun bt187 => (if bt187.1.toList = x5.toList then ((policy_reader_condition.f bt187.2.1 bt187.2.2.1 bt187.2.2.2).bind fun bt191 => (if x160002.length < 4398046511104 then (policy_reader_rest.l0 k (⟨#[97, 110, 100]⟩ : ByteArray) bt191.2.2.2.2.1 bt191.2.2.2.2.2.1 bt191.2.2.2.2.2.2 x160000 x160001 (x160002 ++ [(⟨bt191.1, bt191.2.1, bt191.2.2.1, bt191.2.2.2.1⟩ : S61)]) x160003) else (none))) else ((policy_reader_condition.f bt187.2.1 bt187.2.2.1 true).bind fun bt201 => (if x160002.length < 4398046511104 then (policy_reader_rest.l0 k (⟨#[97, 110, 100]⟩ : ByteArray) bt201.2.2.2.2.1 bt201.2.2.2.2.2.1 bt201.2.2.2.2.2.2 x160000 x160001 (x160002 ++ [(⟨bt201.1, bt201.2.1, bt201.2.2.1, bt201.2.2.2.1⟩ : S61)]) x160003) else (none))))) else (if x1002 = true then (some (x160000, x160001, x160002, x160003, x1000, x1001, true)) else (some (x160000, x160001, x160002, x160003, x1000, x1001, decide ((x160002.length : Int) > 4))))
end
def policy_reader_rest.f (k : Nat) (s0_0 : ByteArray) (s0_1 : Bool) (s0_2 : Bool) : Option (Int × Int × (List (S61)) × Int × ByteArray × Bool × Bool) := (policy_reader_word.f s0_0 s0_1 s0_2).bind fun bt160 => ((names_ReadMachine.f bt160.1).bind fun bt164 => ((policy_reader_must.f bt160.2.1 bt160.2.2.1 bt160.2.2.2 bt164.2).bind fun bt166 => ((policy_reader_word.f bt166.1 bt166.2.1 bt166.2.2).bind fun bt169 => ((names_ReadCall.f bt164.1 bt169.1).bind fun bt173 => ((policy_reader_must.f bt169.2.1 bt169.2.2.1 bt169.2.2.2 bt173.2).bind fun bt175 => ((policy_reader_word.f bt175.1 bt175.2.1 bt175.2.2).bind fun bt178 => ((names_ReadAction.f bt178.1).bind fun bt182 => ((policy_reader_must.f bt178.2.1 bt178.2.2.1 bt178.2.2.2 bt182.2).bind fun bt184 => (policy_reader_rest.l0 k (⟨#[105, 102]⟩ : ByteArray) bt184.1 bt184.2.1 bt184.2.2 bt164.1 bt173.1 ([] : List (S61)) bt182.1)))))))))
def policy_reader_rest.T5 : Bool × List (List Nat × List Nat) := (true, [([], []), ([0], [0]), ([], []), ([2], [2]), ([1, 3, 3], [1, 3]), ([4], [4]), ([5], [5]), ([5], [5]), ([0, 1, 2, 3, 4, 5, 6], []), ([8, 6, 4, 0, 1, 2, 3, 4, 5, 6], [6, 8]), ([7, 9, 0, 1, 2, 3, 4, 5, 6, 7, 8, 9], [7])])
def policy_reader_rest.B5 : List Nat := [0, 1, 0, 4, 15, 31, 63, 63, 127, 383, 1023]
theorem policy_reader_rest.tab5 : rtab .any (opsOf Try.f38 5) = policy_reader_rest.T5 := by kernel_rfl
theorem policy_reader_rest.bits5 : waitsOk policy_reader_rest.T5.2 policy_reader_rest.B5 = true := by kernel_rfl
def policy_reader_rest.T13 : Bool × List (List Nat × List Nat) := (true, [([], []), ([0], [0]), ([], []), ([2], [2]), ([3], [3]), ([1, 4, 3], [1, 4]), ([0, 1, 2, 3, 4, 5], []), ([6, 5, 5, 0, 1, 2, 3, 4, 5], [5, 6])])
def policy_reader_rest.B13 : List Nat := [0, 1, 0, 4, 12, 31, 63, 127]
theorem policy_reader_rest.tab13 : rtab .any (opsOf Try.f38 13) = policy_reader_rest.T13 := by kernel_rfl
theorem policy_reader_rest.bits13 : waitsOk policy_reader_rest.T13.2 policy_reader_rest.B13 = true := by kernel_rfl
set_option maxHeartbeats 8000000 in
set_option maxRecDepth 100000 in
theorem policy_reader_rest.calls (k : Nat) (g : Nat) (s0_0 : ByteArray) (s0_1 : Bool) (s0_2 : Bool) (r1 : Int) (r2 : Int) (r3 : List (S61)) (r4 : Int) (r5 : ByteArray) (r6 : Bool) (r7 : Bool) (w0 w : World) (hI : IsS65 w0 w g s0_0 s0_1 s0_2) (hB : Below w0.heap.size w0 w) (h : policy_reader_rest.f k s0_0 s0_1 s0_2 = some (r1, r2, r3, r4, r5, r6, r7)) :
 Calls Try.prog 38 #[.pointer (some ⟨g, 0, none⟩)] w fun e w' => ∃ v2_ : Value, e = .returned (.agg #[.int .u32 r1, .int .u32 r2, v2_, .int .u32 r4]) ∧ Kd.R k61 61 w' w.heap.size (fun _ => True) v2_ r3 ∧ IsS65 w0 w' g r5 r6 r7 ∧ Below w0.heap.size w0 w' ∧ KeepBut w w' g none := by
 have hu40 := Try.underlying40
 have HI0 := aM hI
 have HK := aM (KeepBut.refl w g none)
 have HL := aM hB.size
 clear hI
 have HW0 := aM hB.size
 have HB := aM hB
 clear hB
 have H : ((policy_reader_word.f s0_0 s0_1 s0_2).bind fun bt160 => ((names_ReadMachine.f bt160.1).bind fun bt164 => ((policy_reader_must.f bt160.2.1 bt160.2.2.1 bt160.2.2.2 bt164.2).bind fun bt166 => ((policy_reader_word.f bt166.1 bt166.2.1 bt166.2.2).bind fun bt169 => ((names_ReadCall.f bt164.1 bt169.1).bind fun bt173 => ((policy_reader_must.f bt169.2.1 bt169.2.2.1 bt169.2.2.2 bt173.2).bind fun bt175 => ((policy_reader_word.f bt175.1 bt175.2.1 bt175.2.2).bind fun bt178 => ((names_ReadAction.f bt178.1).bind fun bt182 => ((policy_reader_must.f bt178.2.1 bt178.2.2.1 bt178.2.2.2 bt182.2).bind fun bt184 => (policy_reader_rest.l0 k (⟨#[105, 102]⟩ : ByteArray) bt184.1 bt184.2.1 bt184.2.2 bt164.1 bt173.1 ([] : List (S61)) bt182.1)))))))))) = some (r1, r2, r3, r4, r5, r6, r7) := h
 clear h
 replace H := Option.bind_eq_some_iff.mp H
 obtain ⟨⟨t160, t161, t162, t163⟩, A20, H⟩ := H
 replace H : ((names_ReadMachine.f t160).bind fun bt164 => ((policy_reader_must.f t161 t162 t163 bt164.2).bind fun bt166 => ((policy_reader_word.f bt166.1 bt166.2.1 bt166.2.2).bind fun bt169 => ((names_ReadCall.f bt164.1 bt169.1).bind fun bt173 => ((policy_reader_must.f bt169.2.1 bt169.2.2.1 bt169.2.2.2 bt173.2).bind fun bt175 => ((policy_reader_word.f bt175.1 bt175.2.1 bt175.2.2).bind fun bt178 => ((names_ReadAction.f bt178.1).bind fun bt182 => ((policy_reader_must.f bt178.2.1 bt178.2.2.1 bt178.2.2.2 bt182.2).bind fun bt184 => (policy_reader_rest.l0 k (⟨#[105, 102]⟩ : ByteArray) bt184.1 bt184.2.1 bt184.2.2 bt164.1 bt173.1 ([] : List (S61)) bt182.1))))))))) = some (r1, r2, r3, r4, r5, r6, r7) := H
 have A2 := aM A20
 clear A20
 replace H := Option.bind_eq_some_iff.mp H
 obtain ⟨⟨t164, t165⟩, A30, H⟩ := H
 replace H : ((policy_reader_must.f t161 t162 t163 t165).bind fun bt166 => ((policy_reader_word.f bt166.1 bt166.2.1 bt166.2.2).bind fun bt169 => ((names_ReadCall.f t164 bt169.1).bind fun bt173 => ((policy_reader_must.f bt169.2.1 bt169.2.2.1 bt169.2.2.2 bt173.2).bind fun bt175 => ((policy_reader_word.f bt175.1 bt175.2.1 bt175.2.2).bind fun bt178 => ((names_ReadAction.f bt178.1).bind fun bt182 => ((policy_reader_must.f bt178.2.1 bt178.2.2.1 bt178.2.2.2 bt182.2).bind fun bt184 => (policy_reader_rest.l0 k (⟨#[105, 102]⟩ : ByteArray) bt184.1 bt184.2.1 bt184.2.2 t164 bt173.1 ([] : List (S61)) bt182.1)))))))) = some (r1, r2, r3, r4, r5, r6, r7) := H
 have A3 := aM A30
 clear A30
 replace H := Option.bind_eq_some_iff.mp H
 obtain ⟨⟨t166, t167, t168⟩, A40, H⟩ := H
 replace H : ((policy_reader_word.f t166 t167 t168).bind fun bt169 => ((names_ReadCall.f t164 bt169.1).bind fun bt173 => ((policy_reader_must.f bt169.2.1 bt169.2.2.1 bt169.2.2.2 bt173.2).bind fun bt175 => ((policy_reader_word.f bt175.1 bt175.2.1 bt175.2.2).bind fun bt178 => ((names_ReadAction.f bt178.1).bind fun bt182 => ((policy_reader_must.f bt178.2.1 bt178.2.2.1 bt178.2.2.2 bt182.2).bind fun bt184 => (policy_reader_rest.l0 k (⟨#[105, 102]⟩ : ByteArray) bt184.1 bt184.2.1 bt184.2.2 t164 bt173.1 ([] : List (S61)) bt182.1))))))) = some (r1, r2, r3, r4, r5, r6, r7) := H
 have A4 := aM A40
 clear A40
 replace H := Option.bind_eq_some_iff.mp H
 obtain ⟨⟨t169, t170, t171, t172⟩, A50, H⟩ := H
 replace H : ((names_ReadCall.f t164 t169).bind fun bt173 => ((policy_reader_must.f t170 t171 t172 bt173.2).bind fun bt175 => ((policy_reader_word.f bt175.1 bt175.2.1 bt175.2.2).bind fun bt178 => ((names_ReadAction.f bt178.1).bind fun bt182 => ((policy_reader_must.f bt178.2.1 bt178.2.2.1 bt178.2.2.2 bt182.2).bind fun bt184 => (policy_reader_rest.l0 k (⟨#[105, 102]⟩ : ByteArray) bt184.1 bt184.2.1 bt184.2.2 t164 bt173.1 ([] : List (S61)) bt182.1)))))) = some (r1, r2, r3, r4, r5, r6, r7) := H
 have A5 := aM A50
 clear A50
 replace H := Option.bind_eq_some_iff.mp H
 obtain ⟨⟨t173, t174⟩, A60, H⟩ := H
 replace H : ((policy_reader_must.f t170 t171 t172 t174).bind fun bt175 => ((policy_reader_word.f bt175.1 bt175.2.1 bt175.2.2).bind fun bt178 => ((names_ReadAction.f bt178.1).bind fun bt182 => ((policy_reader_must.f bt178.2.1 bt178.2.2.1 bt178.2.2.2 bt182.2).bind fun bt184 => (policy_reader_rest.l0 k (⟨#[105, 102]⟩ : ByteArray) bt184.1 bt184.2.1 bt184.2.2 t164 t173 ([] : List (S61)) bt182.1))))) = some (r1, r2, r3, r4, r5, r6, r7) := H
 have A6 := aM A60
 clear A60
 replace H := Option.bind_eq_some_iff.mp H
 obtain ⟨⟨t175, t176, t177⟩, A70, H⟩ := H
 replace H : ((policy_reader_word.f t175 t176 t177).bind fun bt178 => ((names_ReadAction.f bt178.1).bind fun bt182 => ((policy_reader_must.f bt178.2.1 bt178.2.2.1 bt178.2.2.2 bt182.2).bind fun bt184 => (policy_reader_rest.l0 k (⟨#[105, 102]⟩ : ByteArray) bt184.1 bt184.2.1 bt184.2.2 t164 t173 ([] : List (S61)) bt182.1)))) = some (r1, r2, r3, r4, r5, r6, r7) := H
 have A7 := aM A70
 clear A70
 replace H := Option.bind_eq_some_iff.mp H
 obtain ⟨⟨t178, t179, t180, t181⟩, A80, H⟩ := H
 replace H : ((names_ReadAction.f t178).bind fun bt182 => ((policy_reader_must.f t179 t180 t181 bt182.2).bind fun bt184 => (policy_reader_rest.l0 k (⟨#[105, 102]⟩ : ByteArray) bt184.1 bt184.2.1 bt184.2.2 t164 t173 ([] : List (S61)) bt182.1))) = some (r1, r2, r3, r4, r5, r6, r7) := H
 have A8 := aM A80
 clear A80
 replace H := Option.bind_eq_some_iff.mp H
 obtain ⟨⟨t182, t183⟩, A90, H⟩ := H
 replace H : ((policy_reader_must.f t179 t180 t181 t183).bind fun bt184 => (policy_reader_rest.l0 k (⟨#[105, 102]⟩ : ByteArray) bt184.1 bt184.2.1 bt184.2.2 t164 t173 ([] : List (S61)) t182)) = some (r1, r2, r3, r4, r5, r6, r7) := H
 have A9 := aM A90
 clear A90
 replace H := Option.bind_eq_some_iff.mp H
 obtain ⟨⟨t184, t185, t186⟩, A100, H⟩ := H
 replace H : (policy_reader_rest.l0 k (⟨#[105, 102]⟩ : ByteArray) t184 t185 t186 t164 t173 ([] : List (S61)) t182) = some (r1, r2, r3, r4, r5, r6, r7) := H
 have A10 := aM A100
 clear A100
 have H' := aM H
 clear H
 go_enter Try.func38, Try.ntmps38
 try go_wp2_with (first | ((with_reducible refine gate_dst (N := 2) rfl ?_); (try (refine gate_guard (by rfl) ?_; dsimp only)); refine box_event ?hg (N := 2) ?hd (cs := #[.int .u32 0, .int .u32 0, .slice none 0 0, .int .u32 0]) (t := 40) ?hr ?_; (case hd => rfl); (case hg => rfl); (case hr => first | (go_simp; done) | (go_simp; rfl)); intro gb158 hg w11 hbox hb; have n0_ := aM (IsS65.below (by repeat (first | (with_reducible first | exact HI0.out | apply IsS65.alloc | apply IsS65.drewN | apply IsS65.drew | apply IsS65.set_0 | apply IsS65.set_1 | apply IsS65.set_2) | exact HI0.out)) hb); have n1_ := aM (KeepBut.trans (by repeat (first | (with_reducible first | exact HK.out | apply KeepBut.set_ | apply keep_drewN | apply keep_drew | apply keep_alloc) | exact HK.out)) (KeepBut.of_below hb g none) (.inl rfl)); have n2_ := aM (below_step (bl1 (IsS65.ge HI0.out)) hb); have n3_ := aM (hbox); have n4_ := aM ((by rw [hg]; exact (keep_size (w := w) (g := g) (row := none) (by repeat (first | (with_reducible first | exact HK.out | apply KeepBut.set_ | apply keep_drewN | apply keep_drew | apply keep_alloc) | exact HK.out))) : w.heap.size ≤ gb158)); have n5_ := aM ((Nat.le_trans HW0.out (by rw [hg]; exact (keep_size (w := w) (g := g) (row := none) (by repeat (first | (with_reducible first | exact HK.out | apply KeepBut.set_ | apply keep_drewN | apply keep_drew | apply keep_alloc) | exact HK.out))) : w.heap.size ≤ gb158) : w0.heap.size ≤ gb158)); have n6_ := aM ((by rw [hg]; exact Nat.ne_of_lt (IsS65.lt (show IsS65 w0 _ g s0_0 s0_1 s0_2 from by repeat (first | (with_reducible first | exact HI0.out | apply IsS65.alloc | apply IsS65.drewN | apply IsS65.drew | apply IsS65.set_0 | apply IsS65.set_1 | apply IsS65.set_2) | exact HI0.out))) : g ≠ gb158)); have n7_ := aM ((by rw [hg]; exact Nat.ne_of_gt (IsS65.lt (show IsS65 w0 _ g s0_0 s0_1 s0_2 from by repeat (first | (with_reducible first | exact HI0.out | apply IsS65.alloc | apply IsS65.drewN | apply IsS65.drew | apply IsS65.set_0 | apply IsS65.set_1 | apply IsS65.set_2) | exact HI0.out))) : gb158 ≠ g)); clear HI0; clear HK; clear HB; have HI0 := n0_; have HK := n1_; have HB := n2_; have BK158 := n3_; have GW158 := n4_; have GE158 := n5_; have NB0_158 := n6_; have NB158_0 := n7_; clear n0_ n1_ n2_ n3_ n4_ n5_ n6_ n7_; clear hb hbox hg) | ((with_reducible refine gate_dst (N := 3) rfl ?_); (try (refine gate_guard (by rfl) ?_; dsimp only)); refine box_event ?hg (N := 3) ?hd (cs := #[.int .u32 0, .int .u32 0, .slice none 0 0, .int .u32 0]) (t := 40) ?hr ?_; (case hd => rfl); (case hg => rfl); (case hr => first | (go_simp; done) | (go_simp; rfl)); intro gb159 hg w12 hbox hb; have n0_ := aM (IsS65.below (by repeat (first | (with_reducible first | exact HI0.out | apply IsS65.alloc | apply IsS65.drewN | apply IsS65.drew | apply IsS65.set_0 | apply IsS65.set_1 | apply IsS65.set_2 | refine IsS65.far ?_ NB0_158.out _) | exact HI0.out)) hb); have n1_ := aM (blk_below (g := gb158) (o := .cells #[.int .u32 0, .int .u32 0, .slice none 0 0, .int .u32 0] 40 (0, 0)) (bkS BK158.out) hb); have n2_ := aM (KeepBut.trans (by repeat (first | (with_reducible first | exact HK.out | apply KeepBut.set_ | apply keep_drewN | apply keep_drew | apply keep_alloc | refine keep_far ?_ GW158.out _) | exact HK.out)) (KeepBut.of_below hb g none) (.inl rfl)); have n3_ := aM (below_step (bl2 (IsS65.ge HI0.out) GE158.out) hb); have n4_ := aM (hbox); have n5_ := aM ((by rw [hg]; exact (keep_size (w := w) (g := g) (row := none) (by repeat (first | (with_reducible first | exact HK.out | apply KeepBut.set_ | apply keep_drewN | apply keep_drew | apply keep_alloc | refine keep_far ?_ GW158.out _) | exact HK.out))) : w.heap.size ≤ gb159)); have n6_ := aM ((Nat.le_trans HW0.out (by rw [hg]; exact (keep_size (w := w) (g := g) (row := none) (by repeat (first | (with_reducible first | exact HK.out | apply KeepBut.set_ | apply keep_drewN | apply keep_drew | apply keep_alloc | refine keep_far ?_ GW158.out _) | exact HK.out))) : w.heap.size ≤ gb159) : w0.heap.size ≤ gb159)); have n7_ := aM ((by rw [hg]; exact Nat.ne_of_lt (blk_lt (g := gb158) (o := .cells #[.int .u32 0, .int .u32 0, .slice none 0 0, .int .u32 0] 40 (0, 0)) (bkS BK158.out)) : gb158 ≠ gb159)); have n8_ := aM ((by rw [hg]; exact Nat.ne_of_gt (blk_lt (g := gb158) (o := .cells #[.int .u32 0, .int .u32 0, .slice none 0 0, .int .u32 0] 40 (0, 0)) (bkS BK158.out)) : gb159 ≠ gb158)); have n9_ := aM ((by rw [hg]; exact Nat.ne_of_lt (IsS65.lt (show IsS65 w0 _ g s0_0 s0_1 s0_2 from by repeat (first | (with_reducible first | exact HI0.out | apply IsS65.alloc | apply IsS65.drewN | apply IsS65.drew | apply IsS65.set_0 | apply IsS65.set_1 | apply IsS65.set_2 | refine IsS65.far ?_ NB0_158.out _) | exact HI0.out))) : g ≠ gb159)); have n10_ := aM ((by rw [hg]; exact Nat.ne_of_gt (IsS65.lt (show IsS65 w0 _ g s0_0 s0_1 s0_2 from by repeat (first | (with_reducible first | exact HI0.out | apply IsS65.alloc | apply IsS65.drewN | apply IsS65.drew | apply IsS65.set_0 | apply IsS65.set_1 | apply IsS65.set_2 | refine IsS65.far ?_ NB0_158.out _) | exact HI0.out))) : gb159 ≠ g)); clear HI0; clear BK158; clear HK; clear HB; have HI0 := n0_; have BK158 := n1_; have HK := n2_; have HB := n3_; have BK159 := n4_; have GW159 := n5_; have GE159 := n6_; have NB158_159 := n7_; have NB159_158 := n8_; have NB0_159 := n9_; have NB159_0 := n10_; clear n0_ n1_ n2_ n3_ n4_ n5_ n6_ n7_ n8_ n9_ n10_; clear hb hbox hg) | ((with_reducible refine gate_callee (f := 37) rfl ?_); refine goesL_ (some 8) rfl rfl Try.func37 kR rfl #[.pointer (some ⟨g, 0, none⟩)] rfl mpA ?_; (with_reducible refine (policy_reader_word.calls g s0_0 s0_1 s0_2 t160 t161 t162 t163 w0 _ ?side1 ?side2 A2.out).mono ?_); (case side1 => repeat (first | (with_reducible first | exact HI0.out | apply IsS65.alloc | apply IsS65.drewN | apply IsS65.drew | apply IsS65.set_0 | apply IsS65.set_1 | apply IsS65.set_2 | refine IsS65.far ?_ NB0_158.out _ | refine IsS65.far ?_ NB0_159.out _) | exact HI0.out)); (case side2 => exact bl3 (IsS65.ge HI0.out) GE158.out GE159.out); rintro e w13 ⟨rfl, hi, hb, hk⟩; refine ⟨_, rfl, ?_⟩; have n0_ := aM (KeepBut.blk hk (g' := gb158) (o := .cells #[.int .u32 0, .int .u32 0, .slice none 0 0, .int .u32 0] 40 (0, 0)) (bkS BK158.out) NB158_0.out (by simp)); have n1_ := aM (KeepBut.blk hk (g' := gb159) (o := .cells #[.int .u32 0, .int .u32 0, .slice none 0 0, .int .u32 0] 40 (0, 0)) (bkS BK159.out) NB159_0.out (by simp)); have n2_ := aM (KeepBut.trans (by repeat (first | (with_reducible first | exact HK.out | apply KeepBut.set_ | apply keep_drewN | apply keep_drew | apply keep_alloc | refine keep_far ?_ GW158.out _ | refine keep_far ?_ GW159.out _) | exact HK.out)) hk (.inl rfl)); have n3_ := aM (hb); have n4_ := aM (hi); clear BK158; clear BK159; clear HK; clear HB; clear HI0; have BK158 := n0_; have BK159 := n1_; have HK := n2_; have HB := n3_; have HI0 := n4_; clear n0_ n1_ n2_ n3_ n4_; (try clear hb); (try clear hb2); (try clear hk); (try clear hi)) | ((with_reducible refine gate_callee (f := 59) rfl ?_); refine goesL_ (some 9) rfl rfl Try.func59 kR rfl #[.string t160] rfl mpA ?_; (with_reducible refine (names_ReadMachine.calls t160 t164 t165 _ A3.out).mono ?_); rintro e w14 ⟨rfl, hb⟩; refine ⟨_, rfl, ?_⟩; have n0_ := aM (IsS65.below (by repeat (first | (with_reducible first | exact HI0.out | apply IsS65.alloc | apply IsS65.drewN | apply IsS65.drew | apply IsS65.set_0 | apply IsS65.set_1 | apply IsS65.set_2 | refine IsS65.far ?_ NB0_158.out _ | refine IsS65.far ?_ NB0_159.out _) | exact HI0.out)) hb); have n1_ := aM (blk_below (g := gb158) (o := .cells #[.int .u32 0, .int .u32 0, .slice none 0 0, .int .u32 0] 40 (0, 0)) (bkS BK158.out) hb); have n2_ := aM (blk_below (g := gb159) (o := .cells #[.int .u32 0, .int .u32 0, .slice none 0 0, .int .u32 0] 40 (0, 0)) (bkS BK159.out) hb); have n3_ := aM (KeepBut.trans (by repeat (first | (with_reducible first | exact HK.out | apply KeepBut.set_ | apply keep_drewN | apply keep_drew | apply keep_alloc | refine keep_far ?_ GW158.out _ | refine keep_far ?_ GW159.out _) | exact HK.out)) (KeepBut.of_below hb g none) (.inl rfl)); have n4_ := aM (below_step (bl3 (IsS65.ge HI0.out) GE158.out GE159.out) hb); clear HI0; clear BK158; clear BK159; clear HK; clear HB; have HI0 := n0_; have BK158 := n1_; have BK159 := n2_; have HK := n3_; have HB := n4_; clear n0_ n1_ n2_ n3_ n4_; (try clear hb); (try clear hb2); (try clear hk); (try clear hi); have hnb15 := NB159_158.out; have hnc15 := NB158_159.out; have hnb16 := NB159_0.out; have hnc16 := NB0_159.out; have hcz17_0 : w14.cell? ⟨gb159, 0, none⟩ = some (.int .u32 0) := (blk_cell BK159.out 0).trans rfl; have hcz17_1 : w14.cell? ⟨gb159, 1, none⟩ = some (.int .u32 0) := (blk_cell BK159.out 1).trans rfl; have hcz17_2 : w14.cell? ⟨gb159, 2, none⟩ = some (.slice none 0 0) := (blk_cell BK159.out 2).trans rfl; have hcz17_3 : w14.cell? ⟨gb159, 3, none⟩ = some (.int .u32 0) := (blk_cell BK159.out 3).trans rfl; have hfz17_0 := blk_frozen BK159.out 0; have hfz17_1 := blk_frozen BK159.out 1; have hfz17_2 := blk_frozen BK159.out 2; have hfz17_3 := blk_frozen BK159.out 3) | ((with_reducible refine gate_callee (f := 40) rfl ?_); refine goesL_ (some 15) rfl rfl Try.func40 kR rfl #[.pointer (some ⟨g, 0, none⟩), .int .i64 t165] rfl mpA ?_; (with_reducible refine (policy_reader_must.calls g t161 t162 t163 t165 t166 t167 t168 w0 _ ?side1 ?side2 A4.out).mono ?_); (case side1 => repeat (first | (with_reducible first | exact HI0.out | apply IsS65.alloc | apply IsS65.drewN | apply IsS65.drew | apply IsS65.set_0 | apply IsS65.set_1 | apply IsS65.set_2 | refine IsS65.far ?_ NB0_158.out _ | refine IsS65.far ?_ NB0_159.out _) | exact HI0.out)); (case side2 => exact bl3 (IsS65.ge HI0.out) GE158.out GE159.out); rintro e w18 ⟨rfl, hi, hb, hk⟩; refine ⟨_, rfl, ?_⟩; have n0_ := aM (KeepBut.blk hk (g' := gb158) (o := .cells #[.int .u32 0, .int .u32 0, .slice none 0 0, .int .u32 0] 40 (0, 0)) (by refine bkS ?_; refine blk_far ?_ NB158_159.out _; refine bkS ?_; exact BK158.out) NB158_0.out (by simp)); have n1_ := aM (KeepBut.blk hk (g' := gb159) (o := .cells #[.int .u32 t164, .int .u32 0, .slice none 0 0, .int .u32 0] 40 (0, 0)) (by refine bkS ?_; refine blk_put (cs := #[.int .u32 0, .int .u32 0, .slice none 0 0, .int .u32 0]) ?_ 0 _ rfl; refine bkS ?_; exact BK159.out) NB159_0.out (by simp)); have n2_ := aM (KeepBut.trans (by repeat (first | (with_reducible first | exact HK.out | apply KeepBut.set_ | apply keep_drewN | apply keep_drew | apply keep_alloc | refine keep_far ?_ GW158.out _ | refine keep_far ?_ GW159.out _) | exact HK.out)) hk (.inl rfl)); have n3_ := aM (hb); have n4_ := aM (hi); clear BK158; clear BK159; clear HK; clear HB; clear HI0; have BK158 := n0_; have BK159 := n1_; have HK := n2_; have HB := n3_; have HI0 := n4_; clear n0_ n1_ n2_ n3_ n4_; (try clear hb); (try clear hb2); (try clear hk); (try clear hi)))
 have n0_ := aM (blk_drew BK158.out)
 have n1_ := aM (blk_drew BK159.out)
 have n2_ := aM (IsS65.drew HI0.out)
 have n3_ := aM (keep_drew HK.out)
 have n4_ := aM (below_drew1 HB.out)
 clear BK158
 clear BK159
 clear HI0
 clear HK
 clear HB
 have BK158 := n0_
 have BK159 := n1_
 have HI0 := n2_
 have HK := n3_
 have HB := n4_
 clear n0_ n1_ n2_ n3_ n4_
 refine start_ (n := 11) (S := fun w' => w'.cell? ⟨gb159, 0, none⟩ = some (.int .u32 t164) ∧ w'.cell? ⟨gb159, 1, none⟩ = some (.int .u32 0) ∧ w'.cell? ⟨gb159, 2, none⟩ = some (.slice none 0 0) ∧ w'.cell? ⟨gb159, 3, none⟩ = some (.int .u32 0)) (ds := [9]) #[false, false, false, false, false, false, false, false, false, false, false] kR rfl rfl ⟨(blk_cell BK159.out 0).trans rfl, (blk_cell BK159.out 1).trans rfl, (blk_cell BK159.out 2).trans rfl, (blk_cell BK159.out 3).trans rfl⟩ (fun hHeld => ?_); refine with_tabW policy_reader_rest.tab5 policy_reader_rest.bits5 (fun HT_ HW_ => ?_)
 generalize w18.drew = w19 at BK158 BK159 HI0 HK HB hHeld ⊢
 refine pure_ (i := 0) (N := some 17) (v := ?_) (a' := ?_) #[true, false, false, false, false, false, false, false, false, false, false] rfl rfl (any_of HT_.out kR) (fun _ _ _ h => h) (Or.inl ⟨by rfl, ?_⟩) ?_ ?_
 rotate_left
 · intro w'
   go_simp
   with_reducible rfl
 rotate_left
 · refine apW ?_
   rfl
 refine pure_ (i := 2) (N := some 19) (v := ?_) (a' := ?_) #[true, false, true, false, false, false, false, false, false, false, false] rfl rfl (any_of HT_.out kR) (fun _ _ _ h => h) (Or.inl ⟨by rfl, ?_⟩) ?_ ?_
 rotate_left
 · intro w'
   go_simp
   with_reducible rfl
 rotate_left
 · refine apW ?_
   rfl
 refine take_ (i := 1) (N := some 18) (v := ?_) (a' := ?_) #[true, true, true, false, false, false, false, false, false, false, false] rfl rfl (take_ofW HT_.out HW_.out kR) (fun _ _ _ h => h) (Or.inl ⟨by rfl, ?_⟩) hHeld ?_ ?_
 rotate_left
 · rintro w' ⟨s0, s1, s2, s3⟩
   go_simp
   with_reducible rfl
 rotate_left
 · refine apW ?_
   rfl
 refine one_ (i := 3) (N := some 20) #[true, true, true, true, false, false, false, false, false, false, false] rfl rfl (one_of HT_.out kR) (by decide) (fun K hK => ?_)
 refine goes_ Try.func37 kR rfl #[.pointer (some ⟨g, 0, none⟩)] (by rfl) rfl rfl mpA ?_
 with_reducible refine (policy_reader_word.calls g t166 t167 t168 t169 t170 t171 t172 w0 _ ?side1 ?side2 A5.out).mono ?_
 (case side1 => repeat (first | (with_reducible first | exact HI0.out | apply IsS65.alloc | apply IsS65.drewN | apply IsS65.drew | apply IsS65.set_0 | apply IsS65.set_1 | apply IsS65.set_2 | refine IsS65.far ?_ NB0_158.out _ | refine IsS65.far ?_ NB0_159.out _) | exact HI0.out))
 (case side2 => exact bl3 (IsS65.ge HI0.out) GE158.out GE159.out)
 rintro e w20 ⟨rfl, hi, hb, hk⟩
 refine ⟨_, rfl, ?_⟩
 have n0_ := aM (KeepBut.blk hk (g' := gb158) (o := .cells #[.int .u32 0, .int .u32 0, .slice none 0 0, .int .u32 0] 40 (0, 0)) (bkS BK158.out) NB158_0.out (by simp))
 have n1_ := aM (KeepBut.blk hk (g' := gb159) (o := .cells #[.int .u32 t164, .int .u32 0, .slice none 0 0, .int .u32 0] 40 (0, 0)) (bkS BK159.out) NB159_0.out (by simp))
 have n2_ := aM (KeepBut.trans (by repeat (first | (with_reducible first | exact HK.out | apply KeepBut.set_ | apply keep_drewN | apply keep_drew | apply keep_alloc | refine keep_far ?_ GW158.out _ | refine keep_far ?_ GW159.out _) | exact HK.out)) hk (.inl rfl))
 have n3_ := aM (hb)
 have n4_ := aM (hi)
 clear BK158
 clear BK159
 clear HK
 clear HB
 clear HI0
 have BK158 := n0_
 have BK159 := n1_
 have HK := n2_
 have HB := n3_
 have HI0 := n4_
 clear n0_ n1_ n2_ n3_ n4_
 (try clear hb)
 (try clear hb2)
 (try clear hk)
 (try clear hi)
 refine hK.out _ _ ⟨(blk_cell BK159.out 0).trans rfl, (blk_cell BK159.out 1).trans rfl, (blk_cell BK159.out 2).trans rfl, (blk_cell BK159.out 3).trans rfl⟩ (fun hHeld => ?_)
 clear hK K
 refine norm_ (a' := ?_) ?_ ?_
 rotate_left
 · show Act.put _ (some 20) _ = _
   refine apW ?_
   rfl
 refine one_ (i := 4) (N := some 21) #[true, true, true, true, true, false, false, false, false, false, false] rfl rfl (one_of HT_.out kR) (by decide) (fun K hK => ?_)
 refine goes_ Try.func60 kR rfl #[.int .u32 t164, .string t169] (by rfl) rfl rfl mpA ?_
 with_reducible refine (names_ReadCall.calls t164 t169 t173 t174 _ A6.out).mono ?_
 rintro e w21 ⟨rfl, hb⟩
 refine ⟨_, rfl, ?_⟩
 have n0_ := aM (IsS65.below (by repeat (first | (with_reducible first | exact HI0.out | apply IsS65.alloc | apply IsS65.drewN | apply IsS65.drew | apply IsS65.set_0 | apply IsS65.set_1 | apply IsS65.set_2 | refine IsS65.far ?_ NB0_158.out _ | refine IsS65.far ?_ NB0_159.out _) | exact HI0.out)) hb)
 have n1_ := aM (blk_below (g := gb158) (o := .cells #[.int .u32 0, .int .u32 0, .slice none 0 0, .int .u32 0] 40 (0, 0)) (bkS BK158.out) hb)
 have n2_ := aM (blk_below (g := gb159) (o := .cells #[.int .u32 t164, .int .u32 0, .slice none 0 0, .int .u32 0] 40 (0, 0)) (bkS BK159.out) hb)
 have n3_ := aM (KeepBut.trans (by repeat (first | (with_reducible first | exact HK.out | apply KeepBut.set_ | apply keep_drewN | apply keep_drew | apply keep_alloc | refine keep_far ?_ GW158.out _ | refine keep_far ?_ GW159.out _) | exact HK.out)) (KeepBut.of_below hb g none) (.inl rfl))
 have n4_ := aM (below_step (bl3 (IsS65.ge HI0.out) GE158.out GE159.out) hb)
 clear HI0
 clear BK158
 clear BK159
 clear HK
 clear HB
 have HI0 := n0_
 have BK158 := n1_
 have BK159 := n2_
 have HK := n3_
 have HB := n4_
 clear n0_ n1_ n2_ n3_ n4_
 (try clear hb)
 (try clear hb2)
 (try clear hk)
 (try clear hi)
 refine hK.out _ _ ⟨(blk_cell BK159.out 0).trans rfl, (blk_cell BK159.out 1).trans rfl, (blk_cell BK159.out 2).trans rfl, (blk_cell BK159.out 3).trans rfl⟩ (fun hHeld => ?_)
 clear hK K
 refine norm_ (a' := ?_) ?_ ?_
 rotate_left
 · show Act.put _ (some 21) _ = _
   refine apW ?_
   rfl
 refine pure_ (i := 5) (N := some 16) (v := ?_) (a' := ?_) #[true, true, true, true, true, true, false, false, false, false, false] rfl rfl (any_of HT_.out kR) (fun _ _ _ h => h) (Or.inl ⟨by rfl, ?_⟩) ?_ ?_
 rotate_left
 · intro w'
   go_simp
   with_reducible rfl
 rotate_left
 · refine apW ?_
   rfl
 refine pure_ (i := 6) (N := some 22) (v := ?_) (a' := ?_) #[true, true, true, true, true, true, true, false, false, false, false] rfl rfl (any_of HT_.out kR) (fun _ _ _ h => h) (Or.inl ⟨by rfl, ?_⟩) ?_ ?_
 rotate_left
 · intro w'
   go_simp
   with_reducible rfl
 rotate_left
 · refine apW ?_
   rfl
 refine pure_ (i := 7) (N := some 23) (v := ?_) (a' := ?_) #[true, true, true, true, true, true, true, true, false, false, false] rfl rfl (any_of HT_.out kR) (fun _ _ _ h => h) (Or.inl ⟨by rfl, ?_⟩) ?_ ?_
 rotate_left
 · intro w'
   go_simp
   with_reducible rfl
 rotate_left
 · refine apW ?_
   rfl
 refine pure_ (i := 8) (N := some 24) (v := ?_) (a' := ?_) #[true, true, true, true, true, true, true, true, true, false, false] rfl rfl (any_of HT_.out kR) (fun _ _ _ h => h) (Or.inl ⟨by rfl, ?_⟩) ?_ ?_
 rotate_left
 · intro w'
   go_simp
   with_reducible rfl
 rotate_left
 · refine apW ?_
   rfl
 refine last_ (i := 9) (N := none) #[true, true, true, true, true, true, true, true, true, true, false] rfl rfl (one_of HT_.out kR) (by decide) (fun K hK => ?_)
 have hs22 : w21.cell? ⟨gb159, 1, none⟩ = some (.int .u32 0) := (blk_cell BK159.out 1).trans rfl
 have hfs22 := blk_frozen BK159.out 1
 have hns22_0 := NB158_159.out
 have hms22_0 := NB159_158.out
 refine skip_ (w1 := ?_) (by rfl) rfl ?_ ?_
 rotate_left
 · go_simp
   rfl
 refine hK.out _ _ ?_
 clear hK K
 refine pure_ (i := 10) (N := some 4) (v := ?_) (a' := ?_) #[true, true, true, true, true, true, true, true, true, true, true] rfl rfl (any_of HT_.out kR) (fun _ _ _ h => h) (Or.inl ⟨by rfl, ?_⟩) ?_ ?_
 rotate_left
 · intro w'
   go_simp
   with_reducible rfl
 rotate_left
 · refine apW ?_
   rfl
 refine done_ (done_of HT_.out kR) ?_
 try go_wp2_with (first | ((with_reducible refine gate_callee (f := 40) rfl ?_); refine goesL_ (some 27) rfl rfl Try.func40 kR rfl #[.pointer (some ⟨g, 0, none⟩), .int .i64 t174] rfl mpA ?_; (with_reducible refine (policy_reader_must.calls g t170 t171 t172 t174 t175 t176 t177 w0 _ ?side1 ?side2 A7.out).mono ?_); (case side1 => repeat (first | (with_reducible first | exact HI0.out | apply IsS65.alloc | apply IsS65.drewN | apply IsS65.drew | apply IsS65.set_0 | apply IsS65.set_1 | apply IsS65.set_2 | refine IsS65.far ?_ NB0_158.out _ | refine IsS65.far ?_ NB0_159.out _) | exact HI0.out)); (case side2 => exact bl3 (IsS65.ge HI0.out) GE158.out GE159.out); rintro e w23 ⟨rfl, hi, hb, hk⟩; refine ⟨_, rfl, ?_⟩; have n0_ := aM (KeepBut.blk hk (g' := gb158) (o := .cells #[.int .u32 0, .int .u32 0, .slice none 0 0, .int .u32 0] 40 (0, 0)) (by refine bkS ?_; refine blk_far ?_ NB158_159.out _; refine bkS ?_; exact BK158.out) NB158_0.out (by simp)); have n1_ := aM (KeepBut.blk hk (g' := gb159) (o := .cells #[.int .u32 t164, .int .u32 t173, .slice none 0 0, .int .u32 0] 40 (0, 0)) (by refine bkS ?_; refine blk_put (cs := #[.int .u32 t164, .int .u32 0, .slice none 0 0, .int .u32 0]) ?_ 1 _ rfl; refine bkS ?_; exact BK159.out) NB159_0.out (by simp)); have n2_ := aM (KeepBut.trans (by repeat (first | (with_reducible first | exact HK.out | apply KeepBut.set_ | apply keep_drewN | apply keep_drew | apply keep_alloc | refine keep_far ?_ GW158.out _ | refine keep_far ?_ GW159.out _) | exact HK.out)) hk (.inl rfl)); have n3_ := aM (hb); have n4_ := aM (hi); clear BK158; clear BK159; clear HK; clear HB; clear HI0; have BK158 := n0_; have BK159 := n1_; have HK := n2_; have HB := n3_; have HI0 := n4_; clear n0_ n1_ n2_ n3_ n4_; (try clear hb); (try clear hb2); (try clear hk); (try clear hi)) | ((with_reducible refine gate_callee (f := 37) rfl ?_); refine goesL_ (some 30) rfl rfl Try.func37 kR rfl #[.pointer (some ⟨g, 0, none⟩)] rfl mpA ?_; (with_reducible refine (policy_reader_word.calls g t175 t176 t177 t178 t179 t180 t181 w0 _ ?side1 ?side2 A8.out).mono ?_); (case side1 => repeat (first | (with_reducible first | exact HI0.out | apply IsS65.alloc | apply IsS65.drewN | apply IsS65.drew | apply IsS65.set_0 | apply IsS65.set_1 | apply IsS65.set_2 | refine IsS65.far ?_ NB0_158.out _ | refine IsS65.far ?_ NB0_159.out _) | exact HI0.out)); (case side2 => exact bl3 (IsS65.ge HI0.out) GE158.out GE159.out); rintro e w24 ⟨rfl, hi, hb, hk⟩; refine ⟨_, rfl, ?_⟩; have n0_ := aM (KeepBut.blk hk (g' := gb158) (o := .cells #[.int .u32 0, .int .u32 0, .slice none 0 0, .int .u32 0] 40 (0, 0)) (bkS BK158.out) NB158_0.out (by simp)); have n1_ := aM (KeepBut.blk hk (g' := gb159) (o := .cells #[.int .u32 t164, .int .u32 t173, .slice none 0 0, .int .u32 0] 40 (0, 0)) (bkS BK159.out) NB159_0.out (by simp)); have n2_ := aM (KeepBut.trans (by repeat (first | (with_reducible first | exact HK.out | apply KeepBut.set_ | apply keep_drewN | apply keep_drew | apply keep_alloc | refine keep_far ?_ GW158.out _ | refine keep_far ?_ GW159.out _) | exact HK.out)) hk (.inl rfl)); have n3_ := aM (hb); have n4_ := aM (hi); clear BK158; clear BK159; clear HK; clear HB; clear HI0; have BK158 := n0_; have BK159 := n1_; have HK := n2_; have HB := n3_; have HI0 := n4_; clear n0_ n1_ n2_ n3_ n4_; (try clear hb); (try clear hb2); (try clear hk); (try clear hi)) | ((with_reducible refine gate_callee (f := 39) rfl ?_); refine goesL_ (some 31) rfl rfl Try.func39 kR rfl #[.string t178] rfl mpA ?_; (with_reducible refine (names_ReadAction.calls t178 t182 t183 _ A9.out).mono ?_); rintro e w25 ⟨rfl, hb⟩; refine ⟨_, rfl, ?_⟩; have n0_ := aM (IsS65.below (by repeat (first | (with_reducible first | exact HI0.out | apply IsS65.alloc | apply IsS65.drewN | apply IsS65.drew | apply IsS65.set_0 | apply IsS65.set_1 | apply IsS65.set_2 | refine IsS65.far ?_ NB0_158.out _ | refine IsS65.far ?_ NB0_159.out _) | exact HI0.out)) hb); have n1_ := aM (blk_below (g := gb158) (o := .cells #[.int .u32 0, .int .u32 0, .slice none 0 0, .int .u32 0] 40 (0, 0)) (bkS BK158.out) hb); have n2_ := aM (blk_below (g := gb159) (o := .cells #[.int .u32 t164, .int .u32 t173, .slice none 0 0, .int .u32 0] 40 (0, 0)) (bkS BK159.out) hb); have n3_ := aM (KeepBut.trans (by repeat (first | (with_reducible first | exact HK.out | apply KeepBut.set_ | apply keep_drewN | apply keep_drew | apply keep_alloc | refine keep_far ?_ GW158.out _ | refine keep_far ?_ GW159.out _) | exact HK.out)) (KeepBut.of_below hb g none) (.inl rfl)); have n4_ := aM (below_step (bl3 (IsS65.ge HI0.out) GE158.out GE159.out) hb); clear HI0; clear BK158; clear BK159; clear HK; clear HB; have HI0 := n0_; have BK158 := n1_; have BK159 := n2_; have HK := n3_; have HB := n4_; clear n0_ n1_ n2_ n3_ n4_; (try clear hb); (try clear hb2); (try clear hk); (try clear hi); have hcz26_0 : w25.cell? ⟨gb159, 0, none⟩ = some (.int .u32 t164) := (blk_cell BK159.out 0).trans rfl; have hcz26_1 : w25.cell? ⟨gb159, 1, none⟩ = some (.int .u32 t173) := (blk_cell BK159.out 1).trans rfl; have hcz26_2 : w25.cell? ⟨gb159, 2, none⟩ = some (.slice none 0 0) := (blk_cell BK159.out 2).trans rfl; have hcz26_3 : w25.cell? ⟨gb159, 3, none⟩ = some (.int .u32 0) := (blk_cell BK159.out 3).trans rfl; have hfz26_0 := blk_frozen BK159.out 0; have hfz26_1 := blk_frozen BK159.out 1; have hfz26_2 := blk_frozen BK159.out 2; have hfz26_3 := blk_frozen BK159.out 3) | ((with_reducible refine gate_callee (f := 40) rfl ?_); refine goesL_ (some 37) rfl rfl Try.func40 kR rfl #[.pointer (some ⟨g, 0, none⟩), .int .i64 t183] rfl mpA ?_; (with_reducible refine (policy_reader_must.calls g t179 t180 t181 t183 t184 t185 t186 w0 _ ?side1 ?side2 A10.out).mono ?_); (case side1 => repeat (first | (with_reducible first | exact HI0.out | apply IsS65.alloc | apply IsS65.drewN | apply IsS65.drew | apply IsS65.set_0 | apply IsS65.set_1 | apply IsS65.set_2 | refine IsS65.far ?_ NB0_158.out _ | refine IsS65.far ?_ NB0_159.out _) | exact HI0.out)); (case side2 => exact bl3 (IsS65.ge HI0.out) GE158.out GE159.out); rintro e w27 ⟨rfl, hi, hb, hk⟩; refine ⟨_, rfl, ?_⟩; have n0_ := aM (KeepBut.blk hk (g' := gb158) (o := .cells #[.int .u32 0, .int .u32 0, .slice none 0 0, .int .u32 0] 40 (0, 0)) (by refine bkS ?_; refine blk_far ?_ NB158_159.out _; refine bkS ?_; exact BK158.out) NB158_0.out (by simp)); have n1_ := aM (KeepBut.blk hk (g' := gb159) (o := .cells #[.int .u32 t164, .int .u32 t173, .slice none 0 0, .int .u32 t182] 40 (0, 0)) (by refine bkS ?_; refine blk_put (cs := #[.int .u32 t164, .int .u32 t173, .slice none 0 0, .int .u32 0]) ?_ 3 _ rfl; refine bkS ?_; exact BK159.out) NB159_0.out (by simp)); have n2_ := aM (KeepBut.trans (by repeat (first | (with_reducible first | exact HK.out | apply KeepBut.set_ | apply keep_drewN | apply keep_drew | apply keep_alloc | refine keep_far ?_ GW158.out _ | refine keep_far ?_ GW159.out _) | exact HK.out)) hk (.inl rfl)); have n3_ := aM (hb); have n4_ := aM (hi); clear BK158; clear BK159; clear HK; clear HB; clear HI0; have BK158 := n0_; have BK159 := n1_; have HK := n2_; have HB := n3_; have HI0 := n4_; clear n0_ n1_ n2_ n3_ n4_; (try clear hb); (try clear hb2); (try clear hk); (try clear hi)))
 go_loopg [5] k (fun kq v5 w' => ∃ (x5_1 : ByteArray) (x1000_1 : ByteArray) (x1001_1 : Bool) (x1002_1 : Bool) (x160002_1 : List (S61)) (u160002 : Value), v5 = .string x5_1 ∧ Aside0 (policy_reader_rest.l0 kq x5_1 x1000_1 x1001_1 x1002_1 t164 t173 x160002_1 t182 = some (r1, r2, r3, r4, r5, r6, r7)) ∧ Aside0 (kq ≤ k) ∧ Aside0 (Kd.R k61 61 w' w.heap.size (fun _ => True) u160002 x160002_1) ∧ Aside0 (w'.heap[gb158]? = some (.cells #[.int .u32 0, .int .u32 0, (.slice none 0 0), .int .u32 0] 40 (0, 0))) ∧ Aside0 (w'.heap[gb159]? = some (.cells #[.int .u32 t164, .int .u32 t173, u160002, .int .u32 t182] 40 (0, 0))) ∧ Aside0 (IsS65 w0 w' g x1000_1 x1001_1 x1002_1) ∧ Aside0 (KeepBut w w' g none) ∧ Aside0 (Below w0.heap.size w0 w'))
 case atStart => exact ⟨((⟨#[105, 102]⟩ : ByteArray)), (t184), (t185), (t186), (([] : List (S61))), (.slice none 0 0), (by first | rfl | (simp; done) | (simp [*]; done)), H', ⟨Nat.le_refl _⟩, ⟨by first | exact Kd.R_nil _ _ _ _ _ | exact Kd.N_nil _ _ _ _ _ | exact Kd.V_nil _ _ _ _ _ | exact Kd.Q_nil _ _ _ _ _ | exact Kd.S_nil _ _ _ _ _⟩, ⟨by refine bkS ?_; exact BK158.out⟩, ⟨by refine bkS ?_; exact BK159.out⟩, ⟨by repeat (first | (with_reducible first | exact HI0.out | apply IsS65.alloc | apply IsS65.drewN | apply IsS65.drew | apply IsS65.set_0 | apply IsS65.set_1 | apply IsS65.set_2 | refine IsS65.far ?_ NB0_158.out _ | refine IsS65.far ?_ NB0_159.out _) | exact HI0.out)⟩, ⟨by repeat (first | (with_reducible first | exact HK.out | apply KeepBut.set_ | apply keep_drewN | apply keep_drew | apply keep_alloc | refine keep_far ?_ GW158.out _ | refine keep_far ?_ GW159.out _) | exact HK.out)⟩, ⟨bl3 (IsS65.ge HI0.out) GE158.out GE159.out⟩⟩
 case round =>
  clear H'
  try clear c1
  try clear p2
  try clear c3
  try clear c4
  try clear c5
  try clear c6
  try clear c15
  try clear c16
  try clear hcz17_0
  try clear hcz17_1
  try clear hcz17_2
  try clear hcz17_3
  try clear hcz26_0
  try clear hcz26_1
  try clear hcz26_2
  try clear hcz26_3
  try clear hfz17_0
  try clear hfz17_1
  try clear hfz17_2
  try clear hfz17_3
  try clear hfz26_0
  try clear hfz26_1
  try clear hfz26_2
  try clear hfz26_3
  obtain ⟨x5_1, x1000_1, x1001_1, x1002_1, x160002_1, u160002, rfl, HA, HK1, HO_160002, BK158, BK159, HI0, HK, HB⟩ := hrel
  cases gk with
  | zero => exact absurd HA.out (by simp [policy_reader_rest.l0])
  | succ k1 =>
   have H := HA.out
   clear HA
   simp only [policy_reader_rest.l0] at H
   have HC28 := aM H
   clear H
   go_upto_region 10 with (fail)
   go_cut [49] (fun v49 wc => ∃ (kq : Nat) (x49_27 : Bool), v49 = .bool x49_27 ∧ Aside0 (policy_reader_rest.j1 kq x5_1 x49_27 x1000_1 x1001_1 x1002_1 t164 t173 x160002_1 t182 = some (r1, r2, r3, r4, r5, r6, r7)) ∧ Aside0 (kq ≤ k1) ∧ Aside0 (Kd.R k61 61 wc w.heap.size (fun _ => True) u160002 x160002_1) ∧ Aside0 (wc.heap[gb158]? = some (.cells #[.int .u32 0, .int .u32 0, (.slice none 0 0), .int .u32 0] 40 (0, 0))) ∧ Aside0 (wc.heap[gb159]? = some (.cells #[.int .u32 t164, .int .u32 t173, u160002, .int .u32 t182] 40 (0, 0))) ∧ Aside0 (IsS65 w0 wc g x1000_1 x1001_1 x1002_1) ∧ Aside0 (KeepBut w wc g none) ∧ Aside0 (Below w0.heap.size w0 wc))
   case first =>
    have H := HC28.out
    clear HC28
    by_cases c29 : x1001_1 = true
    · subst c29
      have H1 : (policy_reader_rest.j1 k1 x5_1 false x1000_1 true x1002_1 t164 t173 x160002_1 t182) = some (r1, r2, r3, r4, r5, r6, r7) := by rw [if_pos rfl] at H; exact H
      clear H
      have H := H1
      clear H1
      have H' := aM H
      clear H
      obtain ⟨HGz30, hgz30⟩ := HI0.out
      have hcz30_0 := cellS65_0 HGz30
      have hcz30_1 := cellS65_1 HGz30
      have hcz30_2 := cellS65_2 HGz30
      have hfz30_0 := blk_frozen HGz30 0
      have hfz30_1 := blk_frozen HGz30 1
      have hfz30_2 := blk_frozen HGz30 2
      clear HGz30 hgz30
      go_wp2
      go_meet
      case rel => exact ⟨_, (false), (by first | rfl | (simp; done) | (simp [*]; done)), H', ⟨by have := HK1.out; first | omega | exact Nat.le_refl _⟩, ⟨by refine rdS ?_; exact HO_160002.out⟩, ⟨by refine bkS ?_; exact BK158.out⟩, ⟨by refine bkS ?_; exact BK159.out⟩, ⟨by repeat (first | (with_reducible first | exact HI0.out | apply IsS65.alloc | apply IsS65.drewN | apply IsS65.drew | apply IsS65.set_0 | apply IsS65.set_1 | apply IsS65.set_2 | refine IsS65.far ?_ NB0_158.out _ | refine IsS65.far ?_ NB0_159.out _) | exact HI0.out)⟩, ⟨by repeat (first | (with_reducible first | exact HK.out | apply KeepBut.set_ | apply keep_drewN | apply keep_drew | apply keep_alloc | refine keep_far ?_ GW158.out _ | refine keep_far ?_ GW159.out _) | exact HK.out)⟩, ⟨bl3 (IsS65.ge HI0.out) GE158.out GE159.out⟩⟩
    replace c29 := Bool.eq_false_iff.mpr c29
    subst c29
    have H1 : (policy_reader_rest.j1 k1 x5_1 (!x1002_1) x1000_1 false x1002_1 t164 t173 x160002_1 t182) = some (r1, r2, r3, r4, r5, r6, r7) := by rw [if_neg (show ¬ (false = true) by decide)] at H; exact H
    clear H
    have H := H1
    clear H1
    have H' := aM H
    clear H
    obtain ⟨HGz31, hgz31⟩ := HI0.out
    have hcz31_0 := cellS65_0 HGz31
    have hcz31_1 := cellS65_1 HGz31
    have hcz31_2 := cellS65_2 HGz31
    have hfz31_0 := blk_frozen HGz31 0
    have hfz31_1 := blk_frozen HGz31 1
    have hfz31_2 := blk_frozen HGz31 2
    clear HGz31 hgz31
    go_wp2
    go_meet
    case rel => exact ⟨_, (!x1002_1), (by first | rfl | (simp; done) | (simp [*]; done)), H', ⟨by have := HK1.out; first | omega | exact Nat.le_refl _⟩, ⟨by refine rdS ?_; exact HO_160002.out⟩, ⟨by refine bkS ?_; exact BK158.out⟩, ⟨by refine bkS ?_; exact BK159.out⟩, ⟨by repeat (first | (with_reducible first | exact HI0.out | apply IsS65.alloc | apply IsS65.drewN | apply IsS65.drew | apply IsS65.set_0 | apply IsS65.set_1 | apply IsS65.set_2 | refine IsS65.far ?_ NB0_158.out _ | refine IsS65.far ?_ NB0_159.out _) | exact HI0.out)⟩, ⟨by repeat (first | (with_reducible first | exact HK.out | apply KeepBut.set_ | apply keep_drewN | apply keep_drew | apply keep_alloc | refine keep_far ?_ GW158.out _ | refine keep_far ?_ GW159.out _) | exact HK.out)⟩, ⟨bl3 (IsS65.ge HI0.out) GE158.out GE159.out⟩⟩
   case rest =>
    clear HC28
    try clear c1
    try clear c2
    try clear p2
    try clear c3
    try clear c4
    try clear c5
    try clear c6
    try clear c15
    try clear c16
    try clear c29
    try clear hcz17_0
    try clear hcz17_1
    try clear hcz17_2
    try clear hcz17_3
    try clear hcz26_0
    try clear hcz26_1
    try clear hcz26_2
    try clear hcz26_3
    try clear hcz30_0
    try clear hcz30_1
    try clear hcz30_2
    try clear hcz31_0
    try clear hcz31_1
    try clear hcz31_2
    try clear hfz17_0
    try clear hfz17_1
    try clear hfz17_2
    try clear hfz17_3
    try clear hfz26_0
    try clear hfz26_1
    try clear hfz26_2
    try clear hfz26_3
    try clear hfz30_0
    try clear hfz30_1
    try clear hfz30_2
    try clear hfz31_0
    try clear hfz31_1
    try clear hfz31_2
    try clear p2
    obtain ⟨kq, x49_27, rfl, HA, HJ27, HO_160002, BK158, BK159, HI0, HK, HB⟩ := hcut
    cases kq with
    | zero => exact absurd HA.out (by simp [policy_reader_rest.j1])
    | succ kj27 =>
     have H := HA.out
     clear HA
     simp only [policy_reader_rest.j1] at H
     by_cases c32 : x49_27 = true
     rotate_left
     · replace c32 := Bool.eq_false_iff.mpr c32
       subst c32
       have H1 : (if x1002_1 = true then (some (t164, t173, x160002_1, t182, x1000_1, x1001_1, true)) else (some (t164, t173, x160002_1, t182, x1000_1, x1001_1, decide ((x160002_1.length : Int) > 4)))) = some (r1, r2, r3, r4, r5, r6, r7) := by rw [if_neg (show ¬ (false = true) by decide)] at H; exact H
       clear H
       have H := H1
       clear H1
       by_cases c55 : x1002_1 = true
       · subst c55
         have H1 : (some (t164, t173, x160002_1, t182, x1000_1, x1001_1, true)) = some (r1, r2, r3, r4, r5, r6, r7) := by rw [if_pos rfl] at H; exact H
         clear H
         have H := H1
         clear H1
         simp only [Option.some.injEq, Prod.mk.injEq] at H
         obtain ⟨rfl, rfl, rfl, rfl, rfl, rfl, rfl⟩ := H
         obtain ⟨HGz56, hgz56⟩ := HI0.out
         have hcz56_0 := cellS65_0 HGz56
         have hcz56_1 := cellS65_1 HGz56
         have hcz56_2 := cellS65_2 HGz56
         have hfz56_0 := blk_frozen HGz56 0
         have hfz56_1 := blk_frozen HGz56 1
         have hfz56_2 := blk_frozen HGz56 2
         clear HGz56 hgz56
         have hnb57 := NB159_158.out
         have hnc57 := NB158_159.out
         have hnb58 := NB159_0.out
         have hnc58 := NB0_159.out
         have hcz59_0 : wc.cell? ⟨gb159, 0, none⟩ = some (.int .u32 t164) := (blk_cell BK159.out 0).trans rfl
         have hcz59_1 : wc.cell? ⟨gb159, 1, none⟩ = some (.int .u32 t173) := (blk_cell BK159.out 1).trans rfl
         have hcz59_2 : wc.cell? ⟨gb159, 2, none⟩ = some (u160002) := (blk_cell BK159.out 2).trans rfl
         have hcz59_3 : wc.cell? ⟨gb159, 3, none⟩ = some (.int .u32 t182) := (blk_cell BK159.out 3).trans rfl
         have hfz59_0 := blk_frozen BK159.out 0
         have hfz59_1 := blk_frozen BK159.out 1
         have hfz59_2 := blk_frozen BK159.out 2
         have hfz59_3 := blk_frozen BK159.out 3
         have hnb60 := NB158_0.out
         have hnc60 := NB0_158.out
         have hcz61_0 : wc.cell? ⟨gb158, 0, none⟩ = some (.int .u32 0) := (blk_cell BK158.out 0).trans rfl
         have hcz61_1 : wc.cell? ⟨gb158, 1, none⟩ = some (.int .u32 0) := (blk_cell BK158.out 1).trans rfl
         have hcz61_2 : wc.cell? ⟨gb158, 2, none⟩ = some (.slice none 0 0) := (blk_cell BK158.out 2).trans rfl
         have hcz61_3 : wc.cell? ⟨gb158, 3, none⟩ = some (.int .u32 0) := (blk_cell BK158.out 3).trans rfl
         have hfz61_0 := blk_frozen BK158.out 0
         have hfz61_1 := blk_frozen BK158.out 1
         have hfz61_2 := blk_frozen BK158.out 2
         have hfz61_3 := blk_frozen BK158.out 3
         obtain ⟨Ao62, co62, eo62⟩ := Kd.R_slice HO_160002.out
         subst eo62
         go_wp2
         refine bodyPost_ret (results_cell_row rfl _ _ gb158 40 #[.int .u32 t164, .int .u32 t173, .slice Ao62 x160002_1.length co62, .int .u32 t182] (0, 0) _ rfl (by refine bkS ?_; refine blk_put (cs := #[.int .u32 t164, .int .u32 t173, .slice Ao62 x160002_1.length co62, .int .u32 0]) ?_ 3 _ rfl; refine bkS ?_; refine blk_put (cs := #[.int .u32 t164, .int .u32 t173, .slice none 0 0, .int .u32 0]) ?_ 2 _ rfl; refine bkS ?_; refine blk_put (cs := #[.int .u32 t164, .int .u32 0, .slice none 0 0, .int .u32 0]) ?_ 1 _ rfl; refine bkS ?_; refine blk_put (cs := #[.int .u32 0, .int .u32 0, .slice none 0 0, .int .u32 0]) ?_ 0 _ rfl; refine bkS ?_; refine blk_far ?_ NB158_0.out _; refine bkS ?_; exact BK158.out) Try.underlying40 rfl kR) rfl ?_
         exact ⟨_, erA, by refine rdS ?_; exact Kd.R_mono (Kd.R_far (p := ⟨gb158, 3, none⟩) (Kd.R_far (p := ⟨gb158, 2, none⟩) (Kd.R_far (p := ⟨gb158, 1, none⟩) (Kd.R_far (p := ⟨gb158, 0, none⟩) (Kd.R_far (p := ⟨g, 2, none⟩) (Kd.R_types (IsS65.apart HI0.out HO_160002.out (by decide)) BK158.out (by decide)) (fun _ hk => hk.1.2) (.bool true)) (fun _ hk => hk.2) (.int .u32 t164)) (fun _ hk => hk.2) (.int .u32 t173)) (fun _ hk => hk.2) (.slice Ao62 x160002_1.length co62)) (fun _ hk => hk.2) (.int .u32 t182)) (fun _ hk => trivial), by repeat (first | (with_reducible first | exact HI0.out | apply IsS65.alloc | apply IsS65.drewN | apply IsS65.drew | apply IsS65.set_0 | apply IsS65.set_1 | apply IsS65.set_2 | refine IsS65.far ?_ NB0_158.out _ | refine IsS65.far ?_ NB0_159.out _) | exact HI0.out), bl3 (IsS65.ge HI0.out) GE158.out GE159.out, by repeat (first | (with_reducible first | exact HK.out | apply KeepBut.set_ | apply keep_drewN | apply keep_drew | apply keep_alloc | refine keep_far ?_ GW158.out _ | refine keep_far ?_ GW159.out _) | exact HK.out)⟩
       replace c55 := Bool.eq_false_iff.mpr c55
       subst c55
       have H1 : (some (t164, t173, x160002_1, t182, x1000_1, x1001_1, decide ((x160002_1.length : Int) > 4))) = some (r1, r2, r3, r4, r5, r6, r7) := by rw [if_neg (show ¬ (false = true) by decide)] at H; exact H
       clear H
       have H := H1
       clear H1
       simp only [Option.some.injEq, Prod.mk.injEq] at H
       obtain ⟨rfl, rfl, rfl, rfl, rfl, rfl, rfl⟩ := H
       obtain ⟨HGz63, hgz63⟩ := HI0.out
       have hcz63_0 := cellS65_0 HGz63
       have hcz63_1 := cellS65_1 HGz63
       have hcz63_2 := cellS65_2 HGz63
       have hfz63_0 := blk_frozen HGz63 0
       have hfz63_1 := blk_frozen HGz63 1
       have hfz63_2 := blk_frozen HGz63 2
       clear HGz63 hgz63
       have hnb64 := NB159_158.out
       have hnc64 := NB158_159.out
       have hnb65 := NB159_0.out
       have hnc65 := NB0_159.out
       have hcz66_0 : wc.cell? ⟨gb159, 0, none⟩ = some (.int .u32 t164) := (blk_cell BK159.out 0).trans rfl
       have hcz66_1 : wc.cell? ⟨gb159, 1, none⟩ = some (.int .u32 t173) := (blk_cell BK159.out 1).trans rfl
       have hcz66_2 : wc.cell? ⟨gb159, 2, none⟩ = some (u160002) := (blk_cell BK159.out 2).trans rfl
       have hcz66_3 : wc.cell? ⟨gb159, 3, none⟩ = some (.int .u32 t182) := (blk_cell BK159.out 3).trans rfl
       have hfz66_0 := blk_frozen BK159.out 0
       have hfz66_1 := blk_frozen BK159.out 1
       have hfz66_2 := blk_frozen BK159.out 2
       have hfz66_3 := blk_frozen BK159.out 3
       obtain ⟨Ao67, co67, eo67⟩ := Kd.R_slice HO_160002.out
       subst eo67
       have hnb68 := NB158_0.out
       have hnc68 := NB0_158.out
       have hcz69_0 : wc.cell? ⟨gb158, 0, none⟩ = some (.int .u32 0) := (blk_cell BK158.out 0).trans rfl
       have hcz69_1 : wc.cell? ⟨gb158, 1, none⟩ = some (.int .u32 0) := (blk_cell BK158.out 1).trans rfl
       have hcz69_2 : wc.cell? ⟨gb158, 2, none⟩ = some (.slice none 0 0) := (blk_cell BK158.out 2).trans rfl
       have hcz69_3 : wc.cell? ⟨gb158, 3, none⟩ = some (.int .u32 0) := (blk_cell BK158.out 3).trans rfl
       have hfz69_0 := blk_frozen BK158.out 0
       have hfz69_1 := blk_frozen BK158.out 1
       have hfz69_2 := blk_frozen BK158.out 2
       have hfz69_3 := blk_frozen BK158.out 3
       go_wp2
       refine bodyPost_ret (results_cell_row rfl _ _ gb158 40 #[.int .u32 t164, .int .u32 t173, .slice Ao67 x160002_1.length co67, .int .u32 t182] (0, 0) _ rfl (by refine bkS ?_; refine blk_put (cs := #[.int .u32 t164, .int .u32 t173, .slice Ao67 x160002_1.length co67, .int .u32 0]) ?_ 3 _ rfl; refine bkS ?_; refine blk_put (cs := #[.int .u32 t164, .int .u32 t173, .slice none 0 0, .int .u32 0]) ?_ 2 _ rfl; refine bkS ?_; refine blk_put (cs := #[.int .u32 t164, .int .u32 0, .slice none 0 0, .int .u32 0]) ?_ 1 _ rfl; refine bkS ?_; refine blk_put (cs := #[.int .u32 0, .int .u32 0, .slice none 0 0, .int .u32 0]) ?_ 0 _ rfl; refine bkS ?_; refine blk_far ?_ NB158_0.out _; refine bkS ?_; exact BK158.out) Try.underlying40 rfl kR) rfl ?_
       exact ⟨_, erA, by refine rdS ?_; exact Kd.R_mono (Kd.R_far (p := ⟨gb158, 3, none⟩) (Kd.R_far (p := ⟨gb158, 2, none⟩) (Kd.R_far (p := ⟨gb158, 1, none⟩) (Kd.R_far (p := ⟨gb158, 0, none⟩) (Kd.R_far (p := ⟨g, 2, none⟩) (Kd.R_types (IsS65.apart HI0.out HO_160002.out (by decide)) BK158.out (by decide)) (fun _ hk => hk.1.2) (.bool (decide ((x160002_1.length : Int) > 4)))) (fun _ hk => hk.2) (.int .u32 t164)) (fun _ hk => hk.2) (.int .u32 t173)) (fun _ hk => hk.2) (.slice Ao67 x160002_1.length co67)) (fun _ hk => hk.2) (.int .u32 t182)) (fun _ hk => trivial), by repeat (first | (with_reducible first | exact HI0.out | apply IsS65.alloc | apply IsS65.drewN | apply IsS65.drew | apply IsS65.set_0 | apply IsS65.set_1 | apply IsS65.set_2 | refine IsS65.far ?_ NB0_158.out _ | refine IsS65.far ?_ NB0_159.out _) | exact HI0.out), bl3 (IsS65.ge HI0.out) GE158.out GE159.out, by repeat (first | (with_reducible first | exact HK.out | apply KeepBut.set_ | apply keep_drewN | apply keep_drew | apply keep_alloc | refine keep_far ?_ GW158.out _ | refine keep_far ?_ GW159.out _) | exact HK.out)⟩
     subst c32
     have H1 : ((policy_reader_word.f x1000_1 x1001_1 x1002_1).bind fun bt187 => (if bt187.1.toList = x5_1.toList then ((policy_reader_condition.f bt187.2.1 bt187.2.2.1 bt187.2.2.2).bind fun bt191 => (if x160002_1.length < 4398046511104 then (policy_reader_rest.l0 kj27 (⟨#[97, 110, 100]⟩ : ByteArray) bt191.2.2.2.2.1 bt191.2.2.2.2.2.1 bt191.2.2.2.2.2.2 t164 t173 (x160002_1 ++ [(⟨bt191.1, bt191.2.1, bt191.2.2.1, bt191.2.2.2.1⟩ : S61)]) t182) else (none))) else ((policy_reader_condition.f bt187.2.1 bt187.2.2.1 true).bind fun bt201 => (if x160002_1.length < 4398046511104 then (policy_reader_rest.l0 kj27 (⟨#[97, 110, 100]⟩ : ByteArray) bt201.2.2.2.2.1 bt201.2.2.2.2.2.1 bt201.2.2.2.2.2.2 t164 t173 (x160002_1 ++ [(⟨bt201.1, bt201.2.1, bt201.2.2.1, bt201.2.2.2.1⟩ : S61)]) t182) else (none))))) = some (r1, r2, r3, r4, r5, r6, r7) := by rw [if_pos rfl] at H; exact H
     clear H
     have H := H1
     clear H1
     replace H := Option.bind_eq_some_iff.mp H
     obtain ⟨⟨t187, t188, t189, t190⟩, A330, H⟩ := H
     replace H : (if t187.toList = x5_1.toList then ((policy_reader_condition.f t188 t189 t190).bind fun bt191 => (if x160002_1.length < 4398046511104 then (policy_reader_rest.l0 kj27 (⟨#[97, 110, 100]⟩ : ByteArray) bt191.2.2.2.2.1 bt191.2.2.2.2.2.1 bt191.2.2.2.2.2.2 t164 t173 (x160002_1 ++ [(⟨bt191.1, bt191.2.1, bt191.2.2.1, bt191.2.2.2.1⟩ : S61)]) t182) else (none))) else ((policy_reader_condition.f t188 t189 true).bind fun bt201 => (if x160002_1.length < 4398046511104 then (policy_reader_rest.l0 kj27 (⟨#[97, 110, 100]⟩ : ByteArray) bt201.2.2.2.2.1 bt201.2.2.2.2.2.1 bt201.2.2.2.2.2.2 t164 t173 (x160002_1 ++ [(⟨bt201.1, bt201.2.1, bt201.2.2.1, bt201.2.2.2.1⟩ : S61)]) t182) else (none)))) = some (r1, r2, r3, r4, r5, r6, r7) := H
     have A33 := aM A330
     clear A330
     by_cases c34 : t187.toList = x5_1.toList
     rotate_left
     · rw [if_neg c34] at H
       have c34b0 : (t187.toList == x5_1.toList) = false := beq_eq_false_iff_ne.mpr c34
       have c34b1 : (t187.toList != x5_1.toList) = true := bne_iff_ne.mpr c34
       replace H := Option.bind_eq_some_iff.mp H
       obtain ⟨⟨t201, t202, t203, t204, t205, t206, t207⟩, A450, H⟩ := H
       replace H : (if x160002_1.length < 4398046511104 then (policy_reader_rest.l0 kj27 (⟨#[97, 110, 100]⟩ : ByteArray) t205 t206 t207 t164 t173 (x160002_1 ++ [(⟨t201, t202, t203, t204⟩ : S61)]) t182) else (none)) = some (r1, r2, r3, r4, r5, r6, r7) := H
       have A45 := aM A450
       clear A450
       by_cases c46 : x160002_1.length < 4398046511104
       rotate_left
       · rw [if_neg c46] at H
         exact absurd H (by simp)
       rw [if_pos c46] at H
       have LMc46 := aM c46
       clear c46
       obtain ⟨y208, hy208⟩ : ∃ y_ : List (S61), y_ = (x160002_1 ++ [(⟨t201, t202, t203, t204⟩ : S61)]) := ⟨_, rfl⟩
       replace H : (policy_reader_rest.l0 kj27 (⟨#[97, 110, 100]⟩ : ByteArray) t205 t206 t207 t164 t173 y208 t182) = some (r1, r2, r3, r4, r5, r6, r7) := by first | (rw [hy208]; with_reducible exact H) | (have H2_ := (Option.bind_some _ _).symm.trans H; rw [hy208]; with_reducible exact H2_) | (have H2_ := (Option.bind_some _ _).symm.trans H; with_reducible exact H2_) | with_reducible exact H | (rw [hy208]; exact H) | exact H
       have Ny208 := aM hy208
       clear hy208
       have H' := aM H
       clear H
       try go_wp2_with (first | ((with_reducible refine gate_callee (f := 37) rfl ?_); refine goesL_ (some 52) rfl rfl Try.func37 kR rfl #[.pointer (some ⟨g, 0, none⟩)] rfl mpA ?_; (with_reducible refine (policy_reader_word.calls g x1000_1 x1001_1 x1002_1 t187 t188 t189 t190 w0 _ ?side1 ?side2 A33.out).mono ?_); (case side1 => repeat (first | (with_reducible first | exact HI0.out | apply IsS65.alloc | apply IsS65.drewN | apply IsS65.drew | apply IsS65.set_0 | apply IsS65.set_1 | apply IsS65.set_2 | refine IsS65.far ?_ NB0_158.out _ | refine IsS65.far ?_ NB0_159.out _) | exact HI0.out)); (case side2 => exact bl3 (IsS65.ge HI0.out) GE158.out GE159.out); rintro e w47 ⟨rfl, hi, hb, hk⟩; refine ⟨_, rfl, ?_⟩; have n0_ := aM (Kd.R_mono (Kd.R_keep (IsS65.apart (show IsS65 w0 _ g x1000_1 x1001_1 x1002_1 from by repeat (first | (with_reducible first | exact HI0.out | apply IsS65.alloc | apply IsS65.drewN | apply IsS65.drew | apply IsS65.set_0 | apply IsS65.set_1 | apply IsS65.set_2 | refine IsS65.far ?_ NB0_158.out _ | refine IsS65.far ?_ NB0_159.out _) | exact HI0.out)) (rdS HO_160002.out) (by decide)) hk (fun _ h => h.2)) (fun _ h => h.1)); have n1_ := aM (KeepBut.blk hk (g' := gb158) (o := .cells #[.int .u32 0, .int .u32 0, .slice none 0 0, .int .u32 0] 40 (0, 0)) (bkS BK158.out) NB158_0.out (by simp)); have n2_ := aM (KeepBut.blk hk (g' := gb159) (o := .cells #[.int .u32 t164, .int .u32 t173, u160002, .int .u32 t182] 40 (0, 0)) (bkS BK159.out) NB159_0.out (by simp)); have n3_ := aM (KeepBut.trans (by repeat (first | (with_reducible first | exact HK.out | apply KeepBut.set_ | apply keep_drewN | apply keep_drew | apply keep_alloc | refine keep_far ?_ GW158.out _ | refine keep_far ?_ GW159.out _) | exact HK.out)) hk (.inl rfl)); have n4_ := aM (hb); have n5_ := aM (hi); clear HO_160002; clear BK158; clear BK159; clear HK; clear HB; clear HI0; have HO_160002 := n0_; have BK158 := n1_; have BK159 := n2_; have HK := n3_; have HB := n4_; have HI0 := n5_; clear n0_ n1_ n2_ n3_ n4_ n5_; (try clear hb); (try clear hb2); (try clear hk); (try clear hi); obtain ⟨HGz48, hgz48⟩ := HI0.out; have hcz48_0 := cellS65_0 HGz48; have hcz48_1 := cellS65_1 HGz48; have hcz48_2 := cellS65_2 HGz48; have hfz48_0 := blk_frozen HGz48 0; have hfz48_1 := blk_frozen HGz48 1; have hfz48_2 := blk_frozen HGz48 2; clear HGz48 hgz48))
       have n0_ : Aside0 (Kd.R k61 61 (w47.setCell ⟨g, 2, none⟩ (.bool true)) w.heap.size (fun _ => True) u160002 x160002_1) := ⟨by refine rdS ?_; exact Kd.R_mono (Kd.R_far (p := ⟨g, 2, none⟩) (IsS65.apart HI0.out HO_160002.out (by decide)) (fun _ hk => hk.2) (.bool true)) (fun _ hk => trivial)⟩
       have n1_ : Aside0 ((w47.setCell ⟨g, 2, none⟩ (.bool true)).heap[gb158]? = some (.cells #[.int .u32 0, .int .u32 0, .slice none 0 0, .int .u32 0] 40 (0, 0))) := ⟨by refine bkS ?_; refine blk_far ?_ NB158_0.out _; refine bkS ?_; exact BK158.out⟩
       have n2_ : Aside0 ((w47.setCell ⟨g, 2, none⟩ (.bool true)).heap[gb159]? = some (.cells #[.int .u32 t164, .int .u32 t173, u160002, .int .u32 t182] 40 (0, 0))) := ⟨by refine bkS ?_; refine blk_far ?_ NB159_0.out _; refine bkS ?_; exact BK159.out⟩
       have n3_ : Aside0 (IsS65 w0 (w47.setCell ⟨g, 2, none⟩ (.bool true)) g t188 t189 true) := ⟨by repeat (first | (with_reducible first | exact HI0.out | apply IsS65.alloc | apply IsS65.drewN | apply IsS65.drew | apply IsS65.set_0 | apply IsS65.set_1 | apply IsS65.set_2 | refine IsS65.far ?_ NB0_158.out _ | refine IsS65.far ?_ NB0_159.out _) | exact HI0.out)⟩
       have n4_ : Aside0 (KeepBut w (w47.setCell ⟨g, 2, none⟩ (.bool true)) g none) := ⟨by repeat (first | (with_reducible first | exact HK.out | apply KeepBut.set_ | apply keep_drewN | apply keep_drew | apply keep_alloc | refine keep_far ?_ GW158.out _ | refine keep_far ?_ GW159.out _) | exact HK.out)⟩
       have n5_ : Aside0 (Below w0.heap.size w0 (w47.setCell ⟨g, 2, none⟩ (.bool true))) := ⟨bl3 (IsS65.ge HI0.out) GE158.out GE159.out⟩
       (try clear HO_160002)
       (try clear BK158)
       (try clear BK159)
       (try clear HI0)
       (try clear HK)
       (try clear HB)
       generalize (w47.setCell ⟨g, 2, none⟩ (.bool true)) = w49 at n0_ n1_ n2_ n3_ n4_ n5_ ⊢
       have HO_160002 := n0_
       have BK158 := n1_
       have BK159 := n2_
       have HI0 := n3_
       have HK := n4_
       have HB := n5_
       clear n0_ n1_ n2_ n3_ n4_ n5_
       have n0_ := aM (Kd.R_drew HO_160002.out)
       have n1_ := aM (blk_drew BK158.out)
       have n2_ := aM (blk_drew BK159.out)
       have n3_ := aM (IsS65.drew HI0.out)
       have n4_ := aM (keep_drew HK.out)
       have n5_ := aM (below_drew1 HB.out)
       clear HO_160002
       clear BK158
       clear BK159
       clear HI0
       clear HK
       clear HB
       have HO_160002 := n0_
       have BK158 := n1_
       have BK159 := n2_
       have HI0 := n3_
       have HK := n4_
       have HB := n5_
       clear n0_ n1_ n2_ n3_ n4_ n5_
       refine start_ (n := 8) (S := fun w' => w'.cell? ⟨gb159, 0, none⟩ = some (.int .u32 t164) ∧ w'.cell? ⟨gb159, 1, none⟩ = some (.int .u32 t173) ∧ w'.cell? ⟨gb159, 2, none⟩ = some (u160002) ∧ w'.cell? ⟨gb159, 3, none⟩ = some (.int .u32 t182)) (ds := [7]) #[false, false, false, false, false, false, false, false] kR rfl rfl ⟨(blk_cell BK159.out 0).trans rfl, (blk_cell BK159.out 1).trans rfl, (blk_cell BK159.out 2).trans rfl, (blk_cell BK159.out 3).trans rfl⟩ (fun hHeld => ?_); refine with_tabW policy_reader_rest.tab13 policy_reader_rest.bits13 (fun HT_ HW_ => ?_)
       generalize w49.drew = w50 at HO_160002 BK158 BK159 HI0 HK HB hHeld ⊢
       refine pure_ (i := 0) (N := some 63) (v := ?_) (a' := ?_) #[true, false, false, false, false, false, false, false] rfl rfl (any_of HT_.out kR) (fun _ _ _ h => h) (Or.inl ⟨by rfl, ?_⟩) ?_ ?_
       rotate_left
       · intro w'
         go_simp
         with_reducible rfl
       rotate_left
       · refine apW ?_
         rfl
       refine pure_ (i := 2) (N := some 65) (v := ?_) (a' := ?_) #[true, false, true, false, false, false, false, false] rfl rfl (any_of HT_.out kR) (fun _ _ _ h => h) (Or.inl ⟨by rfl, ?_⟩) ?_ ?_
       rotate_left
       · intro w'
         go_simp
         with_reducible rfl
       rotate_left
       · refine apW ?_
         rfl
       refine take_ (i := 1) (N := some 64) (v := ?_) (a' := ?_) #[true, true, true, false, false, false, false, false] rfl rfl (take_ofW HT_.out HW_.out kR) (fun _ _ _ h => h) (Or.inl ⟨by rfl, ?_⟩) hHeld ?_ ?_
       rotate_left
       · rintro w' ⟨s0, s1, s2, s3⟩
         go_simp
         with_reducible rfl
       rotate_left
       · refine apW ?_
         rfl
       refine one_ (i := 3) (N := some 66) #[true, true, true, true, false, false, false, false] rfl rfl (one_of HT_.out kR) (by decide) (fun K hK => ?_)
       refine goes_ Try.func61 kR rfl #[.pointer (some ⟨g, 0, none⟩)] (by rfl) rfl rfl mpA ?_
       with_reducible refine (policy_reader_condition.calls g t188 t189 true t201 t202 t203 t204 t205 t206 t207 w0 _ ?side1 ?side2 A45.out).mono ?_
       (case side1 => repeat (first | (with_reducible first | exact HI0.out | apply IsS65.alloc | apply IsS65.drewN | apply IsS65.drew | apply IsS65.set_0 | apply IsS65.set_1 | apply IsS65.set_2 | refine IsS65.far ?_ NB0_158.out _ | refine IsS65.far ?_ NB0_159.out _) | exact HI0.out))
       (case side2 => exact bl3 (IsS65.ge HI0.out) GE158.out GE159.out)
       rintro e w51 ⟨rfl, hi, hb, hk⟩
       refine ⟨_, rfl, ?_⟩
       have n0_ := aM (Kd.R_mono (Kd.R_keep (IsS65.apart (show IsS65 w0 _ g t188 t189 true from by repeat (first | (with_reducible first | exact HI0.out | apply IsS65.alloc | apply IsS65.drewN | apply IsS65.drew | apply IsS65.set_0 | apply IsS65.set_1 | apply IsS65.set_2 | refine IsS65.far ?_ NB0_158.out _ | refine IsS65.far ?_ NB0_159.out _) | exact HI0.out)) (rdS HO_160002.out) (by decide)) hk (fun _ h => h.2)) (fun _ h => h.1))
       have n1_ := aM (KeepBut.blk hk (g' := gb158) (o := .cells #[.int .u32 0, .int .u32 0, .slice none 0 0, .int .u32 0] 40 (0, 0)) (bkS BK158.out) NB158_0.out (by simp))
       have n2_ := aM (KeepBut.blk hk (g' := gb159) (o := .cells #[.int .u32 t164, .int .u32 t173, u160002, .int .u32 t182] 40 (0, 0)) (bkS BK159.out) NB159_0.out (by simp))
       have n3_ := aM (KeepBut.trans (by repeat (first | (with_reducible first | exact HK.out | apply KeepBut.set_ | apply keep_drewN | apply keep_drew | apply keep_alloc | refine keep_far ?_ GW158.out _ | refine keep_far ?_ GW159.out _) | exact HK.out)) hk (.inl rfl))
       have n4_ := aM (hb)
       have n5_ := aM (hi)
       clear HO_160002
       clear BK158
       clear BK159
       clear HK
       clear HB
       clear HI0
       have HO_160002 := n0_
       have BK158 := n1_
       have BK159 := n2_
       have HK := n3_
       have HB := n4_
       have HI0 := n5_
       clear n0_ n1_ n2_ n3_ n4_ n5_
       (try clear hb)
       (try clear hb2)
       (try clear hk)
       (try clear hi)
       refine hK.out _ _ ⟨(blk_cell BK159.out 0).trans rfl, (blk_cell BK159.out 1).trans rfl, (blk_cell BK159.out 2).trans rfl, (blk_cell BK159.out 3).trans rfl⟩ (fun hHeld => ?_)
       clear hK K
       refine norm_ (a' := ?_) ?_ ?_
       rotate_left
       · show Act.put _ (some 66) _ = _
         refine apW ?_
         rfl
       refine one_ (i := 4) (N := some 67) #[true, true, true, true, true, false, false, false] rfl rfl (one_of HT_.out kR) (by decide) (fun K hK => ?_)
       refine value_ (w1 := ?_) (v := ?_) (by rfl) rfl ?_ ?_
       rotate_left 2
       · go_simp
         constructor
         · rfl
         · rfl
       refine hK.out _ _ ⟨(blk_cell (blk_alloc BK159.out _) 0).trans rfl, (blk_cell (blk_alloc BK159.out _) 1).trans rfl, (blk_cell (blk_alloc BK159.out _) 2).trans rfl, (blk_cell (blk_alloc BK159.out _) 3).trans rfl⟩ (fun hHeld => ?_)
       clear hK K
       refine norm_ (a' := ?_) ?_ ?_
       rotate_left
       · show Act.put _ (some 67) _ = _
         refine apW ?_
         rfl
       refine one_ (i := 5) (N := some 68) #[true, true, true, true, true, true, false, false] rfl rfl (one_of HT_.out kR) (by decide) (fun K hK => ?_)
       refine Kd.R_append_step k61 w.heap.size (by rfl) (.tmp 64) (.tmp 67) 38 61 (.agg #[(.int .i64 0), (.int .i64 0), (.int .u64 0), (.int .u64 0)]) 32 rfl Try.underlying38 info61 rfl (by decide) (by omega) u160002 x160002_1 (⟨t201, t202, t203, t204⟩ : S61) [.int .i64 t201, .int .i64 t202, .int .u64 t203, .int .u64 t204] (fun _ => True) (fun _ => False) rfl rfl ?aP (fun _ hk => hk.elim) ?aF ?aO (Below.refl _ _) ?aS ?aL ?_
       (case aP => exact k61_mkM _ _ _ (⟨t201, t202, t203, t204⟩ : S61))
       (case aF => exact (fun _ _ => trivial))
       (case aO => exact (rdS HO_160002.out))
       (case aS => exact (keep_size (w := w) (g := g) (row := none) (by repeat (first | (with_reducible first | exact HK.out | apply KeepBut.set_ | apply keep_drewN | apply keep_drew | apply keep_alloc | refine keep_far ?_ GW158.out _ | refine keep_far ?_ GW159.out _) | exact HK.out))))
       (case aL => have := LMc46.out; omega)
       intro v209 w52 ho hb hg hat
       rw [← Ny208.out] at ho
       have n0_ := aM (blk_grown (g := gb158) (o := .cells #[.int .u32 0, .int .u32 0, .slice none 0 0, .int .u32 0] 40 (0, 0)) (bkS BK158.out) hg (Kd.R_ne HO_160002.out BK158.out (by decide)))
       have n1_ := aM (blk_grown (g := gb159) (o := .cells #[.int .u32 t164, .int .u32 t173, u160002, .int .u32 t182] 40 (0, 0)) (bkS BK159.out) hg (Kd.R_ne HO_160002.out BK159.out (by decide)))
       have n2_ := aM (IsS65.grown (by repeat (first | (with_reducible first | exact HI0.out | apply IsS65.alloc | apply IsS65.drewN | apply IsS65.drew | apply IsS65.set_0 | apply IsS65.set_1 | apply IsS65.set_2 | refine IsS65.far ?_ NB0_158.out _ | refine IsS65.far ?_ NB0_159.out _) | exact HI0.out)) hg (IsS65.own_ne HI0.out HO_160002.out (by decide)))
       have n3_ := aM (below_weaken (bl3 (IsS65.ge HI0.out) GE158.out GE159.out) HL.out hb)
       have n4_ := aM (KeepBut.trans (by repeat (first | (with_reducible first | exact HK.out | apply KeepBut.set_ | apply keep_drewN | apply keep_drew | apply keep_alloc | refine keep_far ?_ GW158.out _ | refine keep_far ?_ GW159.out _) | exact HK.out)) (KeepBut.of_grown hg g) (Kd.R_base2 HO_160002.out))
       have n5_ := aM (ho)
       clear BK158
       clear BK159
       clear HI0
       clear HB
       clear HK
       clear HO_160002
       have BK158 := n0_
       have BK159 := n1_
       have HI0 := n2_
       have HB := n3_
       have HK := n4_
       have HO210 := n5_
       clear n0_ n1_ n2_ n3_ n4_ n5_
       clear ho hb hg hat
       obtain ⟨Ao53, co53, eo53⟩ := Kd.R_slice HO210.out
       (first | subst eo53 | (injection eo53 with f1_ f2_ f3_; have f4_ := f1_.symm; have f5_ := f3_.symm; clear f1_ f2_ f3_; subst f4_; subst f5_))
       refine hK.out _ _ ⟨(blk_cell BK159.out 0).trans rfl, (blk_cell BK159.out 1).trans rfl, (blk_cell BK159.out 2).trans rfl, (blk_cell BK159.out 3).trans rfl⟩ (fun hHeld => ?_)
       clear hK K
       refine norm_ (a' := ?_) ?_ ?_
       rotate_left
       · show Act.put _ (some 68) _ = _
         refine apW ?_
         rfl
       refine pure_ (i := 6) (N := some 69) (v := ?_) (a' := ?_) #[true, true, true, true, true, true, true, false] rfl rfl (any_of HT_.out kR) (fun _ _ _ h => h) (Or.inl ⟨by rfl, ?_⟩) ?_ ?_
       rotate_left
       · intro w'
         go_simp
         with_reducible rfl
       rotate_left
       · refine apW ?_
         rfl
       refine last_ (i := 7) (N := none) #[true, true, true, true, true, true, true, true] rfl rfl (one_of HT_.out kR) (by decide) (fun K hK => ?_)
       have hs54 : w52.cell? ⟨gb159, 2, none⟩ = some (u160002) := (blk_cell BK159.out 2).trans rfl
       have hfs54 := blk_frozen BK159.out 2
       have hns54_0 := NB158_159.out
       have hms54_0 := NB159_158.out
       refine skip_ (w1 := ?_) (by rfl) rfl ?_ ?_
       rotate_left
       · go_simp
         rfl
       refine hK.out _ _ ?_
       clear hK K
       refine done_ (done_of HT_.out kR) ?_
       try go_wp2
       go_roundg kj27
       case measure => have := HK1.out; have := HJ27.out; omega
       case rel => exact ⟨((⟨#[97, 110, 100]⟩ : ByteArray)), (t205), (t206), (t207), (y208), (.slice Ao53 y208.length co53), (by first | rfl | (simp; done) | (simp [*]; done)), H', ⟨by have := HK1.out; have := HJ27.out; omega⟩, ⟨by refine rdS ?_; exact Kd.R_mono (Kd.R_far (p := ⟨gb159, 2, none⟩) (Kd.R_types HO210.out BK159.out (by decide)) (fun _ hk => hk.2) (.slice Ao53 y208.length co53)) (fun _ hk => trivial)⟩, ⟨by refine bkS ?_; refine blk_far ?_ NB158_159.out _; refine bkS ?_; exact BK158.out⟩, ⟨by refine bkS ?_; refine blk_put (cs := #[.int .u32 t164, .int .u32 t173, u160002, .int .u32 t182]) ?_ 2 _ rfl; refine bkS ?_; exact BK159.out⟩, ⟨by repeat (first | (with_reducible first | exact HI0.out | apply IsS65.alloc | apply IsS65.drewN | apply IsS65.drew | apply IsS65.set_0 | apply IsS65.set_1 | apply IsS65.set_2 | refine IsS65.far ?_ NB0_158.out _ | refine IsS65.far ?_ NB0_159.out _) | exact HI0.out)⟩, ⟨by repeat (first | (with_reducible first | exact HK.out | apply KeepBut.set_ | apply keep_drewN | apply keep_drew | apply keep_alloc | refine keep_far ?_ GW158.out _ | refine keep_far ?_ GW159.out _) | exact HK.out)⟩, ⟨bl3 (IsS65.ge HI0.out) GE158.out GE159.out⟩⟩
     rw [if_pos c34] at H
     have c34b0 : (t187.toList == x5_1.toList) = true := beq_iff_eq.mpr c34
     have c34b1 : (t187.toList != x5_1.toList) = false := bne_eq_false_iff_eq.mpr c34
     clear c34
     replace H := Option.bind_eq_some_iff.mp H
     obtain ⟨⟨t191, t192, t193, t194, t195, t196, t197⟩, A350, H⟩ := H
     replace H : (if x160002_1.length < 4398046511104 then (policy_reader_rest.l0 kj27 (⟨#[97, 110, 100]⟩ : ByteArray) t195 t196 t197 t164 t173 (x160002_1 ++ [(⟨t191, t192, t193, t194⟩ : S61)]) t182) else (none)) = some (r1, r2, r3, r4, r5, r6, r7) := H
     have A35 := aM A350
     clear A350
     by_cases c36 : x160002_1.length < 4398046511104
     rotate_left
     · rw [if_neg c36] at H
       exact absurd H (by simp)
     rw [if_pos c36] at H
     have LMc36 := aM c36
     clear c36
     obtain ⟨y198, hy198⟩ : ∃ y_ : List (S61), y_ = (x160002_1 ++ [(⟨t191, t192, t193, t194⟩ : S61)]) := ⟨_, rfl⟩
     replace H : (policy_reader_rest.l0 kj27 (⟨#[97, 110, 100]⟩ : ByteArray) t195 t196 t197 t164 t173 y198 t182) = some (r1, r2, r3, r4, r5, r6, r7) := by first | (rw [hy198]; with_reducible exact H) | (have H2_ := (Option.bind_some _ _).symm.trans H; rw [hy198]; with_reducible exact H2_) | (have H2_ := (Option.bind_some _ _).symm.trans H; with_reducible exact H2_) | with_reducible exact H | (rw [hy198]; exact H) | exact H
     have Ny198 := aM hy198
     clear hy198
     have H' := aM H
     clear H
     try go_wp2_with (first | ((with_reducible refine gate_callee (f := 37) rfl ?_); refine goesL_ (some 52) rfl rfl Try.func37 kR rfl #[.pointer (some ⟨g, 0, none⟩)] rfl mpA ?_; (with_reducible refine (policy_reader_word.calls g x1000_1 x1001_1 x1002_1 t187 t188 t189 t190 w0 _ ?side1 ?side2 A33.out).mono ?_); (case side1 => repeat (first | (with_reducible first | exact HI0.out | apply IsS65.alloc | apply IsS65.drewN | apply IsS65.drew | apply IsS65.set_0 | apply IsS65.set_1 | apply IsS65.set_2 | refine IsS65.far ?_ NB0_158.out _ | refine IsS65.far ?_ NB0_159.out _) | exact HI0.out)); (case side2 => exact bl3 (IsS65.ge HI0.out) GE158.out GE159.out); rintro e w37 ⟨rfl, hi, hb, hk⟩; refine ⟨_, rfl, ?_⟩; have n0_ := aM (Kd.R_mono (Kd.R_keep (IsS65.apart (show IsS65 w0 _ g x1000_1 x1001_1 x1002_1 from by repeat (first | (with_reducible first | exact HI0.out | apply IsS65.alloc | apply IsS65.drewN | apply IsS65.drew | apply IsS65.set_0 | apply IsS65.set_1 | apply IsS65.set_2 | refine IsS65.far ?_ NB0_158.out _ | refine IsS65.far ?_ NB0_159.out _) | exact HI0.out)) (rdS HO_160002.out) (by decide)) hk (fun _ h => h.2)) (fun _ h => h.1)); have n1_ := aM (KeepBut.blk hk (g' := gb158) (o := .cells #[.int .u32 0, .int .u32 0, .slice none 0 0, .int .u32 0] 40 (0, 0)) (bkS BK158.out) NB158_0.out (by simp)); have n2_ := aM (KeepBut.blk hk (g' := gb159) (o := .cells #[.int .u32 t164, .int .u32 t173, u160002, .int .u32 t182] 40 (0, 0)) (bkS BK159.out) NB159_0.out (by simp)); have n3_ := aM (KeepBut.trans (by repeat (first | (with_reducible first | exact HK.out | apply KeepBut.set_ | apply keep_drewN | apply keep_drew | apply keep_alloc | refine keep_far ?_ GW158.out _ | refine keep_far ?_ GW159.out _) | exact HK.out)) hk (.inl rfl)); have n4_ := aM (hb); have n5_ := aM (hi); clear HO_160002; clear BK158; clear BK159; clear HK; clear HB; clear HI0; have HO_160002 := n0_; have BK158 := n1_; have BK159 := n2_; have HK := n3_; have HB := n4_; have HI0 := n5_; clear n0_ n1_ n2_ n3_ n4_ n5_; (try clear hb); (try clear hb2); (try clear hk); (try clear hi); obtain ⟨HGz38, hgz38⟩ := HI0.out; have hcz38_0 := cellS65_0 HGz38; have hcz38_1 := cellS65_1 HGz38; have hcz38_2 := cellS65_2 HGz38; have hfz38_0 := blk_frozen HGz38 0; have hfz38_1 := blk_frozen HGz38 1; have hfz38_2 := blk_frozen HGz38 2; clear HGz38 hgz38))
     have n0_ : Aside0 (Kd.R k61 61 (w37.setCell ⟨g, 2, none⟩ (.bool t190)) w.heap.size (fun _ => True) u160002 x160002_1) := ⟨by refine rdS ?_; exact Kd.R_mono (Kd.R_far (p := ⟨g, 2, none⟩) (IsS65.apart HI0.out HO_160002.out (by decide)) (fun _ hk => hk.2) (.bool t190)) (fun _ hk => trivial)⟩
     have n1_ : Aside0 ((w37.setCell ⟨g, 2, none⟩ (.bool t190)).heap[gb158]? = some (.cells #[.int .u32 0, .int .u32 0, .slice none 0 0, .int .u32 0] 40 (0, 0))) := ⟨by refine bkS ?_; refine blk_far ?_ NB158_0.out _; refine bkS ?_; exact BK158.out⟩
     have n2_ : Aside0 ((w37.setCell ⟨g, 2, none⟩ (.bool t190)).heap[gb159]? = some (.cells #[.int .u32 t164, .int .u32 t173, u160002, .int .u32 t182] 40 (0, 0))) := ⟨by refine bkS ?_; refine blk_far ?_ NB159_0.out _; refine bkS ?_; exact BK159.out⟩
     have n3_ : Aside0 (IsS65 w0 (w37.setCell ⟨g, 2, none⟩ (.bool t190)) g t188 t189 t190) := ⟨by repeat (first | (with_reducible first | exact HI0.out | apply IsS65.alloc | apply IsS65.drewN | apply IsS65.drew | apply IsS65.set_0 | apply IsS65.set_1 | apply IsS65.set_2 | refine IsS65.far ?_ NB0_158.out _ | refine IsS65.far ?_ NB0_159.out _) | exact HI0.out)⟩
     have n4_ : Aside0 (KeepBut w (w37.setCell ⟨g, 2, none⟩ (.bool t190)) g none) := ⟨by repeat (first | (with_reducible first | exact HK.out | apply KeepBut.set_ | apply keep_drewN | apply keep_drew | apply keep_alloc | refine keep_far ?_ GW158.out _ | refine keep_far ?_ GW159.out _) | exact HK.out)⟩
     have n5_ : Aside0 (Below w0.heap.size w0 (w37.setCell ⟨g, 2, none⟩ (.bool t190))) := ⟨bl3 (IsS65.ge HI0.out) GE158.out GE159.out⟩
     (try clear HO_160002)
     (try clear BK158)
     (try clear BK159)
     (try clear HI0)
     (try clear HK)
     (try clear HB)
     generalize (w37.setCell ⟨g, 2, none⟩ (.bool t190)) = w39 at n0_ n1_ n2_ n3_ n4_ n5_ ⊢
     have HO_160002 := n0_
     have BK158 := n1_
     have BK159 := n2_
     have HI0 := n3_
     have HK := n4_
     have HB := n5_
     clear n0_ n1_ n2_ n3_ n4_ n5_
     have n0_ := aM (Kd.R_drew HO_160002.out)
     have n1_ := aM (blk_drew BK158.out)
     have n2_ := aM (blk_drew BK159.out)
     have n3_ := aM (IsS65.drew HI0.out)
     have n4_ := aM (keep_drew HK.out)
     have n5_ := aM (below_drew1 HB.out)
     clear HO_160002
     clear BK158
     clear BK159
     clear HI0
     clear HK
     clear HB
     have HO_160002 := n0_
     have BK158 := n1_
     have BK159 := n2_
     have HI0 := n3_
     have HK := n4_
     have HB := n5_
     clear n0_ n1_ n2_ n3_ n4_ n5_
     refine start_ (n := 8) (S := fun w' => w'.cell? ⟨gb159, 0, none⟩ = some (.int .u32 t164) ∧ w'.cell? ⟨gb159, 1, none⟩ = some (.int .u32 t173) ∧ w'.cell? ⟨gb159, 2, none⟩ = some (u160002) ∧ w'.cell? ⟨gb159, 3, none⟩ = some (.int .u32 t182)) (ds := [7]) #[false, false, false, false, false, false, false, false] kR rfl rfl ⟨(blk_cell BK159.out 0).trans rfl, (blk_cell BK159.out 1).trans rfl, (blk_cell BK159.out 2).trans rfl, (blk_cell BK159.out 3).trans rfl⟩ (fun hHeld => ?_); refine with_tabW policy_reader_rest.tab13 policy_reader_rest.bits13 (fun HT_ HW_ => ?_)
     generalize w39.drew = w40 at HO_160002 BK158 BK159 HI0 HK HB hHeld ⊢
     refine pure_ (i := 0) (N := some 63) (v := ?_) (a' := ?_) #[true, false, false, false, false, false, false, false] rfl rfl (any_of HT_.out kR) (fun _ _ _ h => h) (Or.inl ⟨by rfl, ?_⟩) ?_ ?_
     rotate_left
     · intro w'
       go_simp
       with_reducible rfl
     rotate_left
     · refine apW ?_
       rfl
     refine pure_ (i := 2) (N := some 65) (v := ?_) (a' := ?_) #[true, false, true, false, false, false, false, false] rfl rfl (any_of HT_.out kR) (fun _ _ _ h => h) (Or.inl ⟨by rfl, ?_⟩) ?_ ?_
     rotate_left
     · intro w'
       go_simp
       with_reducible rfl
     rotate_left
     · refine apW ?_
       rfl
     refine take_ (i := 1) (N := some 64) (v := ?_) (a' := ?_) #[true, true, true, false, false, false, false, false] rfl rfl (take_ofW HT_.out HW_.out kR) (fun _ _ _ h => h) (Or.inl ⟨by rfl, ?_⟩) hHeld ?_ ?_
     rotate_left
     · rintro w' ⟨s0, s1, s2, s3⟩
       go_simp
       with_reducible rfl
     rotate_left
     · refine apW ?_
       rfl
     refine one_ (i := 3) (N := some 66) #[true, true, true, true, false, false, false, false] rfl rfl (one_of HT_.out kR) (by decide) (fun K hK => ?_)
     refine goes_ Try.func61 kR rfl #[.pointer (some ⟨g, 0, none⟩)] (by rfl) rfl rfl mpA ?_
     with_reducible refine (policy_reader_condition.calls g t188 t189 t190 t191 t192 t193 t194 t195 t196 t197 w0 _ ?side1 ?side2 A35.out).mono ?_
     (case side1 => repeat (first | (with_reducible first | exact HI0.out | apply IsS65.alloc | apply IsS65.drewN | apply IsS65.drew | apply IsS65.set_0 | apply IsS65.set_1 | apply IsS65.set_2 | refine IsS65.far ?_ NB0_158.out _ | refine IsS65.far ?_ NB0_159.out _) | exact HI0.out))
     (case side2 => exact bl3 (IsS65.ge HI0.out) GE158.out GE159.out)
     rintro e w41 ⟨rfl, hi, hb, hk⟩
     refine ⟨_, rfl, ?_⟩
     have n0_ := aM (Kd.R_mono (Kd.R_keep (IsS65.apart (show IsS65 w0 _ g t188 t189 t190 from by repeat (first | (with_reducible first | exact HI0.out | apply IsS65.alloc | apply IsS65.drewN | apply IsS65.drew | apply IsS65.set_0 | apply IsS65.set_1 | apply IsS65.set_2 | refine IsS65.far ?_ NB0_158.out _ | refine IsS65.far ?_ NB0_159.out _) | exact HI0.out)) (rdS HO_160002.out) (by decide)) hk (fun _ h => h.2)) (fun _ h => h.1))
     have n1_ := aM (KeepBut.blk hk (g' := gb158) (o := .cells #[.int .u32 0, .int .u32 0, .slice none 0 0, .int .u32 0] 40 (0, 0)) (bkS BK158.out) NB158_0.out (by simp))
     have n2_ := aM (KeepBut.blk hk (g' := gb159) (o := .cells #[.int .u32 t164, .int .u32 t173, u160002, .int .u32 t182] 40 (0, 0)) (bkS BK159.out) NB159_0.out (by simp))
     have n3_ := aM (KeepBut.trans (by repeat (first | (with_reducible first | exact HK.out | apply KeepBut.set_ | apply keep_drewN | apply keep_drew | apply keep_alloc | refine keep_far ?_ GW158.out _ | refine keep_far ?_ GW159.out _) | exact HK.out)) hk (.inl rfl))
     have n4_ := aM (hb)
     have n5_ := aM (hi)
     clear HO_160002
     clear BK158
     clear BK159
     clear HK
     clear HB
     clear HI0
     have HO_160002 := n0_
     have BK158 := n1_
     have BK159 := n2_
     have HK := n3_
     have HB := n4_
     have HI0 := n5_
     clear n0_ n1_ n2_ n3_ n4_ n5_
     (try clear hb)
     (try clear hb2)
     (try clear hk)
     (try clear hi)
     refine hK.out _ _ ⟨(blk_cell BK159.out 0).trans rfl, (blk_cell BK159.out 1).trans rfl, (blk_cell BK159.out 2).trans rfl, (blk_cell BK159.out 3).trans rfl⟩ (fun hHeld => ?_)
     clear hK K
     refine norm_ (a' := ?_) ?_ ?_
     rotate_left
     · show Act.put _ (some 66) _ = _
       refine apW ?_
       rfl
     refine one_ (i := 4) (N := some 67) #[true, true, true, true, true, false, false, false] rfl rfl (one_of HT_.out kR) (by decide) (fun K hK => ?_)
     refine value_ (w1 := ?_) (v := ?_) (by rfl) rfl ?_ ?_
     rotate_left 2
     · go_simp
       constructor
       · rfl
       · rfl
     refine hK.out _ _ ⟨(blk_cell (blk_alloc BK159.out _) 0).trans rfl, (blk_cell (blk_alloc BK159.out _) 1).trans rfl, (blk_cell (blk_alloc BK159.out _) 2).trans rfl, (blk_cell (blk_alloc BK159.out _) 3).trans rfl⟩ (fun hHeld => ?_)
     clear hK K
     refine norm_ (a' := ?_) ?_ ?_
     rotate_left
     · show Act.put _ (some 67) _ = _
       refine apW ?_
       rfl
     refine one_ (i := 5) (N := some 68) #[true, true, true, true, true, true, false, false] rfl rfl (one_of HT_.out kR) (by decide) (fun K hK => ?_)
     refine Kd.R_append_step k61 w.heap.size (by rfl) (.tmp 64) (.tmp 67) 38 61 (.agg #[(.int .i64 0), (.int .i64 0), (.int .u64 0), (.int .u64 0)]) 32 rfl Try.underlying38 info61 rfl (by decide) (by omega) u160002 x160002_1 (⟨t191, t192, t193, t194⟩ : S61) [.int .i64 t191, .int .i64 t192, .int .u64 t193, .int .u64 t194] (fun _ => True) (fun _ => False) rfl rfl ?aP (fun _ hk => hk.elim) ?aF ?aO (Below.refl _ _) ?aS ?aL ?_
     (case aP => exact k61_mkM _ _ _ (⟨t191, t192, t193, t194⟩ : S61))
     (case aF => exact (fun _ _ => trivial))
     (case aO => exact (rdS HO_160002.out))
     (case aS => exact (keep_size (w := w) (g := g) (row := none) (by repeat (first | (with_reducible first | exact HK.out | apply KeepBut.set_ | apply keep_drewN | apply keep_drew | apply keep_alloc | refine keep_far ?_ GW158.out _ | refine keep_far ?_ GW159.out _) | exact HK.out))))
     (case aL => have := LMc36.out; omega)
     intro v199 w42 ho hb hg hat
     rw [← Ny198.out] at ho
     have n0_ := aM (blk_grown (g := gb158) (o := .cells #[.int .u32 0, .int .u32 0, .slice none 0 0, .int .u32 0] 40 (0, 0)) (bkS BK158.out) hg (Kd.R_ne HO_160002.out BK158.out (by decide)))
     have n1_ := aM (blk_grown (g := gb159) (o := .cells #[.int .u32 t164, .int .u32 t173, u160002, .int .u32 t182] 40 (0, 0)) (bkS BK159.out) hg (Kd.R_ne HO_160002.out BK159.out (by decide)))
     have n2_ := aM (IsS65.grown (by repeat (first | (with_reducible first | exact HI0.out | apply IsS65.alloc | apply IsS65.drewN | apply IsS65.drew | apply IsS65.set_0 | apply IsS65.set_1 | apply IsS65.set_2 | refine IsS65.far ?_ NB0_158.out _ | refine IsS65.far ?_ NB0_159.out _) | exact HI0.out)) hg (IsS65.own_ne HI0.out HO_160002.out (by decide)))
     have n3_ := aM (below_weaken (bl3 (IsS65.ge HI0.out) GE158.out GE159.out) HL.out hb)
     have n4_ := aM (KeepBut.trans (by repeat (first | (with_reducible first | exact HK.out | apply KeepBut.set_ | apply keep_drewN | apply keep_drew | apply keep_alloc | refine keep_far ?_ GW158.out _ | refine keep_far ?_ GW159.out _) | exact HK.out)) (KeepBut.of_grown hg g) (Kd.R_base2 HO_160002.out))
     have n5_ := aM (ho)
     clear BK158
     clear BK159
     clear HI0
     clear HB
     clear HK
     clear HO_160002
     have BK158 := n0_
     have BK159 := n1_
     have HI0 := n2_
     have HB := n3_
     have HK := n4_
     have HO200 := n5_
     clear n0_ n1_ n2_ n3_ n4_ n5_
     clear ho hb hg hat
     obtain ⟨Ao43, co43, eo43⟩ := Kd.R_slice HO200.out
     (first | subst eo43 | (injection eo43 with f1_ f2_ f3_; have f4_ := f1_.symm; have f5_ := f3_.symm; clear f1_ f2_ f3_; subst f4_; subst f5_))
     refine hK.out _ _ ⟨(blk_cell BK159.out 0).trans rfl, (blk_cell BK159.out 1).trans rfl, (blk_cell BK159.out 2).trans rfl, (blk_cell BK159.out 3).trans rfl⟩ (fun hHeld => ?_)
     clear hK K
     refine norm_ (a' := ?_) ?_ ?_
     rotate_left
     · show Act.put _ (some 68) _ = _
       refine apW ?_
       rfl
     refine pure_ (i := 6) (N := some 69) (v := ?_) (a' := ?_) #[true, true, true, true, true, true, true, false] rfl rfl (any_of HT_.out kR) (fun _ _ _ h => h) (Or.inl ⟨by rfl, ?_⟩) ?_ ?_
     rotate_left
     · intro w'
       go_simp
       with_reducible rfl
     rotate_left
     · refine apW ?_
       rfl
     refine last_ (i := 7) (N := none) #[true, true, true, true, true, true, true, true] rfl rfl (one_of HT_.out kR) (by decide) (fun K hK => ?_)
     have hs44 : w42.cell? ⟨gb159, 2, none⟩ = some (u160002) := (blk_cell BK159.out 2).trans rfl
     have hfs44 := blk_frozen BK159.out 2
     have hns44_0 := NB158_159.out
     have hms44_0 := NB159_158.out
     refine skip_ (w1 := ?_) (by rfl) rfl ?_ ?_
     rotate_left
     · go_simp
       rfl
     refine hK.out _ _ ?_
     clear hK K
     refine done_ (done_of HT_.out kR) ?_
     try go_wp2
     go_roundg kj27
     case measure => have := HK1.out; have := HJ27.out; omega
     case rel => exact ⟨((⟨#[97, 110, 100]⟩ : ByteArray)), (t195), (t196), (t197), (y198), (.slice Ao43 y198.length co43), (by first | rfl | (simp; done) | (simp [*]; done)), H', ⟨by have := HK1.out; have := HJ27.out; omega⟩, ⟨by refine rdS ?_; exact Kd.R_mono (Kd.R_far (p := ⟨gb159, 2, none⟩) (Kd.R_types HO200.out BK159.out (by decide)) (fun _ hk => hk.2) (.slice Ao43 y198.length co43)) (fun _ hk => trivial)⟩, ⟨by refine bkS ?_; refine blk_far ?_ NB158_159.out _; refine bkS ?_; exact BK158.out⟩, ⟨by refine bkS ?_; refine blk_put (cs := #[.int .u32 t164, .int .u32 t173, u160002, .int .u32 t182]) ?_ 2 _ rfl; refine bkS ?_; exact BK159.out⟩, ⟨by repeat (first | (with_reducible first | exact HI0.out | apply IsS65.alloc | apply IsS65.drewN | apply IsS65.drew | apply IsS65.set_0 | apply IsS65.set_1 | apply IsS65.set_2 | refine IsS65.far ?_ NB0_158.out _ | refine IsS65.far ?_ NB0_159.out _) | exact HI0.out)⟩, ⟨by repeat (first | (with_reducible first | exact HK.out | apply KeepBut.set_ | apply keep_drewN | apply keep_drew | apply keep_alloc | refine keep_far ?_ GW158.out _ | refine keep_far ?_ GW159.out _) | exact HK.out)⟩, ⟨bl3 (IsS65.ge HI0.out) GE158.out GE159.out⟩⟩
end Go.Proofs.Ytekpbgmmogpbdaa.P
set_option maxRecDepth 100000
namespace Go.Proofs.Ytekpbgmmogpbdaa.H
open Go.RowKit Go.Proofs.YtekpbgmmogpbdaaW.PrintWords
def spl (c : UInt8) : List UInt8 → List (List UInt8)
 | [] => [[]]
 | x :: l => if x = c then [] :: spl c l else match spl c l with
  | a :: r => (x :: a) :: r
  | [] => [[x]]
theorem spl_ne (c : UInt8) (l : List UInt8) : spl c l ≠ [] := by
 cases l with
 | nil => simp [spl]
 | cons x l => simp only [spl]; split; simp; split <;> simp
theorem spl_none (c : UInt8) (l : List UInt8) (h : c ∉ l) : spl c l = [l] := by
 induction l with
 | nil => rfl
 | cons x l ih =>
  have h1 : ¬ x = c := fun e => h (by simp [e])
  have := ih (fun e => h (by simp [e]))
  simp [spl, h1, this]
theorem spl_cons (c : UInt8) (A R : List UInt8) (h : c ∉ A) : spl c (A ++ c :: R) = A :: spl c R := by
 induction A with
 | nil => simp [spl]
 | cons x A ih =>
  have h1 : ¬ x = c := fun e => h (by simp [e])
  have := ih (fun e => h (by simp [e]))
  simp [spl, h1, this]
theorem mem_split (c : UInt8) (l : List UInt8) : c ∉ l ∨ ∃ A R, l = A ++ c :: R ∧ c ∉ A := by
 induction l with
 | nil => left; simp
 | cons x l ih =>
  by_cases e : x = c
  · exact .inr ⟨[], l, by simp [e], by simp⟩
  rcases ih with h | ⟨A, R, h1, h2⟩
  · exact .inl (by simp [Ne.symm e, h])
  · exact .inr ⟨x :: A, R, by simp [h1], by simp [Ne.symm e, h2]⟩
theorem cutL_app (A R : List UInt8) (h : (32 : UInt8) ∉ A) : cutL (A ++ 32 :: R) = (A, R) := by
 induction A with
 | nil => simp [cutL]
 | cons x A ih =>
  have h1 : ¬ x = 32 := fun e => h (by simp [e])
  have := ih (fun e => h (by simp [e]))
  simp [cutL, h1, this]
def RdS (s : ByteArray) (e : Bool) (ws : List (List UInt8)) : Prop := (e = true ∧ ws = []) ∨ (e = false ∧ ws = spl 32 s.data.toList)
theorem data_of (l : List UInt8) : (ofBytes l).data.toList = l := by simp [ofBytes]
theorem size_of (l : List UInt8) : (ofBytes l).size = l.length := by simp [ofBytes, ByteArray.size]
theorem size_list (s : ByteArray) : s.size = s.data.toList.length := by simp
theorem RdS.end_iff {s : ByteArray} {e : Bool} {ws : List (List UInt8)} (h : RdS s e ws) : e = true ↔ ws = [] := by
 rcases h with ⟨h1, h2⟩ | ⟨h1, h2⟩
 · simp [h1, h2]
 · simp [h1, h2, spl_ne]
theorem word_ev (s : ByteArray) (e b : Bool) (ws : List (List UInt8)) (h : RdS s e ws) (hs : s.size ≤ 100000) :
 ∃ w s' e' b', policy_reader_word.f s e b = some (w, s', e', b') ∧ w.size ≤ 100000 ∧ s'.size ≤ 100000 ∧ RdS s' e' ws.tail ∧ w.data.toList = ws.headD [] ∧ b' = (b || ws.isEmpty) := by
 unfold policy_reader_word.f
 rw [if_pos (by omega)]
 rcases h with ⟨h1, h2⟩ | ⟨h1, h2⟩
 · subst h1 h2
   exact ⟨⟨#[]⟩, s, true, true, by simp [wordF], by simp [ByteArray.size], hs, .inl ⟨rfl, rfl⟩, rfl, by simp⟩
 · subst h1
   rcases mem_split 32 s.data.toList with hm | ⟨A, R, hl, hA⟩
   · rw [spl_none _ _ hm] at h2
     subst h2
     exact ⟨s, s, true, b, by simp [wordF, hm], hs, hs, .inl ⟨rfl, rfl⟩, by simp, by simp⟩
   · have hz : A.length + R.length + 1 = s.size := by rw [size_list, hl]; simp; omega
     rw [hl, spl_cons _ _ _ hA] at h2
     subst h2
     refine ⟨ofBytes A, ofBytes R, false, b, ?_, by rw [size_of]; omega, by rw [size_of]; omega, .inr ⟨rfl, by rw [data_of]; rfl⟩, by simp [data_of], by simp⟩
     have hm : (32 : UInt8) ∈ s.data.toList := by rw [hl]; simp
     unfold wordF
     rw [if_neg (by decide), if_pos hm, hl, cutL_app _ _ hA]
def joinC (a b c d : List UInt8) : List UInt8 := a ++ 32 :: (b ++ 32 :: (c ++ 32 :: d))
def condW : List (List UInt8) → Option (Nat × Nat × Nat × Nat)
 | a :: b :: c :: d :: _ => condParse (joinC a b c d)
 | _ => none
def S61of (x : Nat × Nat × Nat × Nat) : P.S61 := ⟨(x.1 : Int), (x.2.1 : Int), (x.2.2.1 : Int), (x.2.2.2 : Int)⟩
theorem ba_add (a b : ByteArray) : (a ++ b).data.toList = a.data.toList ++ b.data.toList := by simp [ByteArray.data_append]
theorem must_ev (s : ByteArray) (e b : Bool) (x : Int) : P.policy_reader_must.f s e b x = some (s, e, b || (x != 0)) := by
 unfold P.policy_reader_must.f
 cases b <;> simp
theorem condition_ev (s : ByteArray) (e b : Bool) (ws : List (List UInt8)) (h : RdS s e ws) (hs : s.size ≤ 100000) :
 ∃ x0 x1 x2 x3 s' e' b', P.policy_reader_condition.f s e b = some (x0, x1, x2, x3, s', e', b') ∧ s'.size ≤ 100000 ∧ RdS s' e' (ws.drop 4) ∧
  (b = true → b' = true) ∧ (b = false → match condW ws with | some x => b' = false ∧ (⟨x0, x1, x2, x3⟩ : P.S61) = S61of x | none => b' = true) := by
 obtain ⟨w1, s1, e1, b1, h1, z1, y1, q1, d1, g1⟩ := word_ev s e b ws h hs
 obtain ⟨w2, s2, e2, b2, h2, z2, y2, q2, d2, g2⟩ := word_ev s1 e1 b1 _ q1 y1
 obtain ⟨w3, s3, e3, b3, h3, z3, y3, q3, d3, g3⟩ := word_ev s2 e2 b2 _ q2 y2
 obtain ⟨w4, s4, e4, b4, h4, z4, y4, q4, d4, g4⟩ := word_ev s3 e3 b3 _ q3 y3
 have hz1 : (⟨#[32]⟩ : ByteArray).size = 1 := rfl
 unfold P.policy_reader_condition.f
 rw [h1]
 simp only [Option.bind_some]
 rw [if_pos (by omega), h2]
 simp only [Option.bind_some]
 rw [if_pos (by simp only [ByteArray.size_append]; omega), if_pos (by simp only [ByteArray.size_append]; omega), h3]
 simp only [Option.bind_some]
 rw [if_pos (by simp only [ByteArray.size_append]; omega), if_pos (by simp only [ByteArray.size_append]; omega), h4]
 simp only [Option.bind_some]
 rw [if_pos (by simp only [ByteArray.size_append]; omega)]
 obtain ⟨t, ht⟩ : ∃ t, w1 ++ (⟨#[32]⟩ : ByteArray) ++ w2 ++ ⟨#[32]⟩ ++ w3 ++ ⟨#[32]⟩ ++ w4 = t := ⟨_, rfl⟩
 rw [ht]
 have hd : t.data.toList = joinC w1.data.toList w2.data.toList w3.data.toList w4.data.toList := by
  rw [← ht]; simp [ba_add, joinC]
 have hsz : t.size ≤ 140737488351232 := by rw [← ht]; simp only [ByteArray.size_append]; omega
 unfold cond_Parse.f
 rw [if_pos hsz]
 simp only [Option.bind_some, must_ev]
 refine ⟨_, _, _, _, _, _, _, rfl, y4, ?_, ?_, ?_⟩
 · have : ws.drop 4 = ws.tail.tail.tail.tail := by
    rcases ws with _ | ⟨_, _ | ⟨_, _ | ⟨_, _ | _⟩⟩⟩ <;> rfl
   rw [this]; exact q4
 · intro hb; subst hb; simp [g4, g3, g2, g1]
 · intro hb
   subst hb
   rcases ws with _ | ⟨a, _ | ⟨b, _ | ⟨c, _ | ⟨d, ws⟩⟩⟩⟩
   · simp [condW, g4, g3, g2, g1]
   · simp [condW, g4, g3, g2, g1]
   · simp [condW, g4, g3, g2, g1]
   · simp [condW, g4, g3, g2, g1]
   · have e1 : w1.data.toList = a := d1
     have e2 : w2.data.toList = b := d2
     have e3 : w3.data.toList = c := d3
     have e4 : w4.data.toList = d := d4
     have e5 : condW (a :: b :: c :: d :: ws) = condParse t.data.toList := by rw [hd, e1, e2, e3, e4]; rfl
     have e6 : b4 = false := by simp [g4, g3, g2, g1]
     rw [e5, e6]
     cases condParse t.data.toList with
     | none => simp [parseI]
     | some x => obtain ⟨p, q, m, v⟩ := x; simp [parseI, S61of]
def condsV : List UInt8 → List (List UInt8) → Option (List P.S61)
 | _, [] => some []
 | j, w :: a :: b :: c :: d :: ws => if w = j then match condParse (joinC a b c d) with
  | some x => (condsV [97, 110, 100] ws).map (S61of x :: ·)
  | none => none
  else none
 | _, _ :: _ => none
def ruleV : List (List UInt8) → Option P.S40
 | m :: c :: a :: ws => if (readOf ML (ofBytes m)).2 = 0 ∧ (readOf (callsOf (readOf ML (ofBytes m)).1) (ofBytes c)).2 = 0 ∧ (readAct (ofBytes a)).2 = 0 then
  match condsV [105, 102] ws with
  | some cs => if cs.length ≤ 4 then some ⟨(readOf ML (ofBytes m)).1, (readOf (callsOf (readOf ML (ofBytes m)).1) (ofBytes c)).1, cs, (readAct (ofBytes a)).1⟩ else none
  | none => none
  else none
 | _ => none
theorem ba_same {a b : ByteArray} : a.toList = b.toList ↔ a.data.toList = b.data.toList := by rw [ByteArray.toList_eq, ByteArray.toList_eq]
theorem rest_l0_ev (x0 x1 x3 : Int) : ∀ (n : Nat) (ws : List (List UInt8)) (j s : ByteArray) (e : Bool) (L : List P.S61), ws.length ≤ n → RdS s e ws → s.size ≤ 100000 → L.length + n < 4398046511104 →
 ∃ k y2 s' e' b', P.policy_reader_rest.l0 k j s e false x0 x1 L x3 = some (x0, x1, y2, x3, s', e', b') ∧
  (match condsV j.data.toList ws with | some cs => if (L ++ cs).length ≤ 4 then b' = false ∧ y2 = L ++ cs else b' = true | none => b' = true) := by
 intro n
 induction n with
 | zero =>
  intro ws j s e L hn hR hs hL
  obtain rfl : ws = [] := List.eq_nil_of_length_eq_zero (by omega)
  have he := hR.end_iff.2 rfl
  subst he
  refine ⟨2, L, s, true, decide ((L.length : Int) > 4), by simp [P.policy_reader_rest.l0, P.policy_reader_rest.j1], ?_⟩
  simp only [condsV, List.append_nil]
  split
  · exact ⟨by simp; omega, by trivial⟩
  · simp; omega
 | succ n ih =>
  intro ws j s e L hn hR hs hL
  by_cases hw : ws = []
  · subst hw
    have he := hR.end_iff.2 rfl
    subst he
    refine ⟨2, L, s, true, decide ((L.length : Int) > 4), by simp [P.policy_reader_rest.l0, P.policy_reader_rest.j1], ?_⟩
    simp only [condsV, List.append_nil]
    split
    · exact ⟨by simp; omega, by trivial⟩
    · simp; omega
  have he : e = false := by cases e with
   | false => rfl
   | true => exact absurd (hR.end_iff.1 rfl) hw
  subst he
  obtain ⟨w1, s1, e1, b1, h1, z1, y1, q1, d1, g1⟩ := word_ev s false false ws hR hs
  have g1' : b1 = false := by rw [g1]; cases ws; exact absurd rfl hw; rfl
  subst g1'
  obtain ⟨w, ws', rfl⟩ : ∃ w ws', ws = w :: ws' := by cases ws with
   | nil => exact absurd rfl hw
   | cons w ws' => exact ⟨w, ws', rfl⟩
  simp only [List.headD_cons, List.tail_cons] at d1 q1
  by_cases hj : w = j.data.toList
  rotate_left
  · have hj' : ¬ w1.toList = j.toList := by rw [ba_same, d1]; exact hj
    obtain ⟨c0, c1, c2, c3, s2, e2, b2, h2, y2, q2, g2, _⟩ := condition_ev s1 e1 true ws' q1 y1
    obtain rfl := g2 rfl
    have hcv : condsV j.data.toList (w :: ws') = none := by
     rcases ws' with _ | ⟨a, _ | ⟨b, _ | ⟨c, _ | ⟨d, ws2⟩⟩⟩⟩ <;> simp [condsV, hj]
    cases e2 with
    | true =>
     refine ⟨4, _, s2, true, true, by simp [P.policy_reader_rest.l0, P.policy_reader_rest.j1, h1, h2, hj', show L.length < 4398046511104 by omega]; rfl, ?_⟩
     rw [hcv]
    | false =>
     refine ⟨4, _, s2, false, true, by simp [P.policy_reader_rest.l0, P.policy_reader_rest.j1, h1, h2, hj', show L.length < 4398046511104 by omega]; rfl, ?_⟩
     rw [hcv]
  have hj' : w1.toList = j.toList := by rw [ba_same, d1, hj]
  obtain ⟨c0, c1, c2, c3, s2, e2, b2, h2, y2, q2, _, g2⟩ := condition_ev s1 e1 false ws' q1 y1
  have g2 := g2 rfl
  cases hc : condW ws' with
  | none =>
   rw [hc] at g2
   obtain rfl : b2 = true := g2
   have hcv : condsV j.data.toList (w :: ws') = none := by
    rcases ws' with _ | ⟨a, _ | ⟨b, _ | ⟨c, _ | ⟨d, ws2⟩⟩⟩⟩ <;> try (simp [condsV]; done)
    simp only [condW] at hc
    simp [condsV, hc]
   cases e2 with
   | true =>
    refine ⟨4, _, s2, true, true, by simp [P.policy_reader_rest.l0, P.policy_reader_rest.j1, h1, h2, hj', show L.length < 4398046511104 by omega]; rfl, ?_⟩
    rw [hcv]
   | false =>
    refine ⟨4, _, s2, false, true, by simp [P.policy_reader_rest.l0, P.policy_reader_rest.j1, h1, h2, hj', show L.length < 4398046511104 by omega]; rfl, ?_⟩
    rw [hcv]
  | some x =>
   rw [hc] at g2
   obtain ⟨rfl, g3⟩ := g2
   rcases ws' with _ | ⟨a, _ | ⟨b, _ | ⟨c, _ | ⟨d, ws2⟩⟩⟩⟩ <;> try (simp [condW] at hc; done)
   simp only [condW] at hc
   have hn' : ws2.length ≤ n := by simp at hn; omega
   obtain ⟨k, yy, s3, e3, b3, h3, h4⟩ := ih ws2 (⟨#[97, 110, 100]⟩ : ByteArray) s2 e2 (L ++ [(⟨c0, c1, c2, c3⟩ : P.S61)]) hn' q2 y2 (by simp; omega)
   refine ⟨k + 2, yy, s3, e3, b3, ?_, ?_⟩
   · simp only [P.policy_reader_rest.l0, P.policy_reader_rest.j1, h1, h2, hj', Option.bind_some, Bool.not_false, if_true, if_false, Bool.false_eq_true]
     rw [if_pos (by omega)]; exact h3
   · have e0 : (⟨#[97, 110, 100]⟩ : ByteArray).data.toList = [97, 110, 100] := rfl
     rw [e0] at h4
     simp only [condsV, hj, if_true, hc]
     cases hv : condsV [97, 110, 100] ws2 with
     | none => rw [hv] at h4; simpa using h4
     | some cs => rw [hv] at h4; rw [g3] at h4; simpa using h4
theorem rest_ev (s : ByteArray) (e : Bool) (ws : List (List UInt8)) (hR : RdS s e ws) (hs : s.size ≤ 100000) :
 ∃ k x0 x1 x2 x3 s' e' b', P.policy_reader_rest.f k s e false = some (x0, x1, x2, x3, s', e', b') ∧
  (match ruleV ws with | some x => b' = false ∧ (⟨x0, x1, x2, x3⟩ : P.S40) = x | none => b' = true) := by
 obtain ⟨w1, s1, e1, b1, h1, z1, y1, q1, d1, g1⟩ := word_ev s e false ws hR hs
 have W2 := fun b => word_ev s1 e1 b _ q1 y1
 obtain ⟨w2, s2, e2, b2, h2, z2, y2, q2, d2, g2⟩ := W2 (b1 || ((readOf ML w1).2 != 0))
 obtain ⟨w3, s3, e3, b3, h3, z3, y3, q3, d3, g3⟩ := word_ev s2 e2 (b2 || ((readOf (callsOf (readOf ML w1).1) w2).2 != 0)) _ q2 y2
 have hf : ∀ k, P.policy_reader_rest.f k s e false = P.policy_reader_rest.l0 k (⟨#[105, 102]⟩ : ByteArray) s3 e3 (b3 || ((readAct w3).2 != 0)) (readOf ML w1).1 (readOf (callsOf (readOf ML w1).1) w2).1 [] (readAct w3).1 := by
  intro k
  unfold P.policy_reader_rest.f
  simp only [h1, names_ReadMachine.f, must_ev, h2, names_ReadCall.f, h3, names_ReadAction.f, Option.bind_some]
 obtain ⟨bb, hbb⟩ : ∃ bb, (b3 || ((readAct w3).2 != 0)) = bb := ⟨_, rfl⟩
 rw [hbb] at hf
 have hq : RdS s3 e3 (ws.drop 3) := by
  have : ws.drop 3 = ws.tail.tail.tail := by rcases ws with _ | ⟨_, _ | ⟨_, _ | _⟩⟩ <;> rfl
  rw [this]; exact q3
 have ht2 : ws.tail.headD [] = (ws.drop 1).headD [] := by cases ws <;> rfl
 cases hb : bb with
 | true =>
  subst hb
  have hn : ruleV ws = none := by
   rcases ws with _ | ⟨m, _ | ⟨c, _ | ⟨a, ws⟩⟩⟩ <;> try (simp [ruleV]; done)
   have i1 : w1 = ofBytes m := ba_eq (by rw [d1, data_of]; rfl)
   have i2 : w2 = ofBytes c := ba_eq (by rw [d2, data_of]; rfl)
   have i3 : w3 = ofBytes a := ba_eq (by rw [d3, data_of]; rfl)
   have j1 : b1 = false := by rw [g1]; rfl
   rw [i3, g3, g2, j1, i2, i1] at hbb
   simp only [List.tail_cons, List.isEmpty_cons, Bool.or_false, Bool.false_or, Bool.or_eq_true, bne_iff_ne, ne_eq] at hbb
   simp only [ruleV]
   rw [if_neg (fun h => by rcases hbb with (h' | h') | h' <;> simp_all)]
  rw [hn]
  cases e3 with
  | true => exact ⟨2, (readOf ML w1).1, (readOf (callsOf (readOf ML w1).1) w2).1, [], (readAct w3).1, s3, true, true, by rw [hf]; simp [P.policy_reader_rest.l0, P.policy_reader_rest.j1], rfl⟩
  | false => exact ⟨2, (readOf ML w1).1, (readOf (callsOf (readOf ML w1).1) w2).1, [], (readAct w3).1, s3, false, true, by rw [hf]; simp [P.policy_reader_rest.l0, P.policy_reader_rest.j1], rfl⟩
 | false =>
  subst hb
  simp only [Bool.or_eq_false_iff] at hbb
  obtain ⟨hb3, hb3'⟩ := hbb
  rw [g3] at hb3
  simp only [Bool.or_eq_false_iff] at hb3
  obtain ⟨⟨hb2, hb2'⟩, he3⟩ := hb3
  rw [g2] at hb2
  simp only [Bool.or_eq_false_iff] at hb2
  obtain ⟨⟨hb1, hb1'⟩, he2⟩ := hb2
  rcases ws with _ | ⟨m, _ | ⟨c, _ | ⟨a, ws⟩⟩⟩
  · simp at he2
  · simp at he2
  · simp at he3
  have i1 : w1 = ofBytes m := ba_eq (by rw [d1, data_of]; rfl)
  have i2 : w2 = ofBytes c := ba_eq (by rw [d2, data_of]; rfl)
  have i3 : w3 = ofBytes a := ba_eq (by rw [d3, data_of]; rfl)
  rw [i1, i2] at hb2'
  rw [i1] at hb1'
  rw [i3] at hb3'
  rw [i1, i2, i3] at hf
  simp only [bne_eq_false_iff_eq] at hb1' hb2' hb3'
  have hlen : ws.length ≤ 200000 ∨ ¬ ws.length ≤ 200000 := by omega
  have hq' : RdS s3 e3 ws := hq
  have hwl : ws.length ≤ 100001 := by
   rcases hq' with ⟨_, h⟩ | ⟨_, h⟩
   · rw [h]; simp
   · have : ∀ l : List UInt8, (spl 32 l).length ≤ l.length + 1 := by
      intro l
      induction l with
      | nil => simp [spl]
      | cons x l ih =>
       simp only [spl]
       split
       · simp; omega
       · split
         · rename_i h2; rw [h2] at ih; simp at ih ⊢; omega
         · simp
     rw [h]
     have := this s3.data.toList
     rw [← size_list] at this
     omega
  obtain ⟨k, yy, s4, e4, b4, h4, h5⟩ := rest_l0_ev _ _ _ _ ws (⟨#[105, 102]⟩ : ByteArray) s3 e3 [] (Nat.le_refl _) hq' y3 (by simp; omega)
  refine ⟨k, _, _, _, _, _, _, _, by rw [hf]; exact h4, ?_⟩
  have e0 : (⟨#[105, 102]⟩ : ByteArray).data.toList = [105, 102] := rfl
  rw [e0] at h5
  simp only [ruleV]
  rw [if_pos ⟨hb1', hb2', hb3'⟩]
  cases hv : condsV [105, 102] ws with
  | none => rw [hv] at h5; simpa using h5
  | some cs =>
   rw [hv] at h5
   simp only [List.nil_append] at h5
   by_cases hl : cs.length ≤ 4
   · simp only [hl, if_true] at h5 ⊢
     exact ⟨h5.1, by rw [h5.2]⟩
   simp only [hl, if_false] at h5 ⊢
   exact h5
def dfltV : List (List UInt8) → Option Int
 | [a] => if (readAct (ofBytes a)).2 = 0 then some (readAct (ofBytes a)).1 else none
 | _ => none
def lineW (w : List UInt8) (ws : List (List UInt8)) : Option (P.S40 ⊕ Int) :=
 if w = [111, 110] then (ruleV ws).map Sum.inl else if w = [100, 101, 102, 97, 117, 108, 116] then (dfltV ws).map Sum.inr else none
def lineV (l : List UInt8) : Option (P.S40 ⊕ Int) :=
 match spl 32 l with
 | w :: ws => lineW w ws
 | [] => none
theorem lineV_of {l w : List UInt8} {ws : List (List UInt8)} (h : spl 32 l = w :: ws) : lineV l = lineW w ws := by unfold lineV; rw [h]
def plines (n : Nat) : List (List UInt8) → Nat → Bool → List P.S40 → Int → List P.S40 × Int × Int × Int
 | [], _, _, _, _ => ([], 0, 0, 0)
 | l :: ls, at_, done, L, df =>
  if ls = [] then (if l ≠ [] then ([], 0, (at_ : Int), 2) else if done = true then (L, df, 0, 0) else ([], 0, (n : Int), 5))
  else if done = true then ([], 0, (at_ : Int), 2) else match lineV l with
   | none => ([], 0, (at_ : Int), 2)
   | some (.inl x) => if L.length = 64 then ([], 0, (at_ : Int), 3) else plines n ls (at_ + l.length + 1) false (L ++ [x]) df
   | some (.inr v) => plines n ls (at_ + l.length + 1) true L v
def parseV (s : List UInt8) : List P.S40 × Int × Int × Int := if 20000 < s.length then ([], 0, 0, 3) else plines s.length (spl 10 s) 0 false [] 0
end Go.Proofs.Ytekpbgmmogpbdaa.H
set_option maxRecDepth 100000
namespace Go.Proofs.Ytekpbgmmogpbdaa.H
open Go.RowKit
def setIter (W : World) (g : Nat) (s : ByteArray) (p : Nat) : World := { W with heap := W.heap.setIfInBounds g (.stringIter s p) }
theorem next_at {P : Program} (W : World) (g : Nat) (s : ByteArray) (pos : Nat) (ty : TypeId) (hg : W.heap[g]? = some (.stringIter s pos)) (h : pos < s.size) :
 (Instr.next (.pointer (some ⟨g, 0, none⟩)) true ty).run P W = .ok (.tuple #[.bool true, .int .i64 pos, .int .i32 (Utf8.decode s pos).1]) (setIter W g s (pos + (Utf8.decode s pos).2)) := by
 simp only [Instr.next, getObj, setObj, Sem.run_bind, Sem.run, hg, Result.andThen, h, if_true]
 simp [goInt, setIter]
theorem next_at_end {P : Program} (W : World) (g : Nat) (s : ByteArray) (pos : Nat) (ty : TypeId) (hg : W.heap[g]? = some (.stringIter s pos)) (h : ¬ pos < s.size) :
 (Instr.next (.pointer (some ⟨g, 0, none⟩)) true ty).run P W = .ok (.tuple #[.bool false]) W := by
 simp [Instr.next, getObj, Sem.run, hg, h]
theorem setIter_same (W : World) (g : Nat) (s : ByteArray) (p p' : Nat) (hg : W.heap[g]? = some (.stringIter s p)) : (setIter W g s p').heap[g]? = some (.stringIter s p') := by
 have := (Array.getElem?_eq_some_iff.1 hg).1
 simp [setIter, this]
theorem setIter_other (W : World) (g k : Nat) (s : ByteArray) (p : Nat) (h : k ≠ g) : (setIter W g s p).heap[k]? = W.heap[k]? := by
 simp [setIter, Array.getElem?_setIfInBounds, Ne.symm h]
end Go.Proofs.Ytekpbgmmogpbdaa.H
