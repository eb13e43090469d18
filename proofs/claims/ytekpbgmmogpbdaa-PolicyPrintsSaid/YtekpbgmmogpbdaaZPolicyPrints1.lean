/- Lemmas for this claim: Which policies are right, and their texts, is what the document says, or the error is told (up to 100 rules). (Some lines were printed for this seat by the kit's print.sh; wip/pack.py has put the needed ones together.) -/
import Derived.Deep.RegionHeld
import Derived.Laws.RangeString
import Derived.Laws.RangeAny
import Derived.OpenShut
import Derived.LoopTactic
import Derived.Test.YtekpbgmmogpbdaaZPolicyPrints0
set_option linter.unusedVariables false
set_option maxRecDepth 100000
namespace Go.Proofs.Ytekpbgmmogpbdaa.H
open Go.RowKit Go.Proofs.YtekpbgmmogpbdaaW.PrintWords
section
variable {P : Program} {ops : Array Oper} {Q : Exit → Act → World → Prop} {md : Region.Mode} {S S' : World → Prop}
theorem wpAnyH_mono (h : ∀ w, S' w → S w) : ∀ (fuel : Nat) (listed : Array Bool) (a : Act) (w : World), wpAnyH P md ops Q S' fuel listed a w → wpAnyH P md ops Q S fuel listed a w
  | 0, _, _, _, k => k
  | fuel + 1, listed, a, w, k => ⟨k.1, fun i hi => wpOp_mono (fun a' w' h' => ⟨h _ h'.1, wpAnyH_mono h fuel _ a' w' h'.2⟩) (k.2 i hi)⟩
theorem wpAnyH_one (i : Nat) {o : Oper} {fuel : Nat} {listed : Array Bool} {a : Act} {w : World} (S' : World → Prop) (hr : Region.ready md ops listed = [i]) (ho : ops.toList[i]? = some o) (hS : ∀ w, S' w → S w)
    (h : ∀ K' : Act → World → Prop, Shut (∀ a w, S' w → (S' w → wpAnyH P md ops Q S' fuel (listed.setIfInBounds i true) a w) → K' a w) → if Region.wanted o (yielded ops a.tmps) = true then Oper.wp P o a w K' Q else K' (a.put o.dst undef) w) :
    wpAnyH P md ops Q S (fuel + 1) listed a w := by
  refine wpAnyH_all hr (by simp) (fun j hj => ?_)
  obtain rfl : j = i := by simpa using hj
  exact wpOp_step (by simpa using ho) (fun K' hK => h K' (fun a w hs hW => hK a w ⟨hS _ hs, wpAnyH_mono hS _ _ _ _ (hW hs)⟩))
theorem wpAnyH_takeL (i : Nat) {oi : Oper} {v : Value} {fuel : Nat} {listed : Array Bool} {a : Act} {w : World} (hi : ops.toList[i]? = some oi)
    (hs : Region.noSelect ops = true) (hf : Region.free md ops listed i = true) (hr : (Region.ready md ops listed).contains i = true)
    (hQ : ∀ c a w, Q (.panic c) (a.put oi.dst v) w → Q (.panic c) a w) (hS : S w) (hy : YieldsIf P ops S oi v a)
    (h : wpAnyH P md ops Q S fuel (listed.setIfInBounds i true) (a.put oi.dst v) w) : wpAnyH P md ops Q S (fuel + 1) listed a w :=
  wpAnyH_take (by simpa using hi) hs hf hr hQ hy hS h
end
theorem wpAnyH_stronger {P : Program} {md : Region.Mode} {ops : Array Oper} {Q : Exit → Act → World → Prop} {S : World → Prop} (S' : World → Prop) {fuel : Nat} {listed : Array Bool} {a : Act} {w : World} (h : ∀ w, S' w → S w)
    (k : wpAnyH P md ops Q S' fuel listed a w) : wpAnyH P md ops Q S fuel listed a w := wpAnyH_mono h _ _ _ _ k
end Go.Proofs.Ytekpbgmmogpbdaa.H
namespace Go.Proofs.Ytekpbgmmogpbdaa.M
open Go.RowKit Go.Proofs.Ytekpbgmmogpbdaa.H Go.Proofs.YtekpbgmmogpbdaaW.PrintWords Go.Proofs.YtekpbgmmogpbdaaW.PrintLast Go.Proofs.YtekpbgmmogpbdaaW.PrintMore
attribute [local go_sem] max2_int min2_int max_two min_two max_three min_three max_four min_four
set_option linter.unusedVariables false
set_option linter.unusedSimpArgs false
theorem k61_mk (w : World) (x : S61)  : k61.K w x [.int .i64 x.f0, .int .i64 x.f1, .int .u64 x.f2, .int .u64 x.f3] := ⟨[.int .i64 x.f0], [.int .i64 x.f1, .int .u64 x.f2, .int .u64 x.f3], rfl, rfl, ⟨[.int .i64 x.f1], [.int .u64 x.f2, .int .u64 x.f3], rfl, rfl, ⟨[.int .u64 x.f2], [.int .u64 x.f3], rfl, rfl, rfl⟩⟩⟩
theorem k40_mk (w : World) (x : S40) {A2 : Option Addr} {c2 : Nat} (l2 : x.f2.length ≤ c2) (g2 : k61.C w A2 x.f2.length x.f2) : k40.K w x [.int .u32 x.f0, .int .u32 x.f1, .slice A2 x.f2.length c2, .int .u32 x.f3] := ⟨[.int .u32 x.f0], [.int .u32 x.f1, .slice A2 x.f2.length c2, .int .u32 x.f3], rfl, rfl, ⟨[.int .u32 x.f1], [.slice A2 x.f2.length c2, .int .u32 x.f3], rfl, rfl, ⟨[.slice A2 x.f2.length c2], [.int .u32 x.f3], rfl, ⟨A2, c2, rfl, l2, g2⟩, rfl⟩⟩⟩
end Go.Proofs.Ytekpbgmmogpbdaa.M
namespace Go.Proofs.Ytekpbgmmogpbdaa.M
open Go.RowKit Go.Proofs.Ytekpbgmmogpbdaa.H Go.Proofs.YtekpbgmmogpbdaaW.PrintWords Go.Proofs.YtekpbgmmogpbdaaW.PrintLast Go.Proofs.YtekpbgmmogpbdaaW.PrintMore
attribute [local go_sem] max2_int min2_int max_two min_two max_three min_three max_four min_four
set_option linter.unusedVariables false
set_option linter.unusedSimpArgs false
def hurdleref08_Right.f (a0_0 : Int) (a0_1 : Int) (a0_2 : Int) (a0_3 : Int) : Option (Bool) := if a0_0 ≥ 0 then (if a0_0 ≤ 5 then (if a0_1 ≥ 0 then (some (decide (a0_1 ≤ 5))) else (some false)) else (some false)) else (some false)
set_option maxHeartbeats 8000000 in
set_option maxRecDepth 100000 in
theorem hurdleref08_Right.calls (a0_0 : Int) (a0_1 : Int) (a0_2 : Int) (a0_3 : Int) (r : Bool) (w : World) (h : hurdleref08_Right.f a0_0 a0_1 a0_2 a0_3 = some r) :
    Calls Try.prog 34 #[.agg #[.int .i64 a0_0, .int .i64 a0_1, .int .u64 a0_2, .int .u64 a0_3]] w fun e w' => e = .returned (.bool r) ∧ Below w.heap.size w w' := by
  have hu61 := Try.underlying61
  have HB := Aside0.mk (Below.refl w.heap.size w)
  have H : (if a0_0 ≥ 0 then (if a0_0 ≤ 5 then (if a0_1 ≥ 0 then (some (decide (a0_1 ≤ 5))) else (some false)) else (some false)) else (some false)) = some r := h
  clear h
  by_cases c2 : a0_0 ≥ 0
  · rw [if_pos c2] at H
    have c2b0 : decide (0 ≤ a0_0) = true := decide_eq_true c2
    clear c2
    by_cases c3 : a0_0 ≤ 5
    · rw [if_pos c3] at H
      have c3b0 : decide (a0_0 ≤ 5) = true := decide_eq_true c3
      clear c3
      by_cases c4 : a0_1 ≥ 0
      · rw [if_pos c4] at H
        have c4b0 : decide (0 ≤ a0_1) = true := decide_eq_true c4
        clear c4
        obtain rfl := Option.some.inj H
        go_enter Try.func34, Try.ntmps34
        go_wp2_with (first | ((with_reducible refine gate_dst (N := 1) rfl ?_); refine box_event ?hg (N := 1) ?hd (cs := #[.int .i64 a0_0, .int .i64 a0_1, .int .u64 a0_2, .int .u64 a0_3]) (t := 61) ?hr ?_; (case hd => rfl); (case hg => rfl); (case hr => first | (go_simp; done) | (go_simp; rfl)); intro gb101 hg w5 hbox hb; have n0_ := Aside0.mk (below_step (by repeat (first | (with_reducible first | exact HB.out | apply below_alloc | apply pw_below_drewN | apply below_drew1) | exact HB.out)) hb); have n1_ := Aside0.mk (hbox); have n2_ := Aside0.mk ((by rw [hg]; exact (below_size (by repeat (first | (with_reducible first | exact HB.out | apply below_alloc | apply pw_below_drewN | apply below_drew1) | exact HB.out))) : w.heap.size ≤ gb101)); have n3_ := Aside0.mk ((by rw [hg]; exact (below_size (by repeat (first | (with_reducible first | exact HB.out | apply below_alloc | apply pw_below_drewN | apply below_drew1) | exact HB.out))) : w.heap.size ≤ gb101)); clear HB; have HB := n0_; have BK101 := n1_; have GW101 := n2_; have GE101 := n3_; clear n0_ n1_ n2_ n3_; clear hb hbox hg; have hcz6_0 : w5.cell? ⟨gb101, 0, none⟩ = some (.int .i64 a0_0) := (blk_cell BK101.out 0).trans rfl; have hcz6_1 : w5.cell? ⟨gb101, 1, none⟩ = some (.int .i64 a0_1) := (blk_cell BK101.out 1).trans rfl; have hcz6_2 : w5.cell? ⟨gb101, 2, none⟩ = some (.int .u64 a0_2) := (blk_cell BK101.out 2).trans rfl; have hcz6_3 : w5.cell? ⟨gb101, 3, none⟩ = some (.int .u64 a0_3) := (blk_cell BK101.out 3).trans rfl; have hfz6_0 := blk_frozen BK101.out 0; have hfz6_1 := blk_frozen BK101.out 1; have hfz6_2 := blk_frozen BK101.out 2; have hfz6_3 := blk_frozen BK101.out 3))
        go_ret
        exact ⟨by first | rfl | (simp [errW_none, errW_some] <;> rfl) | (simp [*, errW_none, errW_some] <;> rfl), by repeat (first | (with_reducible first | exact HB.out | apply below_alloc | apply pw_below_drewN | apply below_drew1 | refine below_set ?_ GE101.out) | exact HB.out)⟩
      · rw [if_neg c4] at H
        have c4b0 : decide (0 ≤ a0_1) = false := decide_eq_false c4
        clear c4
        obtain rfl := Option.some.inj H
        go_enter Try.func34, Try.ntmps34
        go_wp2_with (first | ((with_reducible refine gate_dst (N := 1) rfl ?_); refine box_event ?hg (N := 1) ?hd (cs := #[.int .i64 a0_0, .int .i64 a0_1, .int .u64 a0_2, .int .u64 a0_3]) (t := 61) ?hr ?_; (case hd => rfl); (case hg => rfl); (case hr => first | (go_simp; done) | (go_simp; rfl)); intro gb101 hg w7 hbox hb; have n0_ := Aside0.mk (below_step (by repeat (first | (with_reducible first | exact HB.out | apply below_alloc | apply pw_below_drewN | apply below_drew1) | exact HB.out)) hb); have n1_ := Aside0.mk (hbox); have n2_ := Aside0.mk ((by rw [hg]; exact (below_size (by repeat (first | (with_reducible first | exact HB.out | apply below_alloc | apply pw_below_drewN | apply below_drew1) | exact HB.out))) : w.heap.size ≤ gb101)); have n3_ := Aside0.mk ((by rw [hg]; exact (below_size (by repeat (first | (with_reducible first | exact HB.out | apply below_alloc | apply pw_below_drewN | apply below_drew1) | exact HB.out))) : w.heap.size ≤ gb101)); clear HB; have HB := n0_; have BK101 := n1_; have GW101 := n2_; have GE101 := n3_; clear n0_ n1_ n2_ n3_; clear hb hbox hg; have hcz8_0 : w7.cell? ⟨gb101, 0, none⟩ = some (.int .i64 a0_0) := (blk_cell BK101.out 0).trans rfl; have hcz8_1 : w7.cell? ⟨gb101, 1, none⟩ = some (.int .i64 a0_1) := (blk_cell BK101.out 1).trans rfl; have hcz8_2 : w7.cell? ⟨gb101, 2, none⟩ = some (.int .u64 a0_2) := (blk_cell BK101.out 2).trans rfl; have hcz8_3 : w7.cell? ⟨gb101, 3, none⟩ = some (.int .u64 a0_3) := (blk_cell BK101.out 3).trans rfl; have hfz8_0 := blk_frozen BK101.out 0; have hfz8_1 := blk_frozen BK101.out 1; have hfz8_2 := blk_frozen BK101.out 2; have hfz8_3 := blk_frozen BK101.out 3))
        go_ret
        exact ⟨by first | rfl | (simp [errW_none, errW_some] <;> rfl) | (simp [*, errW_none, errW_some] <;> rfl), by repeat (first | (with_reducible first | exact HB.out | apply below_alloc | apply pw_below_drewN | apply below_drew1 | refine below_set ?_ GE101.out) | exact HB.out)⟩
    · rw [if_neg c3] at H
      have c3b0 : decide (a0_0 ≤ 5) = false := decide_eq_false c3
      clear c3
      obtain rfl := Option.some.inj H
      go_enter Try.func34, Try.ntmps34
      go_wp2_with (first | ((with_reducible refine gate_dst (N := 1) rfl ?_); refine box_event ?hg (N := 1) ?hd (cs := #[.int .i64 a0_0, .int .i64 a0_1, .int .u64 a0_2, .int .u64 a0_3]) (t := 61) ?hr ?_; (case hd => rfl); (case hg => rfl); (case hr => first | (go_simp; done) | (go_simp; rfl)); intro gb101 hg w9 hbox hb; have n0_ := Aside0.mk (below_step (by repeat (first | (with_reducible first | exact HB.out | apply below_alloc | apply pw_below_drewN | apply below_drew1) | exact HB.out)) hb); have n1_ := Aside0.mk (hbox); have n2_ := Aside0.mk ((by rw [hg]; exact (below_size (by repeat (first | (with_reducible first | exact HB.out | apply below_alloc | apply pw_below_drewN | apply below_drew1) | exact HB.out))) : w.heap.size ≤ gb101)); have n3_ := Aside0.mk ((by rw [hg]; exact (below_size (by repeat (first | (with_reducible first | exact HB.out | apply below_alloc | apply pw_below_drewN | apply below_drew1) | exact HB.out))) : w.heap.size ≤ gb101)); clear HB; have HB := n0_; have BK101 := n1_; have GW101 := n2_; have GE101 := n3_; clear n0_ n1_ n2_ n3_; clear hb hbox hg; have hcz10_0 : w9.cell? ⟨gb101, 0, none⟩ = some (.int .i64 a0_0) := (blk_cell BK101.out 0).trans rfl; have hcz10_1 : w9.cell? ⟨gb101, 1, none⟩ = some (.int .i64 a0_1) := (blk_cell BK101.out 1).trans rfl; have hcz10_2 : w9.cell? ⟨gb101, 2, none⟩ = some (.int .u64 a0_2) := (blk_cell BK101.out 2).trans rfl; have hcz10_3 : w9.cell? ⟨gb101, 3, none⟩ = some (.int .u64 a0_3) := (blk_cell BK101.out 3).trans rfl; have hfz10_0 := blk_frozen BK101.out 0; have hfz10_1 := blk_frozen BK101.out 1; have hfz10_2 := blk_frozen BK101.out 2; have hfz10_3 := blk_frozen BK101.out 3))
      go_ret
      exact ⟨by first | rfl | (simp [errW_none, errW_some] <;> rfl) | (simp [*, errW_none, errW_some] <;> rfl), by repeat (first | (with_reducible first | exact HB.out | apply below_alloc | apply pw_below_drewN | apply below_drew1 | refine below_set ?_ GE101.out) | exact HB.out)⟩
  · rw [if_neg c2] at H
    have c2b0 : decide (0 ≤ a0_0) = false := decide_eq_false c2
    clear c2
    obtain rfl := Option.some.inj H
    go_enter Try.func34, Try.ntmps34
    go_wp2_with (first | ((with_reducible refine gate_dst (N := 1) rfl ?_); refine box_event ?hg (N := 1) ?hd (cs := #[.int .i64 a0_0, .int .i64 a0_1, .int .u64 a0_2, .int .u64 a0_3]) (t := 61) ?hr ?_; (case hd => rfl); (case hg => rfl); (case hr => first | (go_simp; done) | (go_simp; rfl)); intro gb101 hg w11 hbox hb; have n0_ := Aside0.mk (below_step (by repeat (first | (with_reducible first | exact HB.out | apply below_alloc | apply pw_below_drewN | apply below_drew1) | exact HB.out)) hb); have n1_ := Aside0.mk (hbox); have n2_ := Aside0.mk ((by rw [hg]; exact (below_size (by repeat (first | (with_reducible first | exact HB.out | apply below_alloc | apply pw_below_drewN | apply below_drew1) | exact HB.out))) : w.heap.size ≤ gb101)); have n3_ := Aside0.mk ((by rw [hg]; exact (below_size (by repeat (first | (with_reducible first | exact HB.out | apply below_alloc | apply pw_below_drewN | apply below_drew1) | exact HB.out))) : w.heap.size ≤ gb101)); clear HB; have HB := n0_; have BK101 := n1_; have GW101 := n2_; have GE101 := n3_; clear n0_ n1_ n2_ n3_; clear hb hbox hg; have hcz12_0 : w11.cell? ⟨gb101, 0, none⟩ = some (.int .i64 a0_0) := (blk_cell BK101.out 0).trans rfl; have hcz12_1 : w11.cell? ⟨gb101, 1, none⟩ = some (.int .i64 a0_1) := (blk_cell BK101.out 1).trans rfl; have hcz12_2 : w11.cell? ⟨gb101, 2, none⟩ = some (.int .u64 a0_2) := (blk_cell BK101.out 2).trans rfl; have hcz12_3 : w11.cell? ⟨gb101, 3, none⟩ = some (.int .u64 a0_3) := (blk_cell BK101.out 3).trans rfl; have hfz12_0 := blk_frozen BK101.out 0; have hfz12_1 := blk_frozen BK101.out 1; have hfz12_2 := blk_frozen BK101.out 2; have hfz12_3 := blk_frozen BK101.out 3))
    go_ret
    exact ⟨by first | rfl | (simp [errW_none, errW_some] <;> rfl) | (simp [*, errW_none, errW_some] <;> rfl), by repeat (first | (with_reducible first | exact HB.out | apply below_alloc | apply pw_below_drewN | apply below_drew1 | refine below_set ?_ GE101.out) | exact HB.out)⟩
def hurdleref01_digits.f : Nat → Int → Option (ByteArray)
  | 0, _ => none
  | k + 1, a0 => (some (([(IntKind.u64.wrap (48 + (Int.tmod a0 16))) % 256] : List Int) : List Int)).bind fun y102 => (if (Int.tmod a0 16) > 9 then ((some (([(IntKind.u64.wrap (87 + (Int.tmod a0 16))) % 256] : List Int) : List Int)).bind fun y105 => (if a0 < 16 then (some (strOfNums y105)) else ((hurdleref01_digits.f k (IntKind.u64.wrap (Int.tdiv a0 16))).bind fun t108 => (if t108.size + (strOfNums y105).size ≤ 9223372036854775807 then (some (t108 ++ (strOfNums y105))) else (none))))) else (if a0 < 16 then (some (strOfNums y102)) else ((hurdleref01_digits.f k (IntKind.u64.wrap (Int.tdiv a0 16))).bind fun t109 => (if t109.size + (strOfNums y102).size ≤ 9223372036854775807 then (some (t109 ++ (strOfNums y102))) else (none)))))
set_option maxHeartbeats 8000000 in
set_option maxRecDepth 100000 in
theorem hurdleref01_digits.calls (k : Nat) : ∀ (a0 : Int) (r : ByteArray) (w : World) (h : hurdleref01_digits.f k a0 = some r),
    Calls Try.prog 71 #[.int .u64 a0] w fun e w' => e = .returned (.string r) ∧ Below w.heap.size w w' := by
  induction k using Nat.strongRecOn with
  | _ k ih =>
  intro a0 r w h
  cases k with
  | zero => exact absurd h (by simp [hurdleref01_digits.f])
  | succ k =>
  simp only [hurdleref01_digits.f] at h
  have HB := Aside0.mk (Below.refl w.heap.size w)
  have H : ((some (([(IntKind.u64.wrap (48 + (Int.tmod a0 16))) % 256] : List Int) : List Int)).bind fun y102 => (if (Int.tmod a0 16) > 9 then ((some (([(IntKind.u64.wrap (87 + (Int.tmod a0 16))) % 256] : List Int) : List Int)).bind fun y105 => (if a0 < 16 then (some (strOfNums y105)) else ((hurdleref01_digits.f k (IntKind.u64.wrap (Int.tdiv a0 16))).bind fun t108 => (if t108.size + (strOfNums y105).size ≤ 9223372036854775807 then (some (t108 ++ (strOfNums y105))) else (none))))) else (if a0 < 16 then (some (strOfNums y102)) else ((hurdleref01_digits.f k (IntKind.u64.wrap (Int.tdiv a0 16))).bind fun t109 => (if t109.size + (strOfNums y102).size ≤ 9223372036854775807 then (some (t109 ++ (strOfNums y102))) else (none)))))) = some r := h
  clear h
  obtain ⟨y102, hy102⟩ : ∃ y_ : List Int, y_ = (([(IntKind.u64.wrap (48 + (Int.tmod a0 16))) % 256] : List Int)) := ⟨_, rfl⟩
  replace H : (if (Int.tmod a0 16) > 9 then ((some (([(IntKind.u64.wrap (87 + (Int.tmod a0 16))) % 256] : List Int) : List Int)).bind fun y105 => (if a0 < 16 then (some (strOfNums y105)) else ((hurdleref01_digits.f k (IntKind.u64.wrap (Int.tdiv a0 16))).bind fun t108 => (if t108.size + (strOfNums y105).size ≤ 9223372036854775807 then (some (t108 ++ (strOfNums y105))) else (none))))) else (if a0 < 16 then (some (strOfNums y102)) else ((hurdleref01_digits.f k (IntKind.u64.wrap (Int.tdiv a0 16))).bind fun t109 => (if t109.size + (strOfNums y102).size ≤ 9223372036854775807 then (some (t109 ++ (strOfNums y102))) else (none))))) = some r := by first | (rw [hy102]; with_reducible exact H) | (have H2_ := (Option.bind_some _ _).symm.trans H; rw [hy102]; with_reducible exact H2_) | (have H2_ := (Option.bind_some _ _).symm.trans H; with_reducible exact H2_) | with_reducible exact H | (rw [hy102]; exact H) | exact H
  have Ny102 := Aside0.mk hy102
  clear hy102
  by_cases c2 : (Int.tmod a0 16) > 9
  · rw [if_pos c2] at H
    have c2b0 : decide (9 < (Int.tmod a0 16)) = true := decide_eq_true c2
    clear c2
    obtain ⟨y105, hy105⟩ : ∃ y_ : List Int, y_ = (([(IntKind.u64.wrap (87 + (Int.tmod a0 16))) % 256] : List Int)) := ⟨_, rfl⟩
    replace H : (if a0 < 16 then (some (strOfNums y105)) else ((hurdleref01_digits.f k (IntKind.u64.wrap (Int.tdiv a0 16))).bind fun t108 => (if t108.size + (strOfNums y105).size ≤ 9223372036854775807 then (some (t108 ++ (strOfNums y105))) else (none)))) = some r := by first | (rw [hy105]; with_reducible exact H) | (have H2_ := (Option.bind_some _ _).symm.trans H; rw [hy105]; with_reducible exact H2_) | (have H2_ := (Option.bind_some _ _).symm.trans H; with_reducible exact H2_) | with_reducible exact H | (rw [hy105]; exact H) | exact H
    have Ny105 := Aside0.mk hy105
    clear hy105
    by_cases c3 : a0 < 16
    · rw [if_pos c3] at H
      have c3b0 : decide (a0 < 16) = true := decide_eq_true c3
      clear c3
      obtain rfl := Option.some.inj H
      go_enter Try.func71, Try.ntmps71
      go_wp2_with (first | ((with_reducible refine gate_dst (N := 10) rfl ?_); refine Kd.R_lit (Kd.int .u8) _ 5 ?hg (N := 10) ?hd (xs := ([(IntKind.u64.wrap (48 + (Int.tmod a0 16))) % 256] : List Int)) (inner := [.int .u8 ((IntKind.u64.wrap (48 + (Int.tmod a0 16))) % 256)]) (ok := fun _ => True) (okp := fun _ => True) ?hr ?hp (fun _ hk => hk) trivial (Below.refl _ _) (Nat.le_refl _) (by simp) ?_; (case hd => rfl); (case hg => rfl); (case hr => first | (go_simp; done) | (go_simp; rfl)); (case hp => exact (Reps.one (show Kd.M (Kd.int .u8) _ _ _ ((IntKind.u64.wrap (48 + (Int.tmod a0 16))) % 256) [.int .u8 ((IntKind.u64.wrap (48 + (Int.tmod a0 16))) % 256)] from rfl) (Reps.none _ _))); intro v103 w4 ho5 hb hg_ hnew_; clear hg_ hnew_; (first | rw [← Ny102.out] at ho5 | (simp only [Int.reduceToNat] at ho5; rw [← Ny102.out] at ho5)); have n0_ := Aside0.mk (Kd.R_lower ho5 (below_size (by repeat (first | (with_reducible first | exact HB.out | apply below_alloc | apply pw_below_drewN | apply below_drew1) | exact HB.out)))); have n1_ := Aside0.mk (below_step (by repeat (first | (with_reducible first | exact HB.out | apply below_alloc | apply pw_below_drewN | apply below_drew1) | exact HB.out)) hb); clear HB; have HO104 := n0_; have HB := n1_; clear n0_ n1_; clear hb ho5; have hcv6 := own_string (P := Try.prog) Try.underlying101 Try.underlying5 Try.underlying9 (Kd.own_of_R HO104.out)) | ((with_reducible refine gate_dst (N := 17) rfl ?_); refine Kd.R_lit (Kd.int .u8) _ 5 ?hg (N := 17) ?hd (xs := ([(IntKind.u64.wrap (87 + (Int.tmod a0 16))) % 256] : List Int)) (inner := [.int .u8 ((IntKind.u64.wrap (87 + (Int.tmod a0 16))) % 256)]) (ok := fun _ => True) (okp := fun _ => True) ?hr ?hp (fun _ hk => hk) trivial (Below.refl _ _) (Nat.le_refl _) (by simp) ?_; (case hd => rfl); (case hg => rfl); (case hr => first | (go_simp; done) | (go_simp; rfl)); (case hp => exact (Reps.one (show Kd.M (Kd.int .u8) _ _ _ ((IntKind.u64.wrap (87 + (Int.tmod a0 16))) % 256) [.int .u8 ((IntKind.u64.wrap (87 + (Int.tmod a0 16))) % 256)] from rfl) (Reps.none _ _))); intro v106 w7 ho8 hb hg_ hnew_; clear hg_ hnew_; (first | rw [← Ny105.out] at ho8 | (simp only [Int.reduceToNat] at ho8; rw [← Ny105.out] at ho8)); have n0_ := Aside0.mk (Kd.R_elder' (by (with_reducible repeat (first | apply Kd.R_alloc | apply Kd.R_drewN | apply Kd.R_drew)); exact HO104.out) (Kd.R_base ho8) hb); have n1_ := Aside0.mk (Kd.R_lower (Kd.R_new' ho8 (Kd.R_lt (by (with_reducible repeat (first | apply Kd.R_alloc | apply Kd.R_drewN | apply Kd.R_drew)); exact HO104.out))) (below_size (by repeat (first | (with_reducible first | exact HB.out | apply below_alloc | apply pw_below_drewN | apply below_drew1) | exact HB.out)))); have n2_ := Aside0.mk (below_step (by repeat (first | (with_reducible first | exact HB.out | apply below_alloc | apply pw_below_drewN | apply below_drew1) | exact HB.out)) hb); clear HO104; clear HB; have HO104 := n0_; have HO107 := n1_; have HB := n2_; clear n0_ n1_ n2_; clear hb ho8; have hcv9 := own_string (P := Try.prog) Try.underlying101 Try.underlying5 Try.underlying9 (Kd.own_of_R HO107.out)))
      go_ret
      exact ⟨by first | rfl | (simp [errW_none, errW_some] <;> rfl) | (simp [*, errW_none, errW_some] <;> rfl), by repeat (first | (with_reducible first | exact HB.out | apply below_alloc | apply pw_below_drewN | apply below_drew1) | exact HB.out)⟩
    · rw [if_neg c3] at H
      have c3b0 : decide (a0 < 16) = false := decide_eq_false c3
      clear c3
      replace H := Option.bind_eq_some_iff.mp H
      obtain ⟨t108, A100, H⟩ := H
      replace H : (if t108.size + (strOfNums y105).size ≤ 9223372036854775807 then (some (t108 ++ (strOfNums y105))) else (none)) = some r := H
      have A10 := Aside0.mk A100
      clear A100
      by_cases c11 : t108.size + (strOfNums y105).size ≤ 9223372036854775807
      · rw [if_pos c11] at H
        have c11b0 := eq_true c11
        have c11b1 : decide (t108.size + (strOfNums y105).size ≤ 9223372036854775807) = true := decide_eq_true c11
        try have c11b2 : (9223372036854775807 < t108.size + (strOfNums y105).size) = False := eq_false (Nat.not_lt.2 c11)
        obtain rfl := Option.some.inj H
        go_enter Try.func71, Try.ntmps71
        go_wp2_with (first | ((with_reducible refine gate_dst (N := 10) rfl ?_); refine Kd.R_lit (Kd.int .u8) _ 5 ?hg (N := 10) ?hd (xs := ([(IntKind.u64.wrap (48 + (Int.tmod a0 16))) % 256] : List Int)) (inner := [.int .u8 ((IntKind.u64.wrap (48 + (Int.tmod a0 16))) % 256)]) (ok := fun _ => True) (okp := fun _ => True) ?hr ?hp (fun _ hk => hk) trivial (Below.refl _ _) (Nat.le_refl _) (by simp) ?_; (case hd => rfl); (case hg => rfl); (case hr => first | (go_simp; done) | (go_simp; rfl)); (case hp => exact (Reps.one (show Kd.M (Kd.int .u8) _ _ _ ((IntKind.u64.wrap (48 + (Int.tmod a0 16))) % 256) [.int .u8 ((IntKind.u64.wrap (48 + (Int.tmod a0 16))) % 256)] from rfl) (Reps.none _ _))); intro v103 w12 ho13 hb hg_ hnew_; clear hg_ hnew_; (first | rw [← Ny102.out] at ho13 | (simp only [Int.reduceToNat] at ho13; rw [← Ny102.out] at ho13)); have n0_ := Aside0.mk (Kd.R_lower ho13 (below_size (by repeat (first | (with_reducible first | exact HB.out | apply below_alloc | apply pw_below_drewN | apply below_drew1) | exact HB.out)))); have n1_ := Aside0.mk (below_step (by repeat (first | (with_reducible first | exact HB.out | apply below_alloc | apply pw_below_drewN | apply below_drew1) | exact HB.out)) hb); clear HB; have HO104 := n0_; have HB := n1_; clear n0_ n1_; clear hb ho13; have hcv14 := own_string (P := Try.prog) Try.underlying101 Try.underlying5 Try.underlying9 (Kd.own_of_R HO104.out)) | ((with_reducible refine gate_dst (N := 17) rfl ?_); refine Kd.R_lit (Kd.int .u8) _ 5 ?hg (N := 17) ?hd (xs := ([(IntKind.u64.wrap (87 + (Int.tmod a0 16))) % 256] : List Int)) (inner := [.int .u8 ((IntKind.u64.wrap (87 + (Int.tmod a0 16))) % 256)]) (ok := fun _ => True) (okp := fun _ => True) ?hr ?hp (fun _ hk => hk) trivial (Below.refl _ _) (Nat.le_refl _) (by simp) ?_; (case hd => rfl); (case hg => rfl); (case hr => first | (go_simp; done) | (go_simp; rfl)); (case hp => exact (Reps.one (show Kd.M (Kd.int .u8) _ _ _ ((IntKind.u64.wrap (87 + (Int.tmod a0 16))) % 256) [.int .u8 ((IntKind.u64.wrap (87 + (Int.tmod a0 16))) % 256)] from rfl) (Reps.none _ _))); intro v106 w15 ho16 hb hg_ hnew_; clear hg_ hnew_; (first | rw [← Ny105.out] at ho16 | (simp only [Int.reduceToNat] at ho16; rw [← Ny105.out] at ho16)); have n0_ := Aside0.mk (Kd.R_elder' (by (with_reducible repeat (first | apply Kd.R_alloc | apply Kd.R_drewN | apply Kd.R_drew)); exact HO104.out) (Kd.R_base ho16) hb); have n1_ := Aside0.mk (Kd.R_lower (Kd.R_new' ho16 (Kd.R_lt (by (with_reducible repeat (first | apply Kd.R_alloc | apply Kd.R_drewN | apply Kd.R_drew)); exact HO104.out))) (below_size (by repeat (first | (with_reducible first | exact HB.out | apply below_alloc | apply pw_below_drewN | apply below_drew1) | exact HB.out)))); have n2_ := Aside0.mk (below_step (by repeat (first | (with_reducible first | exact HB.out | apply below_alloc | apply pw_below_drewN | apply below_drew1) | exact HB.out)) hb); clear HO104; clear HB; have HO104 := n0_; have HO107 := n1_; have HB := n2_; clear n0_ n1_ n2_; clear hb ho16; have hcv17 := own_string (P := Try.prog) Try.underlying101 Try.underlying5 Try.underlying9 (Kd.own_of_R HO107.out)) | ((with_reducible refine gate_callee (f := 71) rfl ?_); refine goesL_ (some 24) rfl rfl Try.func71 (by kernel_rfl) rfl #[.int .u64 (IntKind.u64.wrap (Int.tdiv a0 16))] rfl (by (try simp only [List.map_toArray, List.map_cons, List.map_nil]); first | done | rfl | (simp only [List.length_drop, List.length_take]; rfl)) ?_; (with_reducible refine (ih k (by omega) (IntKind.u64.wrap (Int.tdiv a0 16)) t108 _ A10.out).mono ?_); rintro e w18 ⟨rfl, hb⟩; refine ⟨_, rfl, ?_⟩; have n0_ := Aside0.mk (Kd.R_below (by (with_reducible repeat (first | apply Kd.R_alloc | apply Kd.R_drewN | apply Kd.R_drew)); exact HO104.out) hb); have n1_ := Aside0.mk (Kd.R_below (by (with_reducible repeat (first | apply Kd.R_alloc | apply Kd.R_drewN | apply Kd.R_drew)); exact HO107.out) hb); have n2_ := Aside0.mk (below_step (by repeat (first | (with_reducible first | exact HB.out | apply below_alloc | apply pw_below_drewN | apply below_drew1) | exact HB.out)) hb); clear HO104; clear HO107; clear HB; have HO104 := n0_; have HO107 := n1_; have HB := n2_; clear n0_ n1_ n2_; (try clear hb); (try clear hb2); (try clear hk); (try clear hi)))
        go_ret
        exact ⟨by first | rfl | (simp [errW_none, errW_some] <;> rfl) | (simp [*, errW_none, errW_some] <;> rfl), by repeat (first | (with_reducible first | exact HB.out | apply below_alloc | apply pw_below_drewN | apply below_drew1) | exact HB.out)⟩
      · rw [if_neg c11] at H
        exact absurd H (by simp)
  · rw [if_neg c2] at H
    have c2b0 : decide (9 < (Int.tmod a0 16)) = false := decide_eq_false c2
    clear c2
    by_cases c19 : a0 < 16
    · rw [if_pos c19] at H
      have c19b0 : decide (a0 < 16) = true := decide_eq_true c19
      clear c19
      obtain rfl := Option.some.inj H
      go_enter Try.func71, Try.ntmps71
      go_wp2_with (first | ((with_reducible refine gate_dst (N := 10) rfl ?_); refine Kd.R_lit (Kd.int .u8) _ 5 ?hg (N := 10) ?hd (xs := ([(IntKind.u64.wrap (48 + (Int.tmod a0 16))) % 256] : List Int)) (inner := [.int .u8 ((IntKind.u64.wrap (48 + (Int.tmod a0 16))) % 256)]) (ok := fun _ => True) (okp := fun _ => True) ?hr ?hp (fun _ hk => hk) trivial (Below.refl _ _) (Nat.le_refl _) (by simp) ?_; (case hd => rfl); (case hg => rfl); (case hr => first | (go_simp; done) | (go_simp; rfl)); (case hp => exact (Reps.one (show Kd.M (Kd.int .u8) _ _ _ ((IntKind.u64.wrap (48 + (Int.tmod a0 16))) % 256) [.int .u8 ((IntKind.u64.wrap (48 + (Int.tmod a0 16))) % 256)] from rfl) (Reps.none _ _))); intro v103 w20 ho21 hb hg_ hnew_; clear hg_ hnew_; (first | rw [← Ny102.out] at ho21 | (simp only [Int.reduceToNat] at ho21; rw [← Ny102.out] at ho21)); have n0_ := Aside0.mk (Kd.R_lower ho21 (below_size (by repeat (first | (with_reducible first | exact HB.out | apply below_alloc | apply pw_below_drewN | apply below_drew1) | exact HB.out)))); have n1_ := Aside0.mk (below_step (by repeat (first | (with_reducible first | exact HB.out | apply below_alloc | apply pw_below_drewN | apply below_drew1) | exact HB.out)) hb); clear HB; have HO104 := n0_; have HB := n1_; clear n0_ n1_; clear hb ho21; have hcv22 := own_string (P := Try.prog) Try.underlying101 Try.underlying5 Try.underlying9 (Kd.own_of_R HO104.out)))
      go_ret
      exact ⟨by first | rfl | (simp [errW_none, errW_some] <;> rfl) | (simp [*, errW_none, errW_some] <;> rfl), by repeat (first | (with_reducible first | exact HB.out | apply below_alloc | apply pw_below_drewN | apply below_drew1) | exact HB.out)⟩
    · rw [if_neg c19] at H
      have c19b0 : decide (a0 < 16) = false := decide_eq_false c19
      clear c19
      replace H := Option.bind_eq_some_iff.mp H
      obtain ⟨t109, A230, H⟩ := H
      replace H : (if t109.size + (strOfNums y102).size ≤ 9223372036854775807 then (some (t109 ++ (strOfNums y102))) else (none)) = some r := H
      have A23 := Aside0.mk A230
      clear A230
      by_cases c24 : t109.size + (strOfNums y102).size ≤ 9223372036854775807
      · rw [if_pos c24] at H
        have c24b0 := eq_true c24
        have c24b1 : decide (t109.size + (strOfNums y102).size ≤ 9223372036854775807) = true := decide_eq_true c24
        try have c24b2 : (9223372036854775807 < t109.size + (strOfNums y102).size) = False := eq_false (Nat.not_lt.2 c24)
        obtain rfl := Option.some.inj H
        go_enter Try.func71, Try.ntmps71
        go_wp2_with (first | ((with_reducible refine gate_dst (N := 10) rfl ?_); refine Kd.R_lit (Kd.int .u8) _ 5 ?hg (N := 10) ?hd (xs := ([(IntKind.u64.wrap (48 + (Int.tmod a0 16))) % 256] : List Int)) (inner := [.int .u8 ((IntKind.u64.wrap (48 + (Int.tmod a0 16))) % 256)]) (ok := fun _ => True) (okp := fun _ => True) ?hr ?hp (fun _ hk => hk) trivial (Below.refl _ _) (Nat.le_refl _) (by simp) ?_; (case hd => rfl); (case hg => rfl); (case hr => first | (go_simp; done) | (go_simp; rfl)); (case hp => exact (Reps.one (show Kd.M (Kd.int .u8) _ _ _ ((IntKind.u64.wrap (48 + (Int.tmod a0 16))) % 256) [.int .u8 ((IntKind.u64.wrap (48 + (Int.tmod a0 16))) % 256)] from rfl) (Reps.none _ _))); intro v103 w25 ho26 hb hg_ hnew_; clear hg_ hnew_; (first | rw [← Ny102.out] at ho26 | (simp only [Int.reduceToNat] at ho26; rw [← Ny102.out] at ho26)); have n0_ := Aside0.mk (Kd.R_lower ho26 (below_size (by repeat (first | (with_reducible first | exact HB.out | apply below_alloc | apply pw_below_drewN | apply below_drew1) | exact HB.out)))); have n1_ := Aside0.mk (below_step (by repeat (first | (with_reducible first | exact HB.out | apply below_alloc | apply pw_below_drewN | apply below_drew1) | exact HB.out)) hb); clear HB; have HO104 := n0_; have HB := n1_; clear n0_ n1_; clear hb ho26; have hcv27 := own_string (P := Try.prog) Try.underlying101 Try.underlying5 Try.underlying9 (Kd.own_of_R HO104.out)) | ((with_reducible refine gate_callee (f := 71) rfl ?_); refine goesL_ (some 24) rfl rfl Try.func71 (by kernel_rfl) rfl #[.int .u64 (IntKind.u64.wrap (Int.tdiv a0 16))] rfl (by (try simp only [List.map_toArray, List.map_cons, List.map_nil]); first | done | rfl | (simp only [List.length_drop, List.length_take]; rfl)) ?_; (with_reducible refine (ih k (by omega) (IntKind.u64.wrap (Int.tdiv a0 16)) t109 _ A23.out).mono ?_); rintro e w28 ⟨rfl, hb⟩; refine ⟨_, rfl, ?_⟩; have n0_ := Aside0.mk (Kd.R_below (by (with_reducible repeat (first | apply Kd.R_alloc | apply Kd.R_drewN | apply Kd.R_drew)); exact HO104.out) hb); have n1_ := Aside0.mk (below_step (by repeat (first | (with_reducible first | exact HB.out | apply below_alloc | apply pw_below_drewN | apply below_drew1) | exact HB.out)) hb); clear HO104; clear HB; have HO104 := n0_; have HB := n1_; clear n0_ n1_; (try clear hb); (try clear hb2); (try clear hk); (try clear hi)))
        go_ret
        exact ⟨by first | rfl | (simp [errW_none, errW_some] <;> rfl) | (simp [*, errW_none, errW_some] <;> rfl), by repeat (first | (with_reducible first | exact HB.out | apply below_alloc | apply pw_below_drewN | apply below_drew1) | exact HB.out)⟩
      · rw [if_neg c24] at H
        exact absurd H (by simp)
def hurdleref01_Text.f (k : Nat) (a0 : Int) : Option (ByteArray) := (hurdleref01_digits.f k a0).bind fun t110 => (if 2 + t110.size ≤ 9223372036854775807 then (some ((⟨#[48, 120]⟩ : ByteArray) ++ t110)) else (none))
set_option maxHeartbeats 8000000 in
set_option maxRecDepth 100000 in
theorem hurdleref01_Text.calls (k : Nat) (a0 : Int) (r : ByteArray) (w : World) (h : hurdleref01_Text.f k a0 = some r) :
    Calls Try.prog 54 #[.int .u64 a0] w fun e w' => e = .returned (.string r) ∧ Below w.heap.size w w' := by
  have HB := Aside0.mk (Below.refl w.heap.size w)
  have H : ((hurdleref01_digits.f k a0).bind fun t110 => (if 2 + t110.size ≤ 9223372036854775807 then (some ((⟨#[48, 120]⟩ : ByteArray) ++ t110)) else (none))) = some r := h
  clear h
  replace H := Option.bind_eq_some_iff.mp H
  obtain ⟨t110, A20, H⟩ := H
  replace H : (if 2 + t110.size ≤ 9223372036854775807 then (some ((⟨#[48, 120]⟩ : ByteArray) ++ t110)) else (none)) = some r := H
  have A2 := Aside0.mk A20
  clear A20
  by_cases c3 : 2 + t110.size ≤ 9223372036854775807
  · rw [if_pos c3] at H
    have c3b0 := eq_true c3
    have c3b1 : decide (2 + t110.size ≤ 9223372036854775807) = true := decide_eq_true c3
    try have c3b2 : (9223372036854775807 < 2 + t110.size) = False := eq_false (Nat.not_lt.2 c3)
    obtain rfl := Option.some.inj H
    go_enter Try.func54, Try.ntmps54
    go_wp2_with (first | ((with_reducible refine gate_callee (f := 71) rfl ?_); refine goesL_ (some 4) rfl rfl Try.func71 (by kernel_rfl) rfl #[.int .u64 a0] rfl (by (try simp only [List.map_toArray, List.map_cons, List.map_nil]); first | done | rfl | (simp only [List.length_drop, List.length_take]; rfl)) ?_; (with_reducible refine (hurdleref01_digits.calls k a0 t110 _ A2.out).mono ?_); rintro e w4 ⟨rfl, hb⟩; refine ⟨_, rfl, ?_⟩; have n0_ := Aside0.mk (below_step (by repeat (first | (with_reducible first | exact HB.out | apply below_alloc | apply pw_below_drewN | apply below_drew1) | exact HB.out)) hb); clear HB; have HB := n0_; clear n0_; (try clear hb); (try clear hb2); (try clear hk); (try clear hi)))
    go_ret
    exact ⟨by first | rfl | (simp [errW_none, errW_some] <;> rfl) | (simp [*, errW_none, errW_some] <;> rfl), by repeat (first | (with_reducible first | exact HB.out | apply below_alloc | apply pw_below_drewN | apply below_drew1) | exact HB.out)⟩
  · rw [if_neg c3] at H
    exact absurd H (by simp)
def hurdlelaw10_Great.l0 : Nat → Int → List (S40) → Int → Option (Bool)
  | 0, _, _, _ => none
  | k + 1, x3, x113000, x113001 => if x3 < (x113000.length : Int) then (if 0 ≤ x3 then (if (((rd_T40 x113000 x3).f2).length : Int) > 20 then (some true) else (hurdlelaw10_Great.l0 k (wrap64 (x3 + 1)) x113000 x113001)) else (none)) else (some (decide ((x113000.length : Int) > 100)))
def hurdlelaw10_Great.f (k : Nat) (l0_0 : List (S40)) (a0_1 : Int) : Option (Bool) := hurdlelaw10_Great.l0 k 0 l0_0 a0_1
set_option maxHeartbeats 8000000 in
set_option maxRecDepth 100000 in
theorem hurdlelaw10_Great.calls (k : Nat) (A0_0 : Option Addr) (c0_0 : Nat) (l0_0 : List (S40)) (a0_1 : Int) (r : Bool) (w : World) (hr0_0 : Kd.C k40 w A0_0 l0_0.length l0_0) (hc0_0 : l0_0.length ≤ c0_0) (h : hurdlelaw10_Great.f k l0_0 a0_1 = some r) :
    Calls Try.prog 14 #[.agg #[.slice A0_0 l0_0.length c0_0, .int .u32 a0_1]] w fun e w' => e = .returned (.bool r) ∧ Below w.heap.size w w' := by
  have hu25 := Try.underlying25
  have HR0_0 := Aside0.mk hr0_0
  have HC0_0 := Aside0.mk hc0_0
  clear hr0_0 hc0_0
  have HB := Aside0.mk (Below.refl w.heap.size w)
  have H : (hurdlelaw10_Great.l0 k 0 l0_0 a0_1) = some r := h
  clear h
  have H' := Aside0.mk H
  clear H
  go_enter Try.func14, Try.ntmps14
  go_wp2_with (first | ((with_reducible refine gate_dst (N := 1) rfl ?_); refine box_event ?hg (N := 1) ?hd (cs := #[.slice A0_0 l0_0.length c0_0, .int .u32 a0_1]) (t := 25) ?hr ?_; (case hd => rfl); (case hg => rfl); (case hr => first | (go_simp; done) | (go_simp; rfl)); intro gb112 hg w2 hbox hb; have n0_ := Aside0.mk (below_step (by repeat (first | (with_reducible first | exact HB.out | apply below_alloc | apply pw_below_drewN | apply below_drew1) | exact HB.out)) hb); have n1_ := Aside0.mk (hbox); have n2_ := Aside0.mk ((by rw [hg]; exact (below_size (by repeat (first | (with_reducible first | exact HB.out | apply below_alloc | apply pw_below_drewN | apply below_drew1) | exact HB.out))) : w.heap.size ≤ gb112)); have n3_ := Aside0.mk ((by rw [hg]; exact (below_size (by repeat (first | (with_reducible first | exact HB.out | apply below_alloc | apply pw_below_drewN | apply below_drew1) | exact HB.out))) : w.heap.size ≤ gb112)); clear HB; have HB := n0_; have BK112 := n1_; have GW112 := n2_; have GE112 := n3_; clear n0_ n1_ n2_ n3_; clear hb hbox hg))
  go_loopg [3] k (fun kq v3 w' => ∃ (x3_1 : Int), v3 = .int .i64 x3_1 ∧ Aside0 (hurdlelaw10_Great.l0 kq x3_1 l0_0 a0_1 = some r) ∧ Aside0 (kq ≤ k) ∧ Aside0 (w'.heap[gb112]? = some (.cells #[(.slice A0_0 l0_0.length c0_0), .int .u32 a0_1] 25 (0, 0))) ∧ Aside0 (Below w.heap.size w w'))
  case atStart => exact ⟨(0), (by first | rfl | (simp; done) | (simp [*]; done)), H', ⟨Nat.le_refl _⟩, ⟨by (with_reducible repeat (first | refine blk_drewN ?_ _ | refine blk_drew ?_ | refine blk_alloc ?_ _)); exact BK112.out⟩, ⟨by repeat (first | (with_reducible first | exact HB.out | apply below_alloc | apply pw_below_drewN | apply below_drew1 | refine below_set ?_ GE112.out) | exact HB.out)⟩⟩
  case round =>
    clear H'
    try clear c1
    try clear p2
    obtain ⟨x3_1, rfl, HA, HK1, BK112, HB⟩ := hrel
    cases gk with
    | zero => exact absurd HA.out (by simp [hurdlelaw10_Great.l0])
    | succ k1 =>
      have H := HA.out
      clear HA
      simp only [hurdlelaw10_Great.l0] at H
      by_cases c3 : x3_1 < (l0_0.length : Int)
      · rw [if_pos c3] at H
        have c3b0 : decide (x3_1 < (l0_0.length : Int)) = true := decide_eq_true c3
        clear c3
        by_cases c4 : 0 ≤ x3_1
        · rw [if_pos c4] at H
          have c4b0 : decide (0 ≤ x3_1) = true := decide_eq_true c4
          clear c4
          by_cases c5 : (((rd_T40 l0_0 x3_1).f2).length : Int) > 20
          · rw [if_pos c5] at H
            have c5b0 : decide (20 < (((rd_T40 l0_0 x3_1).f2).length : Int)) = true := decide_eq_true c5
            have c5b1 : decide (20 < ((rd_T40 l0_0 x3_1).f2).length) = true := decide_eq_true (by omega)
            clear c5
            obtain rfl := Option.some.inj H
            have hcz6_0 : wr.cell? ⟨gb112, 0, none⟩ = some (.slice A0_0 l0_0.length c0_0) := (blk_cell BK112.out 0).trans rfl
            have hcz6_1 : wr.cell? ⟨gb112, 1, none⟩ = some (.int .u32 a0_1) := (blk_cell BK112.out 1).trans rfl
            have hfz6_0 := blk_frozen BK112.out 0
            have hfz6_1 := blk_frozen BK112.out 1
            have p113 : 0 ≤ (x3_1 : Int) := of_decide_eq_true (by first | (with_reducible assumption) | assumption)
            have q113 : x3_1 < (l0_0.length : Int) := of_decide_eq_true (by first | (with_reducible assumption) | assumption)
            obtain ⟨ad113, A113_2, c113_2, e113, hx113_0, hx113_1, hx113_2, hx113_3, hl113_2, hi113_2⟩ := at_T40 HR0_0.out x3_1 p113 q113
            cases e113
            replace hx113_0 := (HB.out.cell (World.block_lt_of_cell? w _ hx113_0)).trans hx113_0
            replace hx113_1 := (HB.out.cell (World.block_lt_of_cell? w _ hx113_1)).trans hx113_1
            replace hx113_2 := (HB.out.cell (World.block_lt_of_cell? w _ hx113_2)).trans hx113_2
            replace hx113_3 := (HB.out.cell (World.block_lt_of_cell? w _ hx113_3)).trans hx113_3
            have HR113_2 := Aside0.mk hi113_2
            have HC113_2 := Aside0.mk hl113_2
            clear hi113_2 hl113_2
            replace p113 := eq_true p113
            replace q113 := eq_true q113
            go_wp2
            go_ret
            exact ⟨by first | rfl | (simp [errW_none, errW_some] <;> rfl) | (simp [*, errW_none, errW_some] <;> rfl), by repeat (first | (with_reducible first | exact HB.out | apply below_alloc | apply pw_below_drewN | apply below_drew1 | refine below_set ?_ GE112.out) | exact HB.out)⟩
          · rw [if_neg c5] at H
            have c5b0 : decide (20 < (((rd_T40 l0_0 x3_1).f2).length : Int)) = false := decide_eq_false c5
            have c5b1 : decide (20 < ((rd_T40 l0_0 x3_1).f2).length) = false := decide_eq_false (by omega)
            clear c5
            have H' := Aside0.mk H
            clear H
            have hcz7_0 : wr.cell? ⟨gb112, 0, none⟩ = some (.slice A0_0 l0_0.length c0_0) := (blk_cell BK112.out 0).trans rfl
            have hcz7_1 : wr.cell? ⟨gb112, 1, none⟩ = some (.int .u32 a0_1) := (blk_cell BK112.out 1).trans rfl
            have hfz7_0 := blk_frozen BK112.out 0
            have hfz7_1 := blk_frozen BK112.out 1
            have p113 : 0 ≤ (x3_1 : Int) := of_decide_eq_true (by first | (with_reducible assumption) | assumption)
            have q113 : x3_1 < (l0_0.length : Int) := of_decide_eq_true (by first | (with_reducible assumption) | assumption)
            obtain ⟨ad113, A113_2, c113_2, e113, hx113_0, hx113_1, hx113_2, hx113_3, hl113_2, hi113_2⟩ := at_T40 HR0_0.out x3_1 p113 q113
            cases e113
            replace hx113_0 := (HB.out.cell (World.block_lt_of_cell? w _ hx113_0)).trans hx113_0
            replace hx113_1 := (HB.out.cell (World.block_lt_of_cell? w _ hx113_1)).trans hx113_1
            replace hx113_2 := (HB.out.cell (World.block_lt_of_cell? w _ hx113_2)).trans hx113_2
            replace hx113_3 := (HB.out.cell (World.block_lt_of_cell? w _ hx113_3)).trans hx113_3
            have HR113_2 := Aside0.mk hi113_2
            have HC113_2 := Aside0.mk hl113_2
            clear hi113_2 hl113_2
            replace p113 := eq_true p113
            replace q113 := eq_true q113
            go_wp2
            go_roundg k1
            case measure => have := HK1.out; omega
            case rel => exact ⟨(wrap64 (x3_1 + 1)), (by first | rfl | (simp; done) | (simp [*]; done)), H', ⟨by have := HK1.out; omega⟩, ⟨by (with_reducible repeat (first | refine blk_drewN ?_ _ | refine blk_drew ?_ | refine blk_alloc ?_ _)); exact BK112.out⟩, ⟨by repeat (first | (with_reducible first | exact HB.out | apply below_alloc | apply pw_below_drewN | apply below_drew1 | refine below_set ?_ GE112.out) | exact HB.out)⟩⟩
        · rw [if_neg c4] at H
          exact absurd H (by simp)
      · rw [if_neg c3] at H
        have c3b0 : decide (x3_1 < (l0_0.length : Int)) = false := decide_eq_false c3
        clear c3
        obtain rfl := Option.some.inj H
        have hcz8_0 : wr.cell? ⟨gb112, 0, none⟩ = some (.slice A0_0 l0_0.length c0_0) := (blk_cell BK112.out 0).trans rfl
        have hcz8_1 : wr.cell? ⟨gb112, 1, none⟩ = some (.int .u32 a0_1) := (blk_cell BK112.out 1).trans rfl
        have hfz8_0 := blk_frozen BK112.out 0
        have hfz8_1 := blk_frozen BK112.out 1
        go_wp2
        go_ret
        exact ⟨by first | rfl | (simp [errW_none, errW_some] <;> rfl) | (simp [*, errW_none, errW_some] <;> rfl), by repeat (first | (with_reducible first | exact HB.out | apply below_alloc | apply pw_below_drewN | apply below_drew1 | refine below_set ?_ GE112.out) | exact HB.out)⟩
end Go.Proofs.Ytekpbgmmogpbdaa.M
set_option linter.unusedVariables false
set_option linter.unusedSimpArgs false
set_option maxRecDepth 100000
namespace Go.Proofs.Ytekpbgmmogpbdaa.H
open Go.RowKit Go.Proofs.Ytekpbgmmogpbdaa.M Go.Proofs.YtekpbgmmogpbdaaW.PrintWords Go.Proofs.YtekpbgmmogpbdaaW.PrintMore
theorem str_append (a b : List Int) : strOfNums a ++ strOfNums b = strOfNums (a ++ b) := by
  apply ByteArray.ext
  apply Array.ext'
  simp [strOfNums, ByteArray.data_append]
theorem ref_digits (n : Nat) : ∀ k j, n < 16 ^ (j + 1) → j ≤ 15 → j < k → hurdleref01_digits.f k (n : Int) = some (strOfNums (hexL n)) := by
  induction n using Nat.strongRecOn with
  | ind n ih =>
    intro k j hn hj hk
    obtain ⟨k, rfl⟩ : ∃ m, k = m + 1 := ⟨k - 1, by omega⟩
    have h64 : n < 18446744073709551616 := by
      have : 16 ^ (j + 1) ≤ 16 ^ 16 := Nat.pow_le_pow_right (by omega) (by omega)
      have e : (16 : Nat) ^ 16 = 18446744073709551616 := by decide
      omega
    have hm : Int.tmod (n : Int) 16 = ((n % 16 : Nat) : Int) := by rw [Int.tmod_eq_emod_of_nonneg (by omega)]; omega
    have hd : IntKind.u64.wrap (Int.tdiv (n : Int) 16) = ((n / 16 : Nat) : Int) := by
      rw [show Int.tdiv (n : Int) 16 = ((n / 16 : Nat) : Int) from rfl, IntWalk.u64_in _ (by omega)]
    simp only [hurdleref01_digits.f, Option.bind_some]
    rw [hm, hd]
    have hdig : ∀ d : Nat, d < 16 → (if (d : Int) > 9 then ([(IntKind.u64.wrap (87 + (d : Int))) % 256] : List Int) else [(IntKind.u64.wrap (48 + (d : Int))) % 256]) = [((hexc d : Nat) : Int)] := by
      intro d hd
      unfold hexc
      split
      · rw [if_neg (by omega), IntWalk.u64_in _ (by omega)]; congr 1; omega
      · rw [if_pos (by omega), IntWalk.u64_in _ (by omega)]; congr 1; omega
    have h1 := hdig (n % 16) (by omega)
    have hsz : ∀ m : Nat, m < 16 ^ 16 → (strOfNums (hexL m)).size ≤ 16 := by
      intro m hm
      rw [strOfNums_size]; exact (hexL_length 15 m hm).2
    by_cases hl : n < 16
    · have hx : hexL n = [((hexc (n % 16) : Nat) : Int)] := by rw [hexL, if_pos hl, Nat.mod_eq_of_lt hl]
      rw [hx, ← h1]
      split
      · rw [if_pos (by omega)]
      · rw [if_pos (by omega)]
    · have hx : hexL n = hexL (n / 16) ++ [((hexc (n % 16) : Nat) : Int)] := by rw [hexL, if_neg hl]
      obtain ⟨j, rfl⟩ : ∃ i, j = i + 1 := ⟨j - 1, by
        cases j with
        | zero => simp at hn; omega
        | succ j => omega⟩
      have e2 : 16 ^ (j + 1 + 1) = 16 ^ (j + 1) * 16 := Nat.pow_succ ..
      have hi := ih (n / 16) (by omega) k j (by omega) (by omega) (by omega)
      have hs := hsz (n / 16) (by omega)
      rw [hx, ← h1, hi]
      simp only [Option.bind_some]
      split
      · rw [if_neg (by omega), if_pos (by rw [strOfNums_size] at hs ⊢; rw [strOfNums_size]; simp; omega), str_append]
      · rw [if_neg (by omega), if_pos (by rw [strOfNums_size] at hs ⊢; rw [strOfNums_size]; simp; omega), str_append]
theorem ref_text (n k : Nat) (h : n < 18446744073709551616) (hk : 15 < k) : hurdleref01_Text.f k (n : Int) = some (strOfNums (textL n)) := by
  unfold hurdleref01_Text.f
  rw [ref_digits n k 15 (by omega) (by omega) hk]
  simp only [Option.bind_some]
  have hs := (hexL_length 15 n (by omega)).2
  rw [if_pos (by rw [strOfNums_size]; omega)]
  rw [show (⟨#[48, 120]⟩ : ByteArray) = strOfNums [48, 120] from rfl, str_append]
  rfl
end Go.Proofs.Ytekpbgmmogpbdaa.H
set_option linter.unusedVariables false
set_option linter.unusedSimpArgs false
set_option maxRecDepth 100000
namespace Go.Proofs.Ytekpbgmmogpbdaa.H
open Go.RowKit Go.Proofs.YtekpbgmmogpbdaaW.PrintWords
def WK : Array Value := #[.string ⟨#[101, 113]⟩, .string ⟨#[110, 101]⟩, .string ⟨#[108, 116]⟩, .string ⟨#[108, 101]⟩, .string ⟨#[103, 116]⟩, .string ⟨#[103, 101]⟩]
theorem wk_at (k : Nat) (hk : k < 6) : WK[k]? = some (.string (wordK k)) := by
  rcases (by omega : k = 0 ∨ k = 1 ∨ k = 2 ∨ k = 3 ∨ k = 4 ∨ k = 5) with rfl | rfl | rfl | rfl | rfl | rfl <;> rfl
def DG : Array Value := #[.string ⟨#[48]⟩, .string ⟨#[49]⟩, .string ⟨#[50]⟩, .string ⟨#[51]⟩, .string ⟨#[52]⟩, .string ⟨#[53]⟩]
theorem dg_at (k : Nat) (hk : k < 6) : DG[k]? = some (.string (digB k)) := by
  rcases (by omega : k = 0 ∨ k = 1 ∨ k = 2 ∨ k = 3 ∨ k = 4 ∨ k = 5) with rfl | rfl | rfl | rfl | rfl | rfl <;> rfl
def WordsGive : Prop := ∀ w, Calls Try.prog 75 #[] w fun e w' => ∃ g, e = .returned (.slice (some ⟨g, 0, none⟩) 6 6) ∧ w'.heap[g]? = some (.cells WK 9 (0, 0)) ∧ Below w.heap.size w w'
set_option maxHeartbeats 1000000 in
theorem Words_walk : WordsGive := by
  intro w
  have hg := heap_alloc_new w (.cells #[.string ⟨#[101, 113]⟩, .string ⟨#[110, 101]⟩, .string ⟨#[108, 116]⟩, .string ⟨#[108, 101]⟩, .string ⟨#[103, 116]⟩, .string ⟨#[103, 101]⟩] 9)
  have HG := Lib.hid hg
  have HB := Lib.hid ((Below.refl w.heap.size w).alloc (Nat.le_refl _) (.cells #[.string ⟨#[101, 113]⟩, .string ⟨#[110, 101]⟩, .string ⟨#[108, 116]⟩, .string ⟨#[108, 101]⟩, .string ⟨#[103, 116]⟩, .string ⟨#[103, 101]⟩] 9))
  clear hg
  go_enter Try.func75, Try.ntmps75
  go_wp2
  go_ret
  exact ⟨_, rfl, HG.out, HB.out⟩
set_option maxHeartbeats 4000000 in
theorem RefPrint_yes (j k : Nat) (hj : (j : Int) < 6) (hk : (k : Int) < 6) (m v : Int) (ch tm tv s : ByteArray) (TM : Gives Try.prog 54 #[.int .u64 m] (.string tm)) (TV : Gives Try.prog 54 #[.int .u64 v] (.string tv)) (hch : DG[j]? = some (.string ch)) (hs : WK[k]? = some (.string s)) (b1 b2 b3 b4 b5 b6 b7 : ByteArray) (e1 : Cat ⟨#[97]⟩ ch b1) (e2 : Cat b1 ⟨#[32]⟩ b2) (e3 : Cat b2 tm b3) (e4 : Cat b3 ⟨#[32]⟩ b4) (e5 : Cat b4 s b5) (e6 : Cat b5 ⟨#[32]⟩ b6) (e7 : Cat b6 tv b7) (w : World) :
    Calls Try.prog 58 #[.agg #[.int .i64 (j : Int), .int .i64 (k : Int), .int .u64 m, .int .u64 v]] w fun e w' => e = .returned (.string b7) ∧ Below w.heap.size w w' := by
  replace TM := Lib.hid TM
  replace TV := Lib.hid TV
  replace hch := Lib.hid hch
  replace hs := Lib.hid hs
  replace e1 := Lib.hid e1
  replace e2 := Lib.hid e2
  replace e3 := Lib.hid e3
  replace e4 := Lib.hid e4
  replace e5 := Lib.hid e5
  replace e6 := Lib.hid e6
  replace e7 := Lib.hid e7
  have WS := Lib.hid Words_walk
  have q1 := Lib.hid (heap_alloc_new w (Obj.cells #[.int .i64 (j : Int), .int .i64 (k : Int), .int .u64 m, .int .u64 v] 61))
  have q4 := Lib.hid ((Below.refl w.heap.size w).alloc (Nat.le_refl _) (Obj.cells #[.int .i64 (j : Int), .int .i64 (k : Int), .int .u64 m, .int .u64 v] 61))
  go_enter Try.func58, Try.ntmps58
  go_wp2_with fail
  obtain ⟨W1, hW1⟩ : ∃ W1, w.alloc (Obj.cells #[.int .i64 (j : Int), .int .i64 (k : Int), .int .u64 m, .int .u64 v] 61) = W1 := ⟨_, rfl⟩
  rw [hW1] at q1 q4
  try rw [hW1]
  clear hW1
  refine wp_region_held_drew (S := (fun w' => (w'.heap[w.heap.size]? = some (.cells #[.int .i64 (j : Int), .int .i64 (k : Int), .int .u64 m, .int .u64 v] 61 (0, 0))) ∧ (Below w.heap.size w w'))) (by kernel_rfl) ⟨q1.out, q4.out.drew⟩ (fun hNew => ?_)
  have hHeld := Lib.hid hNew
  clear hNew
  refine wpAnyH_takeL 1 (v := ?_) rfl (by kernel_rfl) (by kernel_rfl) (by kernel_rfl) (fun _ _ _ h => h) hHeld.out (yieldsIf_of rfl ?_) ?_
  rotate_left
  · (intro w hSw; go_simp <;> with_reducible rfl)
  try simp only [Act.put, List.setIfInBounds_toArray, List.set_cons_zero, List.set_cons_succ]
  refine wpAnyH_takeL 2 rfl (by kernel_rfl) (by kernel_rfl) (by kernel_rfl) (fun _ _ _ h => h) hHeld.out (yieldsIf_cell rfl 3 (.tmp 4) rfl _ rfl (.int .i64 (j : Int)) _ (fun _ h => blk_cell h.1 0) Try.underlying3 rfl) ?_
  try simp only [Act.put, List.setIfInBounds_toArray, List.set_cons_zero, List.set_cons_succ]
  refine wpAnyH_takeL 7 (v := ?_) rfl (by kernel_rfl) (by kernel_rfl) (by kernel_rfl) (fun _ _ _ h => h) hHeld.out (yieldsIf_of rfl ?_) ?_
  rotate_left
  · (intro w hSw; go_simp <;> with_reducible rfl)
  try simp only [Act.put, List.setIfInBounds_toArray, List.set_cons_zero, List.set_cons_succ]
  refine wpAnyH_takeL 8 rfl (by kernel_rfl) (by kernel_rfl) (by kernel_rfl) (fun _ _ _ h => h) hHeld.out (yieldsIf_cell rfl 41 (.tmp 10) rfl _ rfl (.int .u64 m) _ (fun _ h => blk_cell h.1 2) Try.underlying41 rfl) ?_
  try simp only [Act.put, List.setIfInBounds_toArray, List.set_cons_zero, List.set_cons_succ]
  refine wpAnyH_takeL 13 (v := ?_) rfl (by kernel_rfl) (by kernel_rfl) (by kernel_rfl) (fun _ _ _ h => h) hHeld.out (yieldsIf_of rfl ?_) ?_
  rotate_left
  · (intro w hSw; go_simp <;> with_reducible rfl)
  try simp only [Act.put, List.setIfInBounds_toArray, List.set_cons_zero, List.set_cons_succ]
  refine wpAnyH_takeL 14 rfl (by kernel_rfl) (by kernel_rfl) (by kernel_rfl) (fun _ _ _ h => h) hHeld.out (yieldsIf_cell rfl 3 (.tmp 16) rfl _ rfl (.int .i64 (k : Int)) _ (fun _ h => blk_cell h.1 1) Try.underlying3 rfl) ?_
  try simp only [Act.put, List.setIfInBounds_toArray, List.set_cons_zero, List.set_cons_succ]
  refine wpAnyH_takeL 19 (v := ?_) rfl (by kernel_rfl) (by kernel_rfl) (by kernel_rfl) (fun _ _ _ h => h) hHeld.out (yieldsIf_of rfl ?_) ?_
  rotate_left
  · (intro w hSw; go_simp <;> with_reducible rfl)
  try simp only [Act.put, List.setIfInBounds_toArray, List.set_cons_zero, List.set_cons_succ]
  refine wpAnyH_takeL 20 rfl (by kernel_rfl) (by kernel_rfl) (by kernel_rfl) (fun _ _ _ h => h) hHeld.out (yieldsIf_cell rfl 41 (.tmp 22) rfl _ rfl (.int .u64 v) _ (fun _ h => blk_cell h.1 3) Try.underlying41 rfl) ?_
  try simp only [Act.put, List.setIfInBounds_toArray, List.set_cons_zero, List.set_cons_succ]
  refine wpAnyH_ready (rs := [0, 9]) (by kernel_rfl) (by simp) (AllReadyH.cons rfl (fun K hK => ?_) (AllReadyH.cons rfl (fun K hK => ?_) (AllReadyH.nil)))
  · go_simp
    refine hK.out _ _ ⟨blk_alloc (hHeld.out.1) _, (hHeld.out.2).alloc (hHeld.out.2).size _⟩ (fun hNew => ?_)
    have hNew := And.intro (heap_alloc_new W1.drew (.cells DG 9)) hNew
    refine wpAnyH_stronger (fun w' => (w'.heap[W1.heap.size]? = some (.cells DG 9 (0, 0))) ∧ (w'.heap[w.heap.size]? = some (.cells #[.int .i64 (j : Int), .int .i64 (k : Int), .int .u64 m, .int .u64 v] 61 (0, 0))) ∧ (Below w.heap.size w w')) (fun _ h => h.2) ?_
    clear hK K hHeld
    have hHeld := Lib.hid hNew
    clear hNew
    try simp only [Act.put, List.setIfInBounds_toArray, List.set_cons_zero, List.set_cons_succ]
    refine wpAnyH_takeL 3 (v := ?_) rfl (by kernel_rfl) (by kernel_rfl) (by kernel_rfl) (fun _ _ _ h => h) hHeld.out (yieldsIf_of rfl ?_) ?_
    rotate_left
    · (intro w hSw; go_simp <;> with_reducible rfl)
    try simp only [Act.put, List.setIfInBounds_toArray, List.set_cons_zero, List.set_cons_succ]
    refine wpAnyH_takeL 4 rfl (by kernel_rfl) (by kernel_rfl) (by kernel_rfl) (fun _ _ _ h => h) hHeld.out (yieldsIf_cell rfl 9 (.tmp 6) rfl _ rfl (.string ch) _ (fun _ h => (blk_cell h.1 j).trans hch.out) Try.underlying9 rfl) ?_
    try simp only [Act.put, List.setIfInBounds_toArray, List.set_cons_zero, List.set_cons_succ]
    refine wpAnyH_takeL 5 rfl (by kernel_rfl) (by kernel_rfl) (by kernel_rfl) (fun _ _ _ h => h) hHeld.out (yieldsIf_catR e1.out rfl (.const (.string ⟨#[97]⟩)) (.tmp 7) _ rfl rfl rfl) ?_
    try simp only [Act.put, List.setIfInBounds_toArray, List.set_cons_zero, List.set_cons_succ]
    refine wpAnyH_takeL 6 rfl (by kernel_rfl) (by kernel_rfl) (by kernel_rfl) (fun _ _ _ h => h) hHeld.out (yieldsIf_catR e2.out rfl (.tmp 8) (.const (.string ⟨#[32]⟩)) _ rfl rfl rfl) ?_
    try simp only [Act.put, List.setIfInBounds_toArray, List.set_cons_zero, List.set_cons_succ]
    refine wpAnyH_one 9 _ (by kernel_rfl) rfl (fun _ h => h) (fun K hK => ?_)
    go_simp
    refine (TM.out _).mono ?_
    rintro _ v9 ⟨rfl, hb⟩
    refine hK.out _ _ ⟨blk_below (hHeld.out.1) hb, blk_below (hHeld.out.2.1) hb, below_more (hHeld.out.2.2) (Nat.le_refl _) hb⟩ (fun hNew => ?_)
    clear hK K hHeld hb
    have hHeld := Lib.hid hNew
    clear hNew
    try simp only [Act.put, List.setIfInBounds_toArray, List.set_cons_zero, List.set_cons_succ]
    refine wpAnyH_takeL 10 rfl (by kernel_rfl) (by kernel_rfl) (by kernel_rfl) (fun _ _ _ h => h) hHeld.out (yieldsIf_catR e3.out rfl (.tmp 9) (.tmp 12) _ rfl rfl rfl) ?_
    try simp only [Act.put, List.setIfInBounds_toArray, List.set_cons_zero, List.set_cons_succ]
    refine wpAnyH_takeL 11 rfl (by kernel_rfl) (by kernel_rfl) (by kernel_rfl) (fun _ _ _ h => h) hHeld.out (yieldsIf_catR e4.out rfl (.tmp 13) (.const (.string ⟨#[32]⟩)) _ rfl rfl rfl) ?_
    try simp only [Act.put, List.setIfInBounds_toArray, List.set_cons_zero, List.set_cons_succ]
    refine wpAnyH_one 12 _ (by kernel_rfl) rfl (fun _ h => h) (fun K hK => ?_)
    go_simp
    refine (WS.out _).mono ?_
    rintro _ v12 ⟨g10, rfl, hg11, hb⟩
    refine hK.out _ _ ⟨blk_below (hHeld.out.1) hb, blk_below (hHeld.out.2.1) hb, below_more (hHeld.out.2.2) (Nat.le_refl _) hb⟩ (fun hNew => ?_)
    replace hNew : (v12.heap[g10]? = some (.cells WK 9 (0, 0))) ∧ (v12.heap[W1.heap.size]? = some (.cells DG 9 (0, 0))) ∧ (v12.heap[w.heap.size]? = some (.cells #[.int .i64 (j : Int), .int .i64 (k : Int), .int .u64 m, .int .u64 v] 61 (0, 0))) ∧ (Below w.heap.size w v12) := ⟨hg11, hNew⟩
    refine wpAnyH_stronger (fun w' => (w'.heap[g10]? = some (.cells WK 9 (0, 0))) ∧ (w'.heap[W1.heap.size]? = some (.cells DG 9 (0, 0))) ∧ (w'.heap[w.heap.size]? = some (.cells #[.int .i64 (j : Int), .int .i64 (k : Int), .int .u64 m, .int .u64 v] 61 (0, 0))) ∧ (Below w.heap.size w w')) (fun _ h => h.2) ?_
    clear hK K hHeld hb
    have hHeld := Lib.hid hNew
    clear hNew
    try simp only [Act.put, List.setIfInBounds_toArray, List.set_cons_zero, List.set_cons_succ]
    refine wpAnyH_takeL 15 (v := ?_) rfl (by kernel_rfl) (by kernel_rfl) (by kernel_rfl) (fun _ _ _ h => h) hHeld.out (yieldsIf_of rfl ?_) ?_
    rotate_left
    · (intro w hSw; go_simp <;> with_reducible rfl)
    try simp only [Act.put, List.setIfInBounds_toArray, List.set_cons_zero, List.set_cons_succ]
    refine wpAnyH_takeL 16 rfl (by kernel_rfl) (by kernel_rfl) (by kernel_rfl) (fun _ _ _ h => h) hHeld.out (yieldsIf_cell rfl 9 (.tmp 18) rfl _ rfl (.string s) _ (fun _ h => (blk_cell h.1 k).trans hs.out) Try.underlying9 rfl) ?_
    try simp only [Act.put, List.setIfInBounds_toArray, List.set_cons_zero, List.set_cons_succ]
    refine wpAnyH_takeL 17 rfl (by kernel_rfl) (by kernel_rfl) (by kernel_rfl) (fun _ _ _ h => h) hHeld.out (yieldsIf_catR e5.out rfl (.tmp 14) (.tmp 19) _ rfl rfl rfl) ?_
    try simp only [Act.put, List.setIfInBounds_toArray, List.set_cons_zero, List.set_cons_succ]
    refine wpAnyH_takeL 18 rfl (by kernel_rfl) (by kernel_rfl) (by kernel_rfl) (fun _ _ _ h => h) hHeld.out (yieldsIf_catR e6.out rfl (.tmp 20) (.const (.string ⟨#[32]⟩)) _ rfl rfl rfl) ?_
    try simp only [Act.put, List.setIfInBounds_toArray, List.set_cons_zero, List.set_cons_succ]
    refine wpAnyH_one 21 _ (by kernel_rfl) rfl (fun _ h => h) (fun K hK => ?_)
    go_simp
    refine (TV.out _).mono ?_
    rintro _ v13 ⟨rfl, hb⟩
    refine hK.out _ _ ⟨blk_below (hHeld.out.1) hb, blk_below (hHeld.out.2.1) hb, blk_below (hHeld.out.2.2.1) hb, below_more (hHeld.out.2.2.2) (Nat.le_refl _) hb⟩ (fun hNew => ?_)
    clear hK K hHeld hb
    have hHeld := Lib.hid hNew
    clear hNew
    try simp only [Act.put, List.setIfInBounds_toArray, List.set_cons_zero, List.set_cons_succ]
    refine wpAnyH_takeL 22 rfl (by kernel_rfl) (by kernel_rfl) (by kernel_rfl) (fun _ _ _ h => h) hHeld.out (yieldsIf_catR e7.out rfl (.tmp 21) (.tmp 24) _ rfl rfl rfl) ?_
    try simp only [Act.put, List.setIfInBounds_toArray, List.set_cons_zero, List.set_cons_succ]
    refine wpAnyH_takeL 23 (v := ?_) rfl (by kernel_rfl) (by kernel_rfl) (by kernel_rfl) (fun _ _ _ h => h) hHeld.out (yieldsIf_of rfl ?_) ?_
    rotate_left
    · (intro w hSw; go_simp <;> with_reducible rfl)
    try simp only [Act.put, List.setIfInBounds_toArray, List.set_cons_zero, List.set_cons_succ]
    refine wpAnyH_done (by kernel_rfl) ?_ _
    have HFI := Lib.hid (hHeld.out.2.2.2)
    clear hHeld
    go_wp2_with fail
    go_ret
    exact ⟨rfl, HFI.out⟩
  · go_simp
    refine (TM.out _).mono ?_
    rintro _ v14 ⟨rfl, hb⟩
    refine hK.out _ _ ⟨blk_below (hHeld.out.1) hb, below_more (hHeld.out.2) (Nat.le_refl _) hb⟩ (fun hNew => ?_)
    clear hK K hHeld hb
    have hHeld := Lib.hid hNew
    clear hNew
    try simp only [Act.put, List.setIfInBounds_toArray, List.set_cons_zero, List.set_cons_succ]
    refine wpAnyH_ready (rs := [0, 12]) (by kernel_rfl) (by simp) (AllReadyH.cons rfl (fun K hK => ?_) (AllReadyH.cons rfl (fun K hK => ?_) (AllReadyH.nil)))
    · go_simp
      refine hK.out _ _ ⟨blk_alloc (hHeld.out.1) _, (hHeld.out.2).alloc (hHeld.out.2).size _⟩ (fun hNew => ?_)
      have hNew := And.intro (heap_alloc_new v14 (.cells DG 9)) hNew
      refine wpAnyH_stronger (fun w' => (w'.heap[v14.heap.size]? = some (.cells DG 9 (0, 0))) ∧ (w'.heap[w.heap.size]? = some (.cells #[.int .i64 (j : Int), .int .i64 (k : Int), .int .u64 m, .int .u64 v] 61 (0, 0))) ∧ (Below w.heap.size w w')) (fun _ h => h.2) ?_
      clear hK K hHeld
      have hHeld := Lib.hid hNew
      clear hNew
      try simp only [Act.put, List.setIfInBounds_toArray, List.set_cons_zero, List.set_cons_succ]
      refine wpAnyH_takeL 3 (v := ?_) rfl (by kernel_rfl) (by kernel_rfl) (by kernel_rfl) (fun _ _ _ h => h) hHeld.out (yieldsIf_of rfl ?_) ?_
      rotate_left
      · (intro w hSw; go_simp <;> with_reducible rfl)
      try simp only [Act.put, List.setIfInBounds_toArray, List.set_cons_zero, List.set_cons_succ]
      refine wpAnyH_takeL 4 rfl (by kernel_rfl) (by kernel_rfl) (by kernel_rfl) (fun _ _ _ h => h) hHeld.out (yieldsIf_cell rfl 9 (.tmp 6) rfl _ rfl (.string ch) _ (fun _ h => (blk_cell h.1 j).trans hch.out) Try.underlying9 rfl) ?_
      try simp only [Act.put, List.setIfInBounds_toArray, List.set_cons_zero, List.set_cons_succ]
      refine wpAnyH_takeL 5 rfl (by kernel_rfl) (by kernel_rfl) (by kernel_rfl) (fun _ _ _ h => h) hHeld.out (yieldsIf_catR e1.out rfl (.const (.string ⟨#[97]⟩)) (.tmp 7) _ rfl rfl rfl) ?_
      try simp only [Act.put, List.setIfInBounds_toArray, List.set_cons_zero, List.set_cons_succ]
      refine wpAnyH_takeL 6 rfl (by kernel_rfl) (by kernel_rfl) (by kernel_rfl) (fun _ _ _ h => h) hHeld.out (yieldsIf_catR e2.out rfl (.tmp 8) (.const (.string ⟨#[32]⟩)) _ rfl rfl rfl) ?_
      try simp only [Act.put, List.setIfInBounds_toArray, List.set_cons_zero, List.set_cons_succ]
      refine wpAnyH_takeL 10 rfl (by kernel_rfl) (by kernel_rfl) (by kernel_rfl) (fun _ _ _ h => h) hHeld.out (yieldsIf_catR e3.out rfl (.tmp 9) (.tmp 12) _ rfl rfl rfl) ?_
      try simp only [Act.put, List.setIfInBounds_toArray, List.set_cons_zero, List.set_cons_succ]
      refine wpAnyH_takeL 11 rfl (by kernel_rfl) (by kernel_rfl) (by kernel_rfl) (fun _ _ _ h => h) hHeld.out (yieldsIf_catR e4.out rfl (.tmp 13) (.const (.string ⟨#[32]⟩)) _ rfl rfl rfl) ?_
      try simp only [Act.put, List.setIfInBounds_toArray, List.set_cons_zero, List.set_cons_succ]
      refine wpAnyH_one 12 _ (by kernel_rfl) rfl (fun _ h => h) (fun K hK => ?_)
      go_simp
      refine (WS.out _).mono ?_
      rintro _ v17 ⟨g15, rfl, hg16, hb⟩
      refine hK.out _ _ ⟨blk_below (hHeld.out.1) hb, blk_below (hHeld.out.2.1) hb, below_more (hHeld.out.2.2) (Nat.le_refl _) hb⟩ (fun hNew => ?_)
      replace hNew : (v17.heap[g15]? = some (.cells WK 9 (0, 0))) ∧ (v17.heap[v14.heap.size]? = some (.cells DG 9 (0, 0))) ∧ (v17.heap[w.heap.size]? = some (.cells #[.int .i64 (j : Int), .int .i64 (k : Int), .int .u64 m, .int .u64 v] 61 (0, 0))) ∧ (Below w.heap.size w v17) := ⟨hg16, hNew⟩
      refine wpAnyH_stronger (fun w' => (w'.heap[g15]? = some (.cells WK 9 (0, 0))) ∧ (w'.heap[v14.heap.size]? = some (.cells DG 9 (0, 0))) ∧ (w'.heap[w.heap.size]? = some (.cells #[.int .i64 (j : Int), .int .i64 (k : Int), .int .u64 m, .int .u64 v] 61 (0, 0))) ∧ (Below w.heap.size w w')) (fun _ h => h.2) ?_
      clear hK K hHeld hb
      have hHeld := Lib.hid hNew
      clear hNew
      try simp only [Act.put, List.setIfInBounds_toArray, List.set_cons_zero, List.set_cons_succ]
      refine wpAnyH_takeL 15 (v := ?_) rfl (by kernel_rfl) (by kernel_rfl) (by kernel_rfl) (fun _ _ _ h => h) hHeld.out (yieldsIf_of rfl ?_) ?_
      rotate_left
      · (intro w hSw; go_simp <;> with_reducible rfl)
      try simp only [Act.put, List.setIfInBounds_toArray, List.set_cons_zero, List.set_cons_succ]
      refine wpAnyH_takeL 16 rfl (by kernel_rfl) (by kernel_rfl) (by kernel_rfl) (fun _ _ _ h => h) hHeld.out (yieldsIf_cell rfl 9 (.tmp 18) rfl _ rfl (.string s) _ (fun _ h => (blk_cell h.1 k).trans hs.out) Try.underlying9 rfl) ?_
      try simp only [Act.put, List.setIfInBounds_toArray, List.set_cons_zero, List.set_cons_succ]
      refine wpAnyH_takeL 17 rfl (by kernel_rfl) (by kernel_rfl) (by kernel_rfl) (fun _ _ _ h => h) hHeld.out (yieldsIf_catR e5.out rfl (.tmp 14) (.tmp 19) _ rfl rfl rfl) ?_
      try simp only [Act.put, List.setIfInBounds_toArray, List.set_cons_zero, List.set_cons_succ]
      refine wpAnyH_takeL 18 rfl (by kernel_rfl) (by kernel_rfl) (by kernel_rfl) (fun _ _ _ h => h) hHeld.out (yieldsIf_catR e6.out rfl (.tmp 20) (.const (.string ⟨#[32]⟩)) _ rfl rfl rfl) ?_
      try simp only [Act.put, List.setIfInBounds_toArray, List.set_cons_zero, List.set_cons_succ]
      refine wpAnyH_one 21 _ (by kernel_rfl) rfl (fun _ h => h) (fun K hK => ?_)
      go_simp
      refine (TV.out _).mono ?_
      rintro _ v18 ⟨rfl, hb⟩
      refine hK.out _ _ ⟨blk_below (hHeld.out.1) hb, blk_below (hHeld.out.2.1) hb, blk_below (hHeld.out.2.2.1) hb, below_more (hHeld.out.2.2.2) (Nat.le_refl _) hb⟩ (fun hNew => ?_)
      clear hK K hHeld hb
      have hHeld := Lib.hid hNew
      clear hNew
      try simp only [Act.put, List.setIfInBounds_toArray, List.set_cons_zero, List.set_cons_succ]
      refine wpAnyH_takeL 22 rfl (by kernel_rfl) (by kernel_rfl) (by kernel_rfl) (fun _ _ _ h => h) hHeld.out (yieldsIf_catR e7.out rfl (.tmp 21) (.tmp 24) _ rfl rfl rfl) ?_
      try simp only [Act.put, List.setIfInBounds_toArray, List.set_cons_zero, List.set_cons_succ]
      refine wpAnyH_takeL 23 (v := ?_) rfl (by kernel_rfl) (by kernel_rfl) (by kernel_rfl) (fun _ _ _ h => h) hHeld.out (yieldsIf_of rfl ?_) ?_
      rotate_left
      · (intro w hSw; go_simp <;> with_reducible rfl)
      try simp only [Act.put, List.setIfInBounds_toArray, List.set_cons_zero, List.set_cons_succ]
      refine wpAnyH_done (by kernel_rfl) ?_ _
      have HFI := Lib.hid (hHeld.out.2.2.2)
      clear hHeld
      go_wp2_with fail
      go_ret
      exact ⟨rfl, HFI.out⟩
    · go_simp
      refine (WS.out _).mono ?_
      rintro _ v21 ⟨g19, rfl, hg20, hb⟩
      refine hK.out _ _ ⟨blk_below (hHeld.out.1) hb, below_more (hHeld.out.2) (Nat.le_refl _) hb⟩ (fun hNew => ?_)
      replace hNew : (v21.heap[g19]? = some (.cells WK 9 (0, 0))) ∧ (v21.heap[w.heap.size]? = some (.cells #[.int .i64 (j : Int), .int .i64 (k : Int), .int .u64 m, .int .u64 v] 61 (0, 0))) ∧ (Below w.heap.size w v21) := ⟨hg20, hNew⟩
      refine wpAnyH_stronger (fun w' => (w'.heap[g19]? = some (.cells WK 9 (0, 0))) ∧ (w'.heap[w.heap.size]? = some (.cells #[.int .i64 (j : Int), .int .i64 (k : Int), .int .u64 m, .int .u64 v] 61 (0, 0))) ∧ (Below w.heap.size w w')) (fun _ h => h.2) ?_
      clear hK K hHeld hb
      have hHeld := Lib.hid hNew
      clear hNew
      try simp only [Act.put, List.setIfInBounds_toArray, List.set_cons_zero, List.set_cons_succ]
      refine wpAnyH_takeL 15 (v := ?_) rfl (by kernel_rfl) (by kernel_rfl) (by kernel_rfl) (fun _ _ _ h => h) hHeld.out (yieldsIf_of rfl ?_) ?_
      rotate_left
      · (intro w hSw; go_simp <;> with_reducible rfl)
      try simp only [Act.put, List.setIfInBounds_toArray, List.set_cons_zero, List.set_cons_succ]
      refine wpAnyH_takeL 16 rfl (by kernel_rfl) (by kernel_rfl) (by kernel_rfl) (fun _ _ _ h => h) hHeld.out (yieldsIf_cell rfl 9 (.tmp 18) rfl _ rfl (.string s) _ (fun _ h => (blk_cell h.1 k).trans hs.out) Try.underlying9 rfl) ?_
      try simp only [Act.put, List.setIfInBounds_toArray, List.set_cons_zero, List.set_cons_succ]
      refine wpAnyH_ready (rs := [0, 21]) (by kernel_rfl) (by simp) (AllReadyH.cons rfl (fun K hK => ?_) (AllReadyH.cons rfl (fun K hK => ?_) (AllReadyH.nil)))
      · go_simp
        refine hK.out _ _ ⟨blk_alloc (hHeld.out.1) _, blk_alloc (hHeld.out.2.1) _, (hHeld.out.2.2).alloc (hHeld.out.2.2).size _⟩ (fun hNew => ?_)
        have hNew := And.intro (heap_alloc_new v21 (.cells DG 9)) hNew
        refine wpAnyH_stronger (fun w' => (w'.heap[v21.heap.size]? = some (.cells DG 9 (0, 0))) ∧ (w'.heap[g19]? = some (.cells WK 9 (0, 0))) ∧ (w'.heap[w.heap.size]? = some (.cells #[.int .i64 (j : Int), .int .i64 (k : Int), .int .u64 m, .int .u64 v] 61 (0, 0))) ∧ (Below w.heap.size w w')) (fun _ h => h.2) ?_
        clear hK K hHeld
        have hHeld := Lib.hid hNew
        clear hNew
        try simp only [Act.put, List.setIfInBounds_toArray, List.set_cons_zero, List.set_cons_succ]
        refine wpAnyH_takeL 3 (v := ?_) rfl (by kernel_rfl) (by kernel_rfl) (by kernel_rfl) (fun _ _ _ h => h) hHeld.out (yieldsIf_of rfl ?_) ?_
        rotate_left
        · (intro w hSw; go_simp <;> with_reducible rfl)
        try simp only [Act.put, List.setIfInBounds_toArray, List.set_cons_zero, List.set_cons_succ]
        refine wpAnyH_takeL 4 rfl (by kernel_rfl) (by kernel_rfl) (by kernel_rfl) (fun _ _ _ h => h) hHeld.out (yieldsIf_cell rfl 9 (.tmp 6) rfl _ rfl (.string ch) _ (fun _ h => (blk_cell h.1 j).trans hch.out) Try.underlying9 rfl) ?_
        try simp only [Act.put, List.setIfInBounds_toArray, List.set_cons_zero, List.set_cons_succ]
        refine wpAnyH_takeL 5 rfl (by kernel_rfl) (by kernel_rfl) (by kernel_rfl) (fun _ _ _ h => h) hHeld.out (yieldsIf_catR e1.out rfl (.const (.string ⟨#[97]⟩)) (.tmp 7) _ rfl rfl rfl) ?_
        try simp only [Act.put, List.setIfInBounds_toArray, List.set_cons_zero, List.set_cons_succ]
        refine wpAnyH_takeL 6 rfl (by kernel_rfl) (by kernel_rfl) (by kernel_rfl) (fun _ _ _ h => h) hHeld.out (yieldsIf_catR e2.out rfl (.tmp 8) (.const (.string ⟨#[32]⟩)) _ rfl rfl rfl) ?_
        try simp only [Act.put, List.setIfInBounds_toArray, List.set_cons_zero, List.set_cons_succ]
        refine wpAnyH_takeL 10 rfl (by kernel_rfl) (by kernel_rfl) (by kernel_rfl) (fun _ _ _ h => h) hHeld.out (yieldsIf_catR e3.out rfl (.tmp 9) (.tmp 12) _ rfl rfl rfl) ?_
        try simp only [Act.put, List.setIfInBounds_toArray, List.set_cons_zero, List.set_cons_succ]
        refine wpAnyH_takeL 11 rfl (by kernel_rfl) (by kernel_rfl) (by kernel_rfl) (fun _ _ _ h => h) hHeld.out (yieldsIf_catR e4.out rfl (.tmp 13) (.const (.string ⟨#[32]⟩)) _ rfl rfl rfl) ?_
        try simp only [Act.put, List.setIfInBounds_toArray, List.set_cons_zero, List.set_cons_succ]
        refine wpAnyH_takeL 17 rfl (by kernel_rfl) (by kernel_rfl) (by kernel_rfl) (fun _ _ _ h => h) hHeld.out (yieldsIf_catR e5.out rfl (.tmp 14) (.tmp 19) _ rfl rfl rfl) ?_
        try simp only [Act.put, List.setIfInBounds_toArray, List.set_cons_zero, List.set_cons_succ]
        refine wpAnyH_takeL 18 rfl (by kernel_rfl) (by kernel_rfl) (by kernel_rfl) (fun _ _ _ h => h) hHeld.out (yieldsIf_catR e6.out rfl (.tmp 20) (.const (.string ⟨#[32]⟩)) _ rfl rfl rfl) ?_
        try simp only [Act.put, List.setIfInBounds_toArray, List.set_cons_zero, List.set_cons_succ]
        refine wpAnyH_one 21 _ (by kernel_rfl) rfl (fun _ h => h) (fun K hK => ?_)
        go_simp
        refine (TV.out _).mono ?_
        rintro _ v22 ⟨rfl, hb⟩
        refine hK.out _ _ ⟨blk_below (hHeld.out.1) hb, blk_below (hHeld.out.2.1) hb, blk_below (hHeld.out.2.2.1) hb, below_more (hHeld.out.2.2.2) (Nat.le_refl _) hb⟩ (fun hNew => ?_)
        clear hK K hHeld hb
        have hHeld := Lib.hid hNew
        clear hNew
        try simp only [Act.put, List.setIfInBounds_toArray, List.set_cons_zero, List.set_cons_succ]
        refine wpAnyH_takeL 22 rfl (by kernel_rfl) (by kernel_rfl) (by kernel_rfl) (fun _ _ _ h => h) hHeld.out (yieldsIf_catR e7.out rfl (.tmp 21) (.tmp 24) _ rfl rfl rfl) ?_
        try simp only [Act.put, List.setIfInBounds_toArray, List.set_cons_zero, List.set_cons_succ]
        refine wpAnyH_takeL 23 (v := ?_) rfl (by kernel_rfl) (by kernel_rfl) (by kernel_rfl) (fun _ _ _ h => h) hHeld.out (yieldsIf_of rfl ?_) ?_
        rotate_left
        · (intro w hSw; go_simp <;> with_reducible rfl)
        try simp only [Act.put, List.setIfInBounds_toArray, List.set_cons_zero, List.set_cons_succ]
        refine wpAnyH_done (by kernel_rfl) ?_ _
        have HFI := Lib.hid (hHeld.out.2.2.2)
        clear hHeld
        go_wp2_with fail
        go_ret
        exact ⟨rfl, HFI.out⟩
      · go_simp
        refine (TV.out _).mono ?_
        rintro _ v23 ⟨rfl, hb⟩
        refine hK.out _ _ ⟨blk_below (hHeld.out.1) hb, blk_below (hHeld.out.2.1) hb, below_more (hHeld.out.2.2) (Nat.le_refl _) hb⟩ (fun hNew => ?_)
        clear hK K hHeld hb
        have hHeld := Lib.hid hNew
        clear hNew
        try simp only [Act.put, List.setIfInBounds_toArray, List.set_cons_zero, List.set_cons_succ]
        refine wpAnyH_one 0 _ (by kernel_rfl) rfl (fun _ h => h) (fun K hK => ?_)
        go_simp
        refine hK.out _ _ ⟨blk_alloc (hHeld.out.1) _, blk_alloc (hHeld.out.2.1) _, (hHeld.out.2.2).alloc (hHeld.out.2.2).size _⟩ (fun hNew => ?_)
        have hNew := And.intro (heap_alloc_new v23 (.cells DG 9)) hNew
        refine wpAnyH_stronger (fun w' => (w'.heap[v23.heap.size]? = some (.cells DG 9 (0, 0))) ∧ (w'.heap[g19]? = some (.cells WK 9 (0, 0))) ∧ (w'.heap[w.heap.size]? = some (.cells #[.int .i64 (j : Int), .int .i64 (k : Int), .int .u64 m, .int .u64 v] 61 (0, 0))) ∧ (Below w.heap.size w w')) (fun _ h => h.2) ?_
        clear hK K hHeld
        have hHeld := Lib.hid hNew
        clear hNew
        try simp only [Act.put, List.setIfInBounds_toArray, List.set_cons_zero, List.set_cons_succ]
        refine wpAnyH_takeL 3 (v := ?_) rfl (by kernel_rfl) (by kernel_rfl) (by kernel_rfl) (fun _ _ _ h => h) hHeld.out (yieldsIf_of rfl ?_) ?_
        rotate_left
        · (intro w hSw; go_simp <;> with_reducible rfl)
        try simp only [Act.put, List.setIfInBounds_toArray, List.set_cons_zero, List.set_cons_succ]
        refine wpAnyH_takeL 4 rfl (by kernel_rfl) (by kernel_rfl) (by kernel_rfl) (fun _ _ _ h => h) hHeld.out (yieldsIf_cell rfl 9 (.tmp 6) rfl _ rfl (.string ch) _ (fun _ h => (blk_cell h.1 j).trans hch.out) Try.underlying9 rfl) ?_
        try simp only [Act.put, List.setIfInBounds_toArray, List.set_cons_zero, List.set_cons_succ]
        refine wpAnyH_takeL 5 rfl (by kernel_rfl) (by kernel_rfl) (by kernel_rfl) (fun _ _ _ h => h) hHeld.out (yieldsIf_catR e1.out rfl (.const (.string ⟨#[97]⟩)) (.tmp 7) _ rfl rfl rfl) ?_
        try simp only [Act.put, List.setIfInBounds_toArray, List.set_cons_zero, List.set_cons_succ]
        refine wpAnyH_takeL 6 rfl (by kernel_rfl) (by kernel_rfl) (by kernel_rfl) (fun _ _ _ h => h) hHeld.out (yieldsIf_catR e2.out rfl (.tmp 8) (.const (.string ⟨#[32]⟩)) _ rfl rfl rfl) ?_
        try simp only [Act.put, List.setIfInBounds_toArray, List.set_cons_zero, List.set_cons_succ]
        refine wpAnyH_takeL 10 rfl (by kernel_rfl) (by kernel_rfl) (by kernel_rfl) (fun _ _ _ h => h) hHeld.out (yieldsIf_catR e3.out rfl (.tmp 9) (.tmp 12) _ rfl rfl rfl) ?_
        try simp only [Act.put, List.setIfInBounds_toArray, List.set_cons_zero, List.set_cons_succ]
        refine wpAnyH_takeL 11 rfl (by kernel_rfl) (by kernel_rfl) (by kernel_rfl) (fun _ _ _ h => h) hHeld.out (yieldsIf_catR e4.out rfl (.tmp 13) (.const (.string ⟨#[32]⟩)) _ rfl rfl rfl) ?_
        try simp only [Act.put, List.setIfInBounds_toArray, List.set_cons_zero, List.set_cons_succ]
        refine wpAnyH_takeL 17 rfl (by kernel_rfl) (by kernel_rfl) (by kernel_rfl) (fun _ _ _ h => h) hHeld.out (yieldsIf_catR e5.out rfl (.tmp 14) (.tmp 19) _ rfl rfl rfl) ?_
        try simp only [Act.put, List.setIfInBounds_toArray, List.set_cons_zero, List.set_cons_succ]
        refine wpAnyH_takeL 18 rfl (by kernel_rfl) (by kernel_rfl) (by kernel_rfl) (fun _ _ _ h => h) hHeld.out (yieldsIf_catR e6.out rfl (.tmp 20) (.const (.string ⟨#[32]⟩)) _ rfl rfl rfl) ?_
        try simp only [Act.put, List.setIfInBounds_toArray, List.set_cons_zero, List.set_cons_succ]
        refine wpAnyH_takeL 22 rfl (by kernel_rfl) (by kernel_rfl) (by kernel_rfl) (fun _ _ _ h => h) hHeld.out (yieldsIf_catR e7.out rfl (.tmp 21) (.tmp 24) _ rfl rfl rfl) ?_
        try simp only [Act.put, List.setIfInBounds_toArray, List.set_cons_zero, List.set_cons_succ]
        refine wpAnyH_takeL 23 (v := ?_) rfl (by kernel_rfl) (by kernel_rfl) (by kernel_rfl) (fun _ _ _ h => h) hHeld.out (yieldsIf_of rfl ?_) ?_
        rotate_left
        · (intro w hSw; go_simp <;> with_reducible rfl)
        try simp only [Act.put, List.setIfInBounds_toArray, List.set_cons_zero, List.set_cons_succ]
        refine wpAnyH_done (by kernel_rfl) ?_ _
        have HFI := Lib.hid (hHeld.out.2.2.2)
        clear hHeld
        go_wp2_with fail
        go_ret
        exact ⟨rfl, HFI.out⟩
end Go.Proofs.Ytekpbgmmogpbdaa.H
set_option linter.unusedVariables false
set_option linter.unusedSimpArgs false
set_option maxRecDepth 100000
namespace Go.Proofs.Ytekpbgmmogpbdaa.H
open Go.RowKit Go.Proofs.YtekpbgmmogpbdaaW.PrintWords
theorem RefText_walk (n : Int) (h : u64P n) : Gives Try.prog 54 #[.int .u64 n] (.string (textB n)) := by
  intro w
  obtain ⟨k, rfl⟩ := Int.eq_ofNat_of_zero_le h.1
  exact M.hurdleref01_Text.calls 16 (k : Int) _ w (ref_text k 16 (by unfold u64P at h; omega) (by omega))
theorem RefPrint_walk (arg cmp m v : Int) (hr : rightB arg cmp = true) (hm : u64P m) (hv : u64P v) : Gives Try.prog 58 #[CV arg cmp m v] (.string (condText arg.toNat cmp.toNat m v)) := by
  intro w
  obtain ⟨j, k, rfl, rfl, hj, hk⟩ := right_nats hr
  try simp only [Int.toNat_natCast]
  have s1 := textB_size m hm
  have s2 := textB_size v hv
  have s3 : (digB j).size = 1 := rfl
  have s4 := wordK_size k
  have z1 : (⟨#[97]⟩ : ByteArray).size = 1 := rfl
  have z2 : (⟨#[32]⟩ : ByteArray).size = 1 := rfl
  have q1 : ((⟨#[97]⟩ : ByteArray)).size + (digB j).size < 1000 := by (try simp only [ByteArray.size_append]); omega
  have q2 : (((⟨#[97]⟩ : ByteArray) ++ digB j)).size + ((⟨#[32]⟩ : ByteArray)).size < 1000 := by (try simp only [ByteArray.size_append]); omega
  have q3 : ((((⟨#[97]⟩ : ByteArray) ++ digB j) ++ (⟨#[32]⟩ : ByteArray))).size + (textB m).size < 1000 := by (try simp only [ByteArray.size_append]); omega
  have q4 : (((((⟨#[97]⟩ : ByteArray) ++ digB j) ++ (⟨#[32]⟩ : ByteArray)) ++ textB m)).size + ((⟨#[32]⟩ : ByteArray)).size < 1000 := by (try simp only [ByteArray.size_append]); omega
  have q5 : ((((((⟨#[97]⟩ : ByteArray) ++ digB j) ++ (⟨#[32]⟩ : ByteArray)) ++ textB m) ++ (⟨#[32]⟩ : ByteArray))).size + (wordK k).size < 1000 := by (try simp only [ByteArray.size_append]); omega
  have q6 : (((((((⟨#[97]⟩ : ByteArray) ++ digB j) ++ (⟨#[32]⟩ : ByteArray)) ++ textB m) ++ (⟨#[32]⟩ : ByteArray)) ++ wordK k)).size + ((⟨#[32]⟩ : ByteArray)).size < 1000 := by (try simp only [ByteArray.size_append]); omega
  have q7 : ((((((((⟨#[97]⟩ : ByteArray) ++ digB j) ++ (⟨#[32]⟩ : ByteArray)) ++ textB m) ++ (⟨#[32]⟩ : ByteArray)) ++ wordK k) ++ (⟨#[32]⟩ : ByteArray))).size + (textB v).size < 1000 := by (try simp only [ByteArray.size_append]); omega
  exact RefPrint_yes j k (by omega) (by omega) m v (digB j) (textB m) (textB v) (wordK k) (RefText_walk m hm) (RefText_walk v hv) (dg_at j hj) (wk_at k hk) _ _ _ _ _ _ _
      (cat_of _ _ q1) (cat_of _ _ q2) (cat_of _ _ q3) (cat_of _ _ q4) (cat_of _ _ q5) (cat_of _ _ q6) (cat_of _ _ q7) w
def hurdleref01_Text.f (a0 : Int) : Option ByteArray := if u64P a0 then some (textB a0) else none
theorem hurdleref01_Text.calls (a0 : Int) (r : ByteArray) (w : World) (h : hurdleref01_Text.f a0 = some r) :
    Calls Try.prog 54 #[.int .u64 a0] w fun e w' => e = .returned (.string r) ∧ Below w.heap.size w w' := by
  unfold hurdleref01_Text.f at h
  split at h
  · rename_i hh
    have := RefText_walk a0 hh w
    rw [Option.some.inj h] at this
    exact this
  · simp at h
def hurdleref08_Print.f (a0_0 : Int) (a0_1 : Int) (a0_2 : Int) (a0_3 : Int) : Option ByteArray := if rightB a0_0 a0_1 = true ∧ u64P a0_2 ∧ u64P a0_3 then some (condText a0_0.toNat a0_1.toNat a0_2 a0_3) else none
theorem hurdleref08_Print.calls (a0_0 : Int) (a0_1 : Int) (a0_2 : Int) (a0_3 : Int) (r : ByteArray) (w : World) (h : hurdleref08_Print.f a0_0 a0_1 a0_2 a0_3 = some r) :
    Calls Try.prog 58 #[.agg #[.int .i64 a0_0, .int .i64 a0_1, .int .u64 a0_2, .int .u64 a0_3]] w fun e w' => e = .returned (.string r) ∧ Below w.heap.size w w' := by
  unfold hurdleref08_Print.f at h
  split at h
  · rename_i hh
    have := RefPrint_walk a0_0 a0_1 a0_2 a0_3 hh.1 hh.2.1 hh.2.2 w
    rw [Option.some.inj h] at this
    exact this
  · simp at h
end Go.Proofs.Ytekpbgmmogpbdaa.H
namespace Go.Proofs.Ytekpbgmmogpbdaa.P
open Go.RowKit Go.Proofs.Ytekpbgmmogpbdaa.H Go.Proofs.YtekpbgmmogpbdaaW.PrintWords Go.Proofs.YtekpbgmmogpbdaaW.PrintLast Go.Proofs.YtekpbgmmogpbdaaW.PrintMore
attribute [local go_sem] max2_int min2_int max_two min_two max_three min_three max_four min_four
set_option linter.unusedVariables false
set_option linter.unusedSimpArgs false
theorem info9 : (Try.prog.info? 9).map (fun i => (i.zero, i.size, i.bytes)) = some (some (.string ⟨#[]⟩), 1, 16) := by kernel_rfl
theorem info23 : (Try.prog.info? 23).map (fun i => (i.zero, i.size, i.bytes)) = some (some (.int .u32 0), 1, 4) := by kernel_rfl
theorem k61_mk (w : World) (x : S61)  : k61.K w x [.int .i64 x.f0, .int .i64 x.f1, .int .u64 x.f2, .int .u64 x.f3] := ⟨[.int .i64 x.f0], [.int .i64 x.f1, .int .u64 x.f2, .int .u64 x.f3], rfl, rfl, ⟨[.int .i64 x.f1], [.int .u64 x.f2, .int .u64 x.f3], rfl, rfl, ⟨[.int .u64 x.f2], [.int .u64 x.f3], rfl, rfl, rfl⟩⟩⟩
theorem k40_mk (w : World) (x : S40) {A2 : Option Addr} {c2 : Nat} (l2 : x.f2.length ≤ c2) (g2 : k61.C w A2 x.f2.length x.f2) : k40.K w x [.int .u32 x.f0, .int .u32 x.f1, .slice A2 x.f2.length c2, .int .u32 x.f3] := ⟨[.int .u32 x.f0], [.int .u32 x.f1, .slice A2 x.f2.length c2, .int .u32 x.f3], rfl, rfl, ⟨[.int .u32 x.f1], [.slice A2 x.f2.length c2, .int .u32 x.f3], rfl, rfl, ⟨[.slice A2 x.f2.length c2], [.int .u32 x.f3], rfl, ⟨A2, c2, rfl, l2, g2⟩, rfl⟩⟩⟩
def rd_L8 (xs : List (List Int)) (i : Int) : (List Int) := xs.getD i.toNat ([] : List Int)
theorem at_L8 {w : World} {A : Option Addr} {n : Nat} {xs : List (List Int)} (h : Kd.C (Kd.slice 23 (Kd.int .u32)) w A n xs) (i : Int) (h0 : 0 ≤ i) (h1 : i < n) : ∃ ad A0 c0, A = some ad ∧ w.cell? (ad.add i.toNat) = some (.slice A0 (rd_L8 xs i).length c0) ∧ (rd_L8 xs i).length ≤ c0 ∧ (Kd.int .u32).C w A0 (rd_L8 xs i).length (rd_L8 xs i) := by
  obtain ⟨ad, c, e, _, hK, hc0⟩ := Kd.C_get h ([] : List Int) i h0 h1
  have hc : ∀ j u, c[j]? = some u → w.cell? (ad.add (i.toNat * 1 + j)) = some u := hc0
  obtain ⟨A0, c0, rfl, l0, g0⟩ := hK
  exact ⟨ad, A0, c0, e, by have hq := hc 0 _ rfl; rwa [Nat.mul_one, Nat.add_zero] at hq, l0, g0⟩
end Go.Proofs.Ytekpbgmmogpbdaa.P
namespace Go.Proofs.Ytekpbgmmogpbdaa.P
open Go.RowKit Go.Proofs.Ytekpbgmmogpbdaa.H Go.Proofs.YtekpbgmmogpbdaaW.PrintWords Go.Proofs.YtekpbgmmogpbdaaW.PrintLast Go.Proofs.YtekpbgmmogpbdaaW.PrintMore
attribute [local go_sem] max2_int min2_int max_two min_two max_three min_three max_four min_four
set_option linter.unusedVariables false
set_option linter.unusedSimpArgs false
def hurdlelaw10_Great.l0 : Nat → Int → List (S40) → Int → Option (Bool)
  | 0, _, _, _ => none
  | k + 1, x3, x102000, x102001 => if x3 < (x102000.length : Int) then (if 0 ≤ x3 then (if (((rd_T40 x102000 x3).f2).length : Int) > 20 then (some true) else (hurdlelaw10_Great.l0 k (wrap64 (x3 + 1)) x102000 x102001)) else (none)) else (some (decide ((x102000.length : Int) > 100)))
def hurdlelaw10_Great.f (k : Nat) (l0_0 : List (S40)) (a0_1 : Int) : Option (Bool) := hurdlelaw10_Great.l0 k 0 l0_0 a0_1
set_option maxHeartbeats 8000000 in
set_option maxRecDepth 100000 in
theorem hurdlelaw10_Great.calls (k : Nat) (A0_0 : Option Addr) (c0_0 : Nat) (l0_0 : List (S40)) (a0_1 : Int) (r : Bool) (w : World) (hr0_0 : Kd.C k40 w A0_0 l0_0.length l0_0) (hc0_0 : l0_0.length ≤ c0_0) (h : hurdlelaw10_Great.f k l0_0 a0_1 = some r) :
    Calls Try.prog 14 #[.agg #[.slice A0_0 l0_0.length c0_0, .int .u32 a0_1]] w fun e w' => e = .returned (.bool r) ∧ Below w.heap.size w w' := by
  have hu25 := Try.underlying25
  have HR0_0 := Aside0.mk hr0_0
  have HC0_0 := Aside0.mk hc0_0
  clear hr0_0 hc0_0
  have HB := Aside0.mk (Below.refl w.heap.size w)
  have H : (hurdlelaw10_Great.l0 k 0 l0_0 a0_1) = some r := h
  clear h
  have H' := Aside0.mk H
  clear H
  go_enter Try.func14, Try.ntmps14
  go_wp2_with (first | ((with_reducible refine gate_dst (N := 1) rfl ?_); refine box_event ?hg (N := 1) ?hd (cs := #[.slice A0_0 l0_0.length c0_0, .int .u32 a0_1]) (t := 25) ?hr ?_; (case hd => rfl); (case hg => rfl); (case hr => first | (go_simp; done) | (go_simp; rfl)); intro gb101 hg w2 hbox hb; have n0_ := Aside0.mk (below_step (by repeat (first | (with_reducible first | exact HB.out | apply below_alloc | apply pw_below_drewN | apply below_drew1) | exact HB.out)) hb); have n1_ := Aside0.mk (hbox); have n2_ := Aside0.mk ((by rw [hg]; exact (below_size (by repeat (first | (with_reducible first | exact HB.out | apply below_alloc | apply pw_below_drewN | apply below_drew1) | exact HB.out))) : w.heap.size ≤ gb101)); have n3_ := Aside0.mk ((by rw [hg]; exact (below_size (by repeat (first | (with_reducible first | exact HB.out | apply below_alloc | apply pw_below_drewN | apply below_drew1) | exact HB.out))) : w.heap.size ≤ gb101)); clear HB; have HB := n0_; have BK101 := n1_; have GW101 := n2_; have GE101 := n3_; clear n0_ n1_ n2_ n3_; clear hb hbox hg))
  go_loopg [3] k (fun kq v3 w' => ∃ (x3_1 : Int), v3 = .int .i64 x3_1 ∧ Aside0 (hurdlelaw10_Great.l0 kq x3_1 l0_0 a0_1 = some r) ∧ Aside0 (kq ≤ k) ∧ Aside0 (w'.heap[gb101]? = some (.cells #[(.slice A0_0 l0_0.length c0_0), .int .u32 a0_1] 25 (0, 0))) ∧ Aside0 (Below w.heap.size w w'))
  case atStart => exact ⟨(0), (by first | rfl | (simp; done) | (simp [*]; done)), H', ⟨Nat.le_refl _⟩, ⟨by (with_reducible repeat (first | refine blk_drewN ?_ _ | refine blk_drew ?_ | refine blk_alloc ?_ _)); exact BK101.out⟩, ⟨by repeat (first | (with_reducible first | exact HB.out | apply below_alloc | apply pw_below_drewN | apply below_drew1 | refine below_set ?_ GE101.out) | exact HB.out)⟩⟩
  case round =>
    clear H'
    try clear c1
    try clear p2
    obtain ⟨x3_1, rfl, HA, HK1, BK101, HB⟩ := hrel
    cases gk with
    | zero => exact absurd HA.out (by simp [hurdlelaw10_Great.l0])
    | succ k1 =>
      have H := HA.out
      clear HA
      simp only [hurdlelaw10_Great.l0] at H
      by_cases c3 : x3_1 < (l0_0.length : Int)
      · rw [if_pos c3] at H
        have c3b0 : decide (x3_1 < (l0_0.length : Int)) = true := decide_eq_true c3
        clear c3
        by_cases c4 : 0 ≤ x3_1
        · rw [if_pos c4] at H
          have c4b0 : decide (0 ≤ x3_1) = true := decide_eq_true c4
          clear c4
          by_cases c5 : (((rd_T40 l0_0 x3_1).f2).length : Int) > 20
          · rw [if_pos c5] at H
            have c5b0 : decide (20 < (((rd_T40 l0_0 x3_1).f2).length : Int)) = true := decide_eq_true c5
            have c5b1 : decide (20 < ((rd_T40 l0_0 x3_1).f2).length) = true := decide_eq_true (by omega)
            clear c5
            obtain rfl := Option.some.inj H
            have hcz6_0 : wr.cell? ⟨gb101, 0, none⟩ = some (.slice A0_0 l0_0.length c0_0) := (blk_cell BK101.out 0).trans rfl
            have hcz6_1 : wr.cell? ⟨gb101, 1, none⟩ = some (.int .u32 a0_1) := (blk_cell BK101.out 1).trans rfl
            have hfz6_0 := blk_frozen BK101.out 0
            have hfz6_1 := blk_frozen BK101.out 1
            have p102 : 0 ≤ (x3_1 : Int) := of_decide_eq_true (by first | (with_reducible assumption) | assumption)
            have q102 : x3_1 < (l0_0.length : Int) := of_decide_eq_true (by first | (with_reducible assumption) | assumption)
            obtain ⟨ad102, A102_2, c102_2, e102, hx102_0, hx102_1, hx102_2, hx102_3, hl102_2, hi102_2⟩ := at_T40 HR0_0.out x3_1 p102 q102
            cases e102
            replace hx102_0 := (HB.out.cell (World.block_lt_of_cell? w _ hx102_0)).trans hx102_0
            replace hx102_1 := (HB.out.cell (World.block_lt_of_cell? w _ hx102_1)).trans hx102_1
            replace hx102_2 := (HB.out.cell (World.block_lt_of_cell? w _ hx102_2)).trans hx102_2
            replace hx102_3 := (HB.out.cell (World.block_lt_of_cell? w _ hx102_3)).trans hx102_3
            have HR102_2 := Aside0.mk hi102_2
            have HC102_2 := Aside0.mk hl102_2
            clear hi102_2 hl102_2
            replace p102 := eq_true p102
            replace q102 := eq_true q102
            go_wp2
            go_ret
            exact ⟨by first | rfl | (simp [errW_none, errW_some] <;> rfl) | (simp [*, errW_none, errW_some] <;> rfl), by repeat (first | (with_reducible first | exact HB.out | apply below_alloc | apply pw_below_drewN | apply below_drew1 | refine below_set ?_ GE101.out) | exact HB.out)⟩
          · rw [if_neg c5] at H
            have c5b0 : decide (20 < (((rd_T40 l0_0 x3_1).f2).length : Int)) = false := decide_eq_false c5
            have c5b1 : decide (20 < ((rd_T40 l0_0 x3_1).f2).length) = false := decide_eq_false (by omega)
            clear c5
            have H' := Aside0.mk H
            clear H
            have hcz7_0 : wr.cell? ⟨gb101, 0, none⟩ = some (.slice A0_0 l0_0.length c0_0) := (blk_cell BK101.out 0).trans rfl
            have hcz7_1 : wr.cell? ⟨gb101, 1, none⟩ = some (.int .u32 a0_1) := (blk_cell BK101.out 1).trans rfl
            have hfz7_0 := blk_frozen BK101.out 0
            have hfz7_1 := blk_frozen BK101.out 1
            have p102 : 0 ≤ (x3_1 : Int) := of_decide_eq_true (by first | (with_reducible assumption) | assumption)
            have q102 : x3_1 < (l0_0.length : Int) := of_decide_eq_true (by first | (with_reducible assumption) | assumption)
            obtain ⟨ad102, A102_2, c102_2, e102, hx102_0, hx102_1, hx102_2, hx102_3, hl102_2, hi102_2⟩ := at_T40 HR0_0.out x3_1 p102 q102
            cases e102
            replace hx102_0 := (HB.out.cell (World.block_lt_of_cell? w _ hx102_0)).trans hx102_0
            replace hx102_1 := (HB.out.cell (World.block_lt_of_cell? w _ hx102_1)).trans hx102_1
            replace hx102_2 := (HB.out.cell (World.block_lt_of_cell? w _ hx102_2)).trans hx102_2
            replace hx102_3 := (HB.out.cell (World.block_lt_of_cell? w _ hx102_3)).trans hx102_3
            have HR102_2 := Aside0.mk hi102_2
            have HC102_2 := Aside0.mk hl102_2
            clear hi102_2 hl102_2
            replace p102 := eq_true p102
            replace q102 := eq_true q102
            go_wp2
            go_roundg k1
            case measure => have := HK1.out; omega
            case rel => exact ⟨(wrap64 (x3_1 + 1)), (by first | rfl | (simp; done) | (simp [*]; done)), H', ⟨by have := HK1.out; omega⟩, ⟨by (with_reducible repeat (first | refine blk_drewN ?_ _ | refine blk_drew ?_ | refine blk_alloc ?_ _)); exact BK101.out⟩, ⟨by repeat (first | (with_reducible first | exact HB.out | apply below_alloc | apply pw_below_drewN | apply below_drew1 | refine below_set ?_ GE101.out) | exact HB.out)⟩⟩
        · rw [if_neg c4] at H
          exact absurd H (by simp)
      · rw [if_neg c3] at H
        have c3b0 : decide (x3_1 < (l0_0.length : Int)) = false := decide_eq_false c3
        clear c3
        obtain rfl := Option.some.inj H
        have hcz8_0 : wr.cell? ⟨gb101, 0, none⟩ = some (.slice A0_0 l0_0.length c0_0) := (blk_cell BK101.out 0).trans rfl
        have hcz8_1 : wr.cell? ⟨gb101, 1, none⟩ = some (.int .u32 a0_1) := (blk_cell BK101.out 1).trans rfl
        have hfz8_0 := blk_frozen BK101.out 0
        have hfz8_1 := blk_frozen BK101.out 1
        go_wp2
        go_ret
        exact ⟨by first | rfl | (simp [errW_none, errW_some] <;> rfl) | (simp [*, errW_none, errW_some] <;> rfl), by repeat (first | (with_reducible first | exact HB.out | apply below_alloc | apply pw_below_drewN | apply below_drew1 | refine below_set ?_ GE101.out) | exact HB.out)⟩
end Go.Proofs.Ytekpbgmmogpbdaa.P
namespace Go.Proofs.Ytekpbgmmogpbdaa.P
open Go.RowKit Go.Proofs.Ytekpbgmmogpbdaa.H Go.Proofs.YtekpbgmmogpbdaaW.PrintWords Go.Proofs.YtekpbgmmogpbdaaW.PrintLast Go.Proofs.YtekpbgmmogpbdaaW.PrintMore
attribute [local go_sem] max2_int min2_int max_two min_two max_three min_three max_four min_four
set_option linter.unusedVariables false
set_option linter.unusedSimpArgs false
def hurdleref01_digits.f : Nat → Int → Option (ByteArray)
  | 0, _ => none
  | k + 1, a0 => (some (([(IntKind.u64.wrap (48 + (Int.tmod a0 16))) % 256] : List Int) : List Int)).bind fun y230 => (if (Int.tmod a0 16) > 9 then ((some (([(IntKind.u64.wrap (87 + (Int.tmod a0 16))) % 256] : List Int) : List Int)).bind fun y233 => (if a0 < 16 then (some (strOfNums y233)) else ((hurdleref01_digits.f k (IntKind.u64.wrap (Int.tdiv a0 16))).bind fun t236 => (if t236.size + (strOfNums y233).size ≤ 9223372036854775807 then (some (t236 ++ (strOfNums y233))) else (none))))) else (if a0 < 16 then (some (strOfNums y230)) else ((hurdleref01_digits.f k (IntKind.u64.wrap (Int.tdiv a0 16))).bind fun t237 => (if t237.size + (strOfNums y230).size ≤ 9223372036854775807 then (some (t237 ++ (strOfNums y230))) else (none)))))
set_option maxHeartbeats 8000000 in
set_option maxRecDepth 100000 in
theorem hurdleref01_digits.calls (k : Nat) : ∀ (a0 : Int) (r : ByteArray) (w : World) (h : hurdleref01_digits.f k a0 = some r),
    Calls Try.prog 71 #[.int .u64 a0] w fun e w' => e = .returned (.string r) ∧ Below w.heap.size w w' := by
  induction k using Nat.strongRecOn with
  | _ k ih =>
  intro a0 r w h
  cases k with
  | zero => exact absurd h (by simp [hurdleref01_digits.f])
  | succ k =>
  simp only [hurdleref01_digits.f] at h
  have HB := Aside0.mk (Below.refl w.heap.size w)
  have H : ((some (([(IntKind.u64.wrap (48 + (Int.tmod a0 16))) % 256] : List Int) : List Int)).bind fun y230 => (if (Int.tmod a0 16) > 9 then ((some (([(IntKind.u64.wrap (87 + (Int.tmod a0 16))) % 256] : List Int) : List Int)).bind fun y233 => (if a0 < 16 then (some (strOfNums y233)) else ((hurdleref01_digits.f k (IntKind.u64.wrap (Int.tdiv a0 16))).bind fun t236 => (if t236.size + (strOfNums y233).size ≤ 9223372036854775807 then (some (t236 ++ (strOfNums y233))) else (none))))) else (if a0 < 16 then (some (strOfNums y230)) else ((hurdleref01_digits.f k (IntKind.u64.wrap (Int.tdiv a0 16))).bind fun t237 => (if t237.size + (strOfNums y230).size ≤ 9223372036854775807 then (some (t237 ++ (strOfNums y230))) else (none)))))) = some r := h
  clear h
  obtain ⟨y230, hy230⟩ : ∃ y_ : List Int, y_ = (([(IntKind.u64.wrap (48 + (Int.tmod a0 16))) % 256] : List Int)) := ⟨_, rfl⟩
  replace H : (if (Int.tmod a0 16) > 9 then ((some (([(IntKind.u64.wrap (87 + (Int.tmod a0 16))) % 256] : List Int) : List Int)).bind fun y233 => (if a0 < 16 then (some (strOfNums y233)) else ((hurdleref01_digits.f k (IntKind.u64.wrap (Int.tdiv a0 16))).bind fun t236 => (if t236.size + (strOfNums y233).size ≤ 9223372036854775807 then (some (t236 ++ (strOfNums y233))) else (none))))) else (if a0 < 16 then (some (strOfNums y230)) else ((hurdleref01_digits.f k (IntKind.u64.wrap (Int.tdiv a0 16))).bind fun t237 => (if t237.size + (strOfNums y230).size ≤ 9223372036854775807 then (some (t237 ++ (strOfNums y230))) else (none))))) = some r := by first | (rw [hy230]; with_reducible exact H) | (have H2_ := (Option.bind_some _ _).symm.trans H; rw [hy230]; with_reducible exact H2_) | (have H2_ := (Option.bind_some _ _).symm.trans H; with_reducible exact H2_) | with_reducible exact H | (rw [hy230]; exact H) | exact H
  have Ny230 := Aside0.mk hy230
  clear hy230
  by_cases c2 : (Int.tmod a0 16) > 9
  · rw [if_pos c2] at H
    have c2b0 : decide (9 < (Int.tmod a0 16)) = true := decide_eq_true c2
    clear c2
    obtain ⟨y233, hy233⟩ : ∃ y_ : List Int, y_ = (([(IntKind.u64.wrap (87 + (Int.tmod a0 16))) % 256] : List Int)) := ⟨_, rfl⟩
    replace H : (if a0 < 16 then (some (strOfNums y233)) else ((hurdleref01_digits.f k (IntKind.u64.wrap (Int.tdiv a0 16))).bind fun t236 => (if t236.size + (strOfNums y233).size ≤ 9223372036854775807 then (some (t236 ++ (strOfNums y233))) else (none)))) = some r := by first | (rw [hy233]; with_reducible exact H) | (have H2_ := (Option.bind_some _ _).symm.trans H; rw [hy233]; with_reducible exact H2_) | (have H2_ := (Option.bind_some _ _).symm.trans H; with_reducible exact H2_) | with_reducible exact H | (rw [hy233]; exact H) | exact H
    have Ny233 := Aside0.mk hy233
    clear hy233
    by_cases c3 : a0 < 16
    · rw [if_pos c3] at H
      have c3b0 : decide (a0 < 16) = true := decide_eq_true c3
      clear c3
      obtain rfl := Option.some.inj H
      go_enter Try.func71, Try.ntmps71
      go_wp2_with (first | ((with_reducible refine gate_dst (N := 10) rfl ?_); refine Kd.R_lit (Kd.int .u8) _ 5 ?hg (N := 10) ?hd (xs := ([(IntKind.u64.wrap (48 + (Int.tmod a0 16))) % 256] : List Int)) (inner := [.int .u8 ((IntKind.u64.wrap (48 + (Int.tmod a0 16))) % 256)]) (ok := fun _ => True) (okp := fun _ => True) ?hr ?hp (fun _ hk => hk) trivial (Below.refl _ _) (Nat.le_refl _) (by simp) ?_; (case hd => rfl); (case hg => rfl); (case hr => first | (go_simp; done) | (go_simp; rfl)); (case hp => exact (Reps.one (show Kd.M (Kd.int .u8) _ _ _ ((IntKind.u64.wrap (48 + (Int.tmod a0 16))) % 256) [.int .u8 ((IntKind.u64.wrap (48 + (Int.tmod a0 16))) % 256)] from rfl) (Reps.none _ _))); intro v231 w4 ho5 hb hg_ hnew_; clear hg_ hnew_; (first | rw [← Ny230.out] at ho5 | (simp only [Int.reduceToNat] at ho5; rw [← Ny230.out] at ho5)); have n0_ := Aside0.mk (Kd.R_lower ho5 (below_size (by repeat (first | (with_reducible first | exact HB.out | apply below_alloc | apply pw_below_drewN | apply below_drew1) | exact HB.out)))); have n1_ := Aside0.mk (below_step (by repeat (first | (with_reducible first | exact HB.out | apply below_alloc | apply pw_below_drewN | apply below_drew1) | exact HB.out)) hb); clear HB; have HO232 := n0_; have HB := n1_; clear n0_ n1_; clear hb ho5; have hcv6 := own_string (P := Try.prog) Try.underlying101 Try.underlying5 Try.underlying9 (Kd.own_of_R HO232.out)) | ((with_reducible refine gate_dst (N := 17) rfl ?_); refine Kd.R_lit (Kd.int .u8) _ 5 ?hg (N := 17) ?hd (xs := ([(IntKind.u64.wrap (87 + (Int.tmod a0 16))) % 256] : List Int)) (inner := [.int .u8 ((IntKind.u64.wrap (87 + (Int.tmod a0 16))) % 256)]) (ok := fun _ => True) (okp := fun _ => True) ?hr ?hp (fun _ hk => hk) trivial (Below.refl _ _) (Nat.le_refl _) (by simp) ?_; (case hd => rfl); (case hg => rfl); (case hr => first | (go_simp; done) | (go_simp; rfl)); (case hp => exact (Reps.one (show Kd.M (Kd.int .u8) _ _ _ ((IntKind.u64.wrap (87 + (Int.tmod a0 16))) % 256) [.int .u8 ((IntKind.u64.wrap (87 + (Int.tmod a0 16))) % 256)] from rfl) (Reps.none _ _))); intro v234 w7 ho8 hb hg_ hnew_; clear hg_ hnew_; (first | rw [← Ny233.out] at ho8 | (simp only [Int.reduceToNat] at ho8; rw [← Ny233.out] at ho8)); have n0_ := Aside0.mk (Kd.R_elder' (by (with_reducible repeat (first | apply Kd.R_alloc | apply Kd.R_drewN | apply Kd.R_drew)); exact HO232.out) (Kd.R_base ho8) hb); have n1_ := Aside0.mk (Kd.R_lower (Kd.R_new' ho8 (Kd.R_lt (by (with_reducible repeat (first | apply Kd.R_alloc | apply Kd.R_drewN | apply Kd.R_drew)); exact HO232.out))) (below_size (by repeat (first | (with_reducible first | exact HB.out | apply below_alloc | apply pw_below_drewN | apply below_drew1) | exact HB.out)))); have n2_ := Aside0.mk (below_step (by repeat (first | (with_reducible first | exact HB.out | apply below_alloc | apply pw_below_drewN | apply below_drew1) | exact HB.out)) hb); clear HO232; clear HB; have HO232 := n0_; have HO235 := n1_; have HB := n2_; clear n0_ n1_ n2_; clear hb ho8; have hcv9 := own_string (P := Try.prog) Try.underlying101 Try.underlying5 Try.underlying9 (Kd.own_of_R HO235.out)))
      go_ret
      exact ⟨by first | rfl | (simp [errW_none, errW_some] <;> rfl) | (simp [*, errW_none, errW_some] <;> rfl), by repeat (first | (with_reducible first | exact HB.out | apply below_alloc | apply pw_below_drewN | apply below_drew1) | exact HB.out)⟩
    · rw [if_neg c3] at H
      have c3b0 : decide (a0 < 16) = false := decide_eq_false c3
      clear c3
      replace H := Option.bind_eq_some_iff.mp H
      obtain ⟨t236, A100, H⟩ := H
      replace H : (if t236.size + (strOfNums y233).size ≤ 9223372036854775807 then (some (t236 ++ (strOfNums y233))) else (none)) = some r := H
      have A10 := Aside0.mk A100
      clear A100
      by_cases c11 : t236.size + (strOfNums y233).size ≤ 9223372036854775807
      · rw [if_pos c11] at H
        have c11b0 := eq_true c11
        have c11b1 : decide (t236.size + (strOfNums y233).size ≤ 9223372036854775807) = true := decide_eq_true c11
        try have c11b2 : (9223372036854775807 < t236.size + (strOfNums y233).size) = False := eq_false (Nat.not_lt.2 c11)
        obtain rfl := Option.some.inj H
        go_enter Try.func71, Try.ntmps71
        go_wp2_with (first | ((with_reducible refine gate_dst (N := 10) rfl ?_); refine Kd.R_lit (Kd.int .u8) _ 5 ?hg (N := 10) ?hd (xs := ([(IntKind.u64.wrap (48 + (Int.tmod a0 16))) % 256] : List Int)) (inner := [.int .u8 ((IntKind.u64.wrap (48 + (Int.tmod a0 16))) % 256)]) (ok := fun _ => True) (okp := fun _ => True) ?hr ?hp (fun _ hk => hk) trivial (Below.refl _ _) (Nat.le_refl _) (by simp) ?_; (case hd => rfl); (case hg => rfl); (case hr => first | (go_simp; done) | (go_simp; rfl)); (case hp => exact (Reps.one (show Kd.M (Kd.int .u8) _ _ _ ((IntKind.u64.wrap (48 + (Int.tmod a0 16))) % 256) [.int .u8 ((IntKind.u64.wrap (48 + (Int.tmod a0 16))) % 256)] from rfl) (Reps.none _ _))); intro v231 w12 ho13 hb hg_ hnew_; clear hg_ hnew_; (first | rw [← Ny230.out] at ho13 | (simp only [Int.reduceToNat] at ho13; rw [← Ny230.out] at ho13)); have n0_ := Aside0.mk (Kd.R_lower ho13 (below_size (by repeat (first | (with_reducible first | exact HB.out | apply below_alloc | apply pw_below_drewN | apply below_drew1) | exact HB.out)))); have n1_ := Aside0.mk (below_step (by repeat (first | (with_reducible first | exact HB.out | apply below_alloc | apply pw_below_drewN | apply below_drew1) | exact HB.out)) hb); clear HB; have HO232 := n0_; have HB := n1_; clear n0_ n1_; clear hb ho13; have hcv14 := own_string (P := Try.prog) Try.underlying101 Try.underlying5 Try.underlying9 (Kd.own_of_R HO232.out)) | ((with_reducible refine gate_dst (N := 17) rfl ?_); refine Kd.R_lit (Kd.int .u8) _ 5 ?hg (N := 17) ?hd (xs := ([(IntKind.u64.wrap (87 + (Int.tmod a0 16))) % 256] : List Int)) (inner := [.int .u8 ((IntKind.u64.wrap (87 + (Int.tmod a0 16))) % 256)]) (ok := fun _ => True) (okp := fun _ => True) ?hr ?hp (fun _ hk => hk) trivial (Below.refl _ _) (Nat.le_refl _) (by simp) ?_; (case hd => rfl); (case hg => rfl); (case hr => first | (go_simp; done) | (go_simp; rfl)); (case hp => exact (Reps.one (show Kd.M (Kd.int .u8) _ _ _ ((IntKind.u64.wrap (87 + (Int.tmod a0 16))) % 256) [.int .u8 ((IntKind.u64.wrap (87 + (Int.tmod a0 16))) % 256)] from rfl) (Reps.none _ _))); intro v234 w15 ho16 hb hg_ hnew_; clear hg_ hnew_; (first | rw [← Ny233.out] at ho16 | (simp only [Int.reduceToNat] at ho16; rw [← Ny233.out] at ho16)); have n0_ := Aside0.mk (Kd.R_elder' (by (with_reducible repeat (first | apply Kd.R_alloc | apply Kd.R_drewN | apply Kd.R_drew)); exact HO232.out) (Kd.R_base ho16) hb); have n1_ := Aside0.mk (Kd.R_lower (Kd.R_new' ho16 (Kd.R_lt (by (with_reducible repeat (first | apply Kd.R_alloc | apply Kd.R_drewN | apply Kd.R_drew)); exact HO232.out))) (below_size (by repeat (first | (with_reducible first | exact HB.out | apply below_alloc | apply pw_below_drewN | apply below_drew1) | exact HB.out)))); have n2_ := Aside0.mk (below_step (by repeat (first | (with_reducible first | exact HB.out | apply below_alloc | apply pw_below_drewN | apply below_drew1) | exact HB.out)) hb); clear HO232; clear HB; have HO232 := n0_; have HO235 := n1_; have HB := n2_; clear n0_ n1_ n2_; clear hb ho16; have hcv17 := own_string (P := Try.prog) Try.underlying101 Try.underlying5 Try.underlying9 (Kd.own_of_R HO235.out)) | ((with_reducible refine gate_callee (f := 71) rfl ?_); refine goesL_ (some 24) rfl rfl Try.func71 (by kernel_rfl) rfl #[.int .u64 (IntKind.u64.wrap (Int.tdiv a0 16))] rfl (by (try simp only [List.map_toArray, List.map_cons, List.map_nil]); first | done | rfl | (simp only [List.length_drop, List.length_take]; rfl)) ?_; (with_reducible refine (ih k (by omega) (IntKind.u64.wrap (Int.tdiv a0 16)) t236 _ A10.out).mono ?_); rintro e w18 ⟨rfl, hb⟩; refine ⟨_, rfl, ?_⟩; have n0_ := Aside0.mk (Kd.R_below (by (with_reducible repeat (first | apply Kd.R_alloc | apply Kd.R_drewN | apply Kd.R_drew)); exact HO232.out) hb); have n1_ := Aside0.mk (Kd.R_below (by (with_reducible repeat (first | apply Kd.R_alloc | apply Kd.R_drewN | apply Kd.R_drew)); exact HO235.out) hb); have n2_ := Aside0.mk (below_step (by repeat (first | (with_reducible first | exact HB.out | apply below_alloc | apply pw_below_drewN | apply below_drew1) | exact HB.out)) hb); clear HO232; clear HO235; clear HB; have HO232 := n0_; have HO235 := n1_; have HB := n2_; clear n0_ n1_ n2_; (try clear hb); (try clear hb2); (try clear hk); (try clear hi)))
        go_ret
        exact ⟨by first | rfl | (simp [errW_none, errW_some] <;> rfl) | (simp [*, errW_none, errW_some] <;> rfl), by repeat (first | (with_reducible first | exact HB.out | apply below_alloc | apply pw_below_drewN | apply below_drew1) | exact HB.out)⟩
      · rw [if_neg c11] at H
        exact absurd H (by simp)
  · rw [if_neg c2] at H
    have c2b0 : decide (9 < (Int.tmod a0 16)) = false := decide_eq_false c2
    clear c2
    by_cases c19 : a0 < 16
    · rw [if_pos c19] at H
      have c19b0 : decide (a0 < 16) = true := decide_eq_true c19
      clear c19
      obtain rfl := Option.some.inj H
      go_enter Try.func71, Try.ntmps71
      go_wp2_with (first | ((with_reducible refine gate_dst (N := 10) rfl ?_); refine Kd.R_lit (Kd.int .u8) _ 5 ?hg (N := 10) ?hd (xs := ([(IntKind.u64.wrap (48 + (Int.tmod a0 16))) % 256] : List Int)) (inner := [.int .u8 ((IntKind.u64.wrap (48 + (Int.tmod a0 16))) % 256)]) (ok := fun _ => True) (okp := fun _ => True) ?hr ?hp (fun _ hk => hk) trivial (Below.refl _ _) (Nat.le_refl _) (by simp) ?_; (case hd => rfl); (case hg => rfl); (case hr => first | (go_simp; done) | (go_simp; rfl)); (case hp => exact (Reps.one (show Kd.M (Kd.int .u8) _ _ _ ((IntKind.u64.wrap (48 + (Int.tmod a0 16))) % 256) [.int .u8 ((IntKind.u64.wrap (48 + (Int.tmod a0 16))) % 256)] from rfl) (Reps.none _ _))); intro v231 w20 ho21 hb hg_ hnew_; clear hg_ hnew_; (first | rw [← Ny230.out] at ho21 | (simp only [Int.reduceToNat] at ho21; rw [← Ny230.out] at ho21)); have n0_ := Aside0.mk (Kd.R_lower ho21 (below_size (by repeat (first | (with_reducible first | exact HB.out | apply below_alloc | apply pw_below_drewN | apply below_drew1) | exact HB.out)))); have n1_ := Aside0.mk (below_step (by repeat (first | (with_reducible first | exact HB.out | apply below_alloc | apply pw_below_drewN | apply below_drew1) | exact HB.out)) hb); clear HB; have HO232 := n0_; have HB := n1_; clear n0_ n1_; clear hb ho21; have hcv22 := own_string (P := Try.prog) Try.underlying101 Try.underlying5 Try.underlying9 (Kd.own_of_R HO232.out)))
      go_ret
      exact ⟨by first | rfl | (simp [errW_none, errW_some] <;> rfl) | (simp [*, errW_none, errW_some] <;> rfl), by repeat (first | (with_reducible first | exact HB.out | apply below_alloc | apply pw_below_drewN | apply below_drew1) | exact HB.out)⟩
    · rw [if_neg c19] at H
      have c19b0 : decide (a0 < 16) = false := decide_eq_false c19
      clear c19
      replace H := Option.bind_eq_some_iff.mp H
      obtain ⟨t237, A230, H⟩ := H
      replace H : (if t237.size + (strOfNums y230).size ≤ 9223372036854775807 then (some (t237 ++ (strOfNums y230))) else (none)) = some r := H
      have A23 := Aside0.mk A230
      clear A230
      by_cases c24 : t237.size + (strOfNums y230).size ≤ 9223372036854775807
      · rw [if_pos c24] at H
        have c24b0 := eq_true c24
        have c24b1 : decide (t237.size + (strOfNums y230).size ≤ 9223372036854775807) = true := decide_eq_true c24
        try have c24b2 : (9223372036854775807 < t237.size + (strOfNums y230).size) = False := eq_false (Nat.not_lt.2 c24)
        obtain rfl := Option.some.inj H
        go_enter Try.func71, Try.ntmps71
        go_wp2_with (first | ((with_reducible refine gate_dst (N := 10) rfl ?_); refine Kd.R_lit (Kd.int .u8) _ 5 ?hg (N := 10) ?hd (xs := ([(IntKind.u64.wrap (48 + (Int.tmod a0 16))) % 256] : List Int)) (inner := [.int .u8 ((IntKind.u64.wrap (48 + (Int.tmod a0 16))) % 256)]) (ok := fun _ => True) (okp := fun _ => True) ?hr ?hp (fun _ hk => hk) trivial (Below.refl _ _) (Nat.le_refl _) (by simp) ?_; (case hd => rfl); (case hg => rfl); (case hr => first | (go_simp; done) | (go_simp; rfl)); (case hp => exact (Reps.one (show Kd.M (Kd.int .u8) _ _ _ ((IntKind.u64.wrap (48 + (Int.tmod a0 16))) % 256) [.int .u8 ((IntKind.u64.wrap (48 + (Int.tmod a0 16))) % 256)] from rfl) (Reps.none _ _))); intro v231 w25 ho26 hb hg_ hnew_; clear hg_ hnew_; (first | rw [← Ny230.out] at ho26 | (simp only [Int.reduceToNat] at ho26; rw [← Ny230.out] at ho26)); have n0_ := Aside0.mk (Kd.R_lower ho26 (below_size (by repeat (first | (with_reducible first | exact HB.out | apply below_alloc | apply pw_below_drewN | apply below_drew1) | exact HB.out)))); have n1_ := Aside0.mk (below_step (by repeat (first | (with_reducible first | exact HB.out | apply below_alloc | apply pw_below_drewN | apply below_drew1) | exact HB.out)) hb); clear HB; have HO232 := n0_; have HB := n1_; clear n0_ n1_; clear hb ho26; have hcv27 := own_string (P := Try.prog) Try.underlying101 Try.underlying5 Try.underlying9 (Kd.own_of_R HO232.out)) | ((with_reducible refine gate_callee (f := 71) rfl ?_); refine goesL_ (some 24) rfl rfl Try.func71 (by kernel_rfl) rfl #[.int .u64 (IntKind.u64.wrap (Int.tdiv a0 16))] rfl (by (try simp only [List.map_toArray, List.map_cons, List.map_nil]); first | done | rfl | (simp only [List.length_drop, List.length_take]; rfl)) ?_; (with_reducible refine (ih k (by omega) (IntKind.u64.wrap (Int.tdiv a0 16)) t237 _ A23.out).mono ?_); rintro e w28 ⟨rfl, hb⟩; refine ⟨_, rfl, ?_⟩; have n0_ := Aside0.mk (Kd.R_below (by (with_reducible repeat (first | apply Kd.R_alloc | apply Kd.R_drewN | apply Kd.R_drew)); exact HO232.out) hb); have n1_ := Aside0.mk (below_step (by repeat (first | (with_reducible first | exact HB.out | apply below_alloc | apply pw_below_drewN | apply below_drew1) | exact HB.out)) hb); clear HO232; clear HB; have HO232 := n0_; have HB := n1_; clear n0_ n1_; (try clear hb); (try clear hb2); (try clear hk); (try clear hi)))
        go_ret
        exact ⟨by first | rfl | (simp [errW_none, errW_some] <;> rfl) | (simp [*, errW_none, errW_some] <;> rfl), by repeat (first | (with_reducible first | exact HB.out | apply below_alloc | apply pw_below_drewN | apply below_drew1) | exact HB.out)⟩
      · rw [if_neg c24] at H
        exact absurd H (by simp)
def hurdleref09_Action.j0 : Nat → Int → Bool → Option (ByteArray)
  | 0, _, _ => none
  | k + 1, x0, x8 => if x8 = true then ((hurdleref01_Text.f ((x0 - 327680) % 4294967296)).bind fun t238 => (if 6 + t238.size ≤ 9223372036854775807 then (some ((⟨#[101, 114, 114, 111, 114, 58]⟩ : ByteArray) ++ t238)) else (none))) else (if x0 = 0 then (some (⟨#[107, 105, 108, 108]⟩ : ByteArray)) else (if x0 = 196608 then (some (⟨#[116, 114, 97, 112]⟩ : ByteArray)) else (if x0 = 2147221504 then (some (⟨#[108, 111, 103]⟩ : ByteArray)) else (if x0 = 2147418112 then (some (⟨#[97, 108, 108, 111, 119]⟩ : ByteArray)) else (some (⟨#[]⟩ : ByteArray))))))
def hurdleref09_Action.f (k : Nat) (a0 : Int) : Option (ByteArray) := if a0 ≥ 327680 then (hurdleref09_Action.j0 k a0 (decide (a0 ≤ 331775))) else (hurdleref09_Action.j0 k a0 false)
set_option maxHeartbeats 8000000 in
set_option maxRecDepth 100000 in
theorem hurdleref09_Action.calls (k : Nat) (a0 : Int) (r : ByteArray) (w : World) (h : hurdleref09_Action.f k a0 = some r) :
    Calls Try.prog 33 #[.int .u32 a0] w fun e w' => e = .returned (.string r) ∧ Below w.heap.size w w' := by
  have HB := Aside0.mk (Below.refl w.heap.size w)
  have H : (if a0 ≥ 327680 then (hurdleref09_Action.j0 k a0 (decide (a0 ≤ 331775))) else (hurdleref09_Action.j0 k a0 false)) = some r := h
  clear h
  have HC2 := Aside0.mk H
  clear H
  go_enter Try.func33, Try.ntmps33
  go_upto_region 1 with (fail)
  go_cut [8] (fun v8 wc => ∃ (kq : Nat) (x8_1 : Bool), v8 = .bool x8_1 ∧ Aside0 (hurdleref09_Action.j0 kq a0 x8_1 = some r) ∧ Aside0 (kq ≤ k) ∧ Aside0 (Below w.heap.size w wc))
  case first =>
    have H := HC2.out
    clear HC2
    by_cases c3 : a0 ≥ 327680
    · rw [if_pos c3] at H
      have c3b0 : decide (327680 ≤ a0) = true := decide_eq_true c3
      clear c3
      (first | rw [c3b0] | (simp only [i64_w, i32_w]; rw [c3b0]) | skip)
      have H' := Aside0.mk H
      clear H
      go_wp2
      go_meet
      case rel => exact ⟨_, (decide (a0 ≤ 331775)), (by first | rfl | (simp; done) | (simp [*]; done)), H', ⟨by first | omega | exact Nat.le_refl _⟩, ⟨by repeat (first | (with_reducible first | exact HB.out | apply below_alloc | apply pw_below_drewN | apply below_drew1) | exact HB.out)⟩⟩
    · rw [if_neg c3] at H
      have c3b0 : decide (327680 ≤ a0) = false := decide_eq_false c3
      clear c3
      (first | rw [c3b0] | (simp only [i64_w, i32_w]; rw [c3b0]) | skip)
      have H' := Aside0.mk H
      clear H
      go_wp2
      go_meet
      case rel => exact ⟨_, (false), (by first | rfl | (simp; done) | (simp [*]; done)), H', ⟨by first | omega | exact Nat.le_refl _⟩, ⟨by repeat (first | (with_reducible first | exact HB.out | apply below_alloc | apply pw_below_drewN | apply below_drew1) | exact HB.out)⟩⟩
  case rest =>
    clear HC2
    try clear p2
    try clear c3
    try clear c3b0
    obtain ⟨kq, x8_1, rfl, HA, HJ1, HB⟩ := hcut
    cases kq with
    | zero => exact absurd HA.out (by simp [hurdleref09_Action.j0])
    | succ kj1 =>
      have H := HA.out
      clear HA
      simp only [hurdleref09_Action.j0] at H
      by_cases c4 : x8_1 = true
      · subst c4
        have H1 : ((hurdleref01_Text.f ((a0 - 327680) % 4294967296)).bind fun t238 => (if 6 + t238.size ≤ 9223372036854775807 then (some ((⟨#[101, 114, 114, 111, 114, 58]⟩ : ByteArray) ++ t238)) else (none))) = some r := by rw [if_pos rfl] at H; exact H
        clear H
        have H := H1
        clear H1
        replace H := Option.bind_eq_some_iff.mp H
        obtain ⟨t238, A50, H⟩ := H
        replace H : (if 6 + t238.size ≤ 9223372036854775807 then (some ((⟨#[101, 114, 114, 111, 114, 58]⟩ : ByteArray) ++ t238)) else (none)) = some r := H
        have A5 := Aside0.mk A50
        clear A50
        by_cases c6 : 6 + t238.size ≤ 9223372036854775807
        · rw [if_pos c6] at H
          have c6b0 := eq_true c6
          have c6b1 : decide (6 + t238.size ≤ 9223372036854775807) = true := decide_eq_true c6
          try have c6b2 : (9223372036854775807 < 6 + t238.size) = False := eq_false (Nat.not_lt.2 c6)
          obtain rfl := Option.some.inj H
          go_wp2_with (first | ((with_reducible refine gate_callee (f := 54) rfl ?_); refine goesL_ (some 12) rfl rfl Try.func54 (by kernel_rfl) rfl #[.int .u64 ((a0 - 327680) % 4294967296)] rfl (by (try simp only [List.map_toArray, List.map_cons, List.map_nil]); first | done | rfl | (simp only [List.length_drop, List.length_take]; rfl)) ?_; (with_reducible refine (hurdleref01_Text.calls ((a0 - 327680) % 4294967296) t238 _ A5.out).mono ?_); rintro e w7 ⟨rfl, hb⟩; refine ⟨_, rfl, ?_⟩; have n0_ := Aside0.mk (below_step (by repeat (first | (with_reducible first | exact HB.out | apply below_alloc | apply pw_below_drewN | apply below_drew1) | exact HB.out)) hb); clear HB; have HB := n0_; clear n0_; (try clear hb); (try clear hb2); (try clear hk); (try clear hi)))
          go_ret
          exact ⟨by first | rfl | (simp [errW_none, errW_some] <;> rfl) | (simp [*, errW_none, errW_some] <;> rfl), by repeat (first | (with_reducible first | exact HB.out | apply below_alloc | apply pw_below_drewN | apply below_drew1) | exact HB.out)⟩
        · rw [if_neg c6] at H
          exact absurd H (by simp)
      · replace c4 := Bool.eq_false_iff.mpr c4
        subst c4
        have H1 : (if a0 = 0 then (some (⟨#[107, 105, 108, 108]⟩ : ByteArray)) else (if a0 = 196608 then (some (⟨#[116, 114, 97, 112]⟩ : ByteArray)) else (if a0 = 2147221504 then (some (⟨#[108, 111, 103]⟩ : ByteArray)) else (if a0 = 2147418112 then (some (⟨#[97, 108, 108, 111, 119]⟩ : ByteArray)) else (some (⟨#[]⟩ : ByteArray)))))) = some r := by rw [if_neg (show ¬ (false = true) by decide)] at H; exact H
        clear H
        have H := H1
        clear H1
        by_cases c8 : a0 = 0
        · rw [if_pos c8] at H
          have c8b0 : (a0 == 0) = true := beq_iff_eq.mpr c8
          have c8b1 : (a0 != 0) = false := bne_eq_false_iff_eq.mpr c8
          clear c8
          obtain rfl := Option.some.inj H
          go_wp2
          go_ret
          exact ⟨by first | rfl | (simp [errW_none, errW_some] <;> rfl) | (simp [*, errW_none, errW_some] <;> rfl), by repeat (first | (with_reducible first | exact HB.out | apply below_alloc | apply pw_below_drewN | apply below_drew1) | exact HB.out)⟩
        · rw [if_neg c8] at H
          have c8b0 : (a0 == 0) = false := beq_eq_false_iff_ne.mpr c8
          have c8b1 : (a0 != 0) = true := bne_iff_ne.mpr c8
          by_cases c9 : a0 = 196608
          · rw [if_pos c9] at H
            have c9b0 : (a0 == 196608) = true := beq_iff_eq.mpr c9
            have c9b1 : (a0 != 196608) = false := bne_eq_false_iff_eq.mpr c9
            clear c9
            obtain rfl := Option.some.inj H
            go_wp2
            go_ret
            exact ⟨by first | rfl | (simp [errW_none, errW_some] <;> rfl) | (simp [*, errW_none, errW_some] <;> rfl), by repeat (first | (with_reducible first | exact HB.out | apply below_alloc | apply pw_below_drewN | apply below_drew1) | exact HB.out)⟩
          · rw [if_neg c9] at H
            have c9b0 : (a0 == 196608) = false := beq_eq_false_iff_ne.mpr c9
            have c9b1 : (a0 != 196608) = true := bne_iff_ne.mpr c9
            by_cases c10 : a0 = 2147221504
            · rw [if_pos c10] at H
              have c10b0 : (a0 == 2147221504) = true := beq_iff_eq.mpr c10
              have c10b1 : (a0 != 2147221504) = false := bne_eq_false_iff_eq.mpr c10
              clear c10
              obtain rfl := Option.some.inj H
              go_wp2
              go_ret
              exact ⟨by first | rfl | (simp [errW_none, errW_some] <;> rfl) | (simp [*, errW_none, errW_some] <;> rfl), by repeat (first | (with_reducible first | exact HB.out | apply below_alloc | apply pw_below_drewN | apply below_drew1) | exact HB.out)⟩
            · rw [if_neg c10] at H
              have c10b0 : (a0 == 2147221504) = false := beq_eq_false_iff_ne.mpr c10
              have c10b1 : (a0 != 2147221504) = true := bne_iff_ne.mpr c10
              by_cases c11 : a0 = 2147418112
              · rw [if_pos c11] at H
                have c11b0 : (a0 == 2147418112) = true := beq_iff_eq.mpr c11
                have c11b1 : (a0 != 2147418112) = false := bne_eq_false_iff_eq.mpr c11
                clear c11
                obtain rfl := Option.some.inj H
                go_wp2
                go_ret
                exact ⟨by first | rfl | (simp [errW_none, errW_some] <;> rfl) | (simp [*, errW_none, errW_some] <;> rfl), by repeat (first | (with_reducible first | exact HB.out | apply below_alloc | apply pw_below_drewN | apply below_drew1) | exact HB.out)⟩
              · rw [if_neg c11] at H
                have c11b0 : (a0 == 2147418112) = false := beq_eq_false_iff_ne.mpr c11
                have c11b1 : (a0 != 2147418112) = true := bne_iff_ne.mpr c11
                obtain rfl := Option.some.inj H
                go_wp2
                go_ret
                exact ⟨by first | rfl | (simp [errW_none, errW_some] <;> rfl) | (simp [*, errW_none, errW_some] <;> rfl), by repeat (first | (with_reducible first | exact HB.out | apply below_alloc | apply pw_below_drewN | apply below_drew1) | exact HB.out)⟩
def hurdleref08_Right.f (a0_0 : Int) (a0_1 : Int) (a0_2 : Int) (a0_3 : Int) : Option (Bool) := if a0_0 ≥ 0 then (if a0_0 ≤ 5 then (if a0_1 ≥ 0 then (some (decide (a0_1 ≤ 5))) else (some false)) else (some false)) else (some false)
set_option maxHeartbeats 8000000 in
set_option maxRecDepth 100000 in
theorem hurdleref08_Right.calls (a0_0 : Int) (a0_1 : Int) (a0_2 : Int) (a0_3 : Int) (r : Bool) (w : World) (h : hurdleref08_Right.f a0_0 a0_1 a0_2 a0_3 = some r) :
    Calls Try.prog 34 #[.agg #[.int .i64 a0_0, .int .i64 a0_1, .int .u64 a0_2, .int .u64 a0_3]] w fun e w' => e = .returned (.bool r) ∧ Below w.heap.size w w' := by
  have hu61 := Try.underlying61
  have HB := Aside0.mk (Below.refl w.heap.size w)
  have H : (if a0_0 ≥ 0 then (if a0_0 ≤ 5 then (if a0_1 ≥ 0 then (some (decide (a0_1 ≤ 5))) else (some false)) else (some false)) else (some false)) = some r := h
  clear h
  by_cases c2 : a0_0 ≥ 0
  · rw [if_pos c2] at H
    have c2b0 : decide (0 ≤ a0_0) = true := decide_eq_true c2
    clear c2
    by_cases c3 : a0_0 ≤ 5
    · rw [if_pos c3] at H
      have c3b0 : decide (a0_0 ≤ 5) = true := decide_eq_true c3
      clear c3
      by_cases c4 : a0_1 ≥ 0
      · rw [if_pos c4] at H
        have c4b0 : decide (0 ≤ a0_1) = true := decide_eq_true c4
        clear c4
        obtain rfl := Option.some.inj H
        go_enter Try.func34, Try.ntmps34
        go_wp2_with (first | ((with_reducible refine gate_dst (N := 1) rfl ?_); refine box_event ?hg (N := 1) ?hd (cs := #[.int .i64 a0_0, .int .i64 a0_1, .int .u64 a0_2, .int .u64 a0_3]) (t := 61) ?hr ?_; (case hd => rfl); (case hg => rfl); (case hr => first | (go_simp; done) | (go_simp; rfl)); intro gb239 hg w5 hbox hb; have n0_ := Aside0.mk (below_step (by repeat (first | (with_reducible first | exact HB.out | apply below_alloc | apply pw_below_drewN | apply below_drew1) | exact HB.out)) hb); have n1_ := Aside0.mk (hbox); have n2_ := Aside0.mk ((by rw [hg]; exact (below_size (by repeat (first | (with_reducible first | exact HB.out | apply below_alloc | apply pw_below_drewN | apply below_drew1) | exact HB.out))) : w.heap.size ≤ gb239)); have n3_ := Aside0.mk ((by rw [hg]; exact (below_size (by repeat (first | (with_reducible first | exact HB.out | apply below_alloc | apply pw_below_drewN | apply below_drew1) | exact HB.out))) : w.heap.size ≤ gb239)); clear HB; have HB := n0_; have BK239 := n1_; have GW239 := n2_; have GE239 := n3_; clear n0_ n1_ n2_ n3_; clear hb hbox hg; have hcz6_0 : w5.cell? ⟨gb239, 0, none⟩ = some (.int .i64 a0_0) := (blk_cell BK239.out 0).trans rfl; have hcz6_1 : w5.cell? ⟨gb239, 1, none⟩ = some (.int .i64 a0_1) := (blk_cell BK239.out 1).trans rfl; have hcz6_2 : w5.cell? ⟨gb239, 2, none⟩ = some (.int .u64 a0_2) := (blk_cell BK239.out 2).trans rfl; have hcz6_3 : w5.cell? ⟨gb239, 3, none⟩ = some (.int .u64 a0_3) := (blk_cell BK239.out 3).trans rfl; have hfz6_0 := blk_frozen BK239.out 0; have hfz6_1 := blk_frozen BK239.out 1; have hfz6_2 := blk_frozen BK239.out 2; have hfz6_3 := blk_frozen BK239.out 3))
        go_ret
        exact ⟨by first | rfl | (simp [errW_none, errW_some] <;> rfl) | (simp [*, errW_none, errW_some] <;> rfl), by repeat (first | (with_reducible first | exact HB.out | apply below_alloc | apply pw_below_drewN | apply below_drew1 | refine below_set ?_ GE239.out) | exact HB.out)⟩
      · rw [if_neg c4] at H
        have c4b0 : decide (0 ≤ a0_1) = false := decide_eq_false c4
        clear c4
        obtain rfl := Option.some.inj H
        go_enter Try.func34, Try.ntmps34
        go_wp2_with (first | ((with_reducible refine gate_dst (N := 1) rfl ?_); refine box_event ?hg (N := 1) ?hd (cs := #[.int .i64 a0_0, .int .i64 a0_1, .int .u64 a0_2, .int .u64 a0_3]) (t := 61) ?hr ?_; (case hd => rfl); (case hg => rfl); (case hr => first | (go_simp; done) | (go_simp; rfl)); intro gb239 hg w7 hbox hb; have n0_ := Aside0.mk (below_step (by repeat (first | (with_reducible first | exact HB.out | apply below_alloc | apply pw_below_drewN | apply below_drew1) | exact HB.out)) hb); have n1_ := Aside0.mk (hbox); have n2_ := Aside0.mk ((by rw [hg]; exact (below_size (by repeat (first | (with_reducible first | exact HB.out | apply below_alloc | apply pw_below_drewN | apply below_drew1) | exact HB.out))) : w.heap.size ≤ gb239)); have n3_ := Aside0.mk ((by rw [hg]; exact (below_size (by repeat (first | (with_reducible first | exact HB.out | apply below_alloc | apply pw_below_drewN | apply below_drew1) | exact HB.out))) : w.heap.size ≤ gb239)); clear HB; have HB := n0_; have BK239 := n1_; have GW239 := n2_; have GE239 := n3_; clear n0_ n1_ n2_ n3_; clear hb hbox hg; have hcz8_0 : w7.cell? ⟨gb239, 0, none⟩ = some (.int .i64 a0_0) := (blk_cell BK239.out 0).trans rfl; have hcz8_1 : w7.cell? ⟨gb239, 1, none⟩ = some (.int .i64 a0_1) := (blk_cell BK239.out 1).trans rfl; have hcz8_2 : w7.cell? ⟨gb239, 2, none⟩ = some (.int .u64 a0_2) := (blk_cell BK239.out 2).trans rfl; have hcz8_3 : w7.cell? ⟨gb239, 3, none⟩ = some (.int .u64 a0_3) := (blk_cell BK239.out 3).trans rfl; have hfz8_0 := blk_frozen BK239.out 0; have hfz8_1 := blk_frozen BK239.out 1; have hfz8_2 := blk_frozen BK239.out 2; have hfz8_3 := blk_frozen BK239.out 3))
        go_ret
        exact ⟨by first | rfl | (simp [errW_none, errW_some] <;> rfl) | (simp [*, errW_none, errW_some] <;> rfl), by repeat (first | (with_reducible first | exact HB.out | apply below_alloc | apply pw_below_drewN | apply below_drew1 | refine below_set ?_ GE239.out) | exact HB.out)⟩
    · rw [if_neg c3] at H
      have c3b0 : decide (a0_0 ≤ 5) = false := decide_eq_false c3
      clear c3
      obtain rfl := Option.some.inj H
      go_enter Try.func34, Try.ntmps34
      go_wp2_with (first | ((with_reducible refine gate_dst (N := 1) rfl ?_); refine box_event ?hg (N := 1) ?hd (cs := #[.int .i64 a0_0, .int .i64 a0_1, .int .u64 a0_2, .int .u64 a0_3]) (t := 61) ?hr ?_; (case hd => rfl); (case hg => rfl); (case hr => first | (go_simp; done) | (go_simp; rfl)); intro gb239 hg w9 hbox hb; have n0_ := Aside0.mk (below_step (by repeat (first | (with_reducible first | exact HB.out | apply below_alloc | apply pw_below_drewN | apply below_drew1) | exact HB.out)) hb); have n1_ := Aside0.mk (hbox); have n2_ := Aside0.mk ((by rw [hg]; exact (below_size (by repeat (first | (with_reducible first | exact HB.out | apply below_alloc | apply pw_below_drewN | apply below_drew1) | exact HB.out))) : w.heap.size ≤ gb239)); have n3_ := Aside0.mk ((by rw [hg]; exact (below_size (by repeat (first | (with_reducible first | exact HB.out | apply below_alloc | apply pw_below_drewN | apply below_drew1) | exact HB.out))) : w.heap.size ≤ gb239)); clear HB; have HB := n0_; have BK239 := n1_; have GW239 := n2_; have GE239 := n3_; clear n0_ n1_ n2_ n3_; clear hb hbox hg; have hcz10_0 : w9.cell? ⟨gb239, 0, none⟩ = some (.int .i64 a0_0) := (blk_cell BK239.out 0).trans rfl; have hcz10_1 : w9.cell? ⟨gb239, 1, none⟩ = some (.int .i64 a0_1) := (blk_cell BK239.out 1).trans rfl; have hcz10_2 : w9.cell? ⟨gb239, 2, none⟩ = some (.int .u64 a0_2) := (blk_cell BK239.out 2).trans rfl; have hcz10_3 : w9.cell? ⟨gb239, 3, none⟩ = some (.int .u64 a0_3) := (blk_cell BK239.out 3).trans rfl; have hfz10_0 := blk_frozen BK239.out 0; have hfz10_1 := blk_frozen BK239.out 1; have hfz10_2 := blk_frozen BK239.out 2; have hfz10_3 := blk_frozen BK239.out 3))
      go_ret
      exact ⟨by first | rfl | (simp [errW_none, errW_some] <;> rfl) | (simp [*, errW_none, errW_some] <;> rfl), by repeat (first | (with_reducible first | exact HB.out | apply below_alloc | apply pw_below_drewN | apply below_drew1 | refine below_set ?_ GE239.out) | exact HB.out)⟩
  · rw [if_neg c2] at H
    have c2b0 : decide (0 ≤ a0_0) = false := decide_eq_false c2
    clear c2
    obtain rfl := Option.some.inj H
    go_enter Try.func34, Try.ntmps34
    go_wp2_with (first | ((with_reducible refine gate_dst (N := 1) rfl ?_); refine box_event ?hg (N := 1) ?hd (cs := #[.int .i64 a0_0, .int .i64 a0_1, .int .u64 a0_2, .int .u64 a0_3]) (t := 61) ?hr ?_; (case hd => rfl); (case hg => rfl); (case hr => first | (go_simp; done) | (go_simp; rfl)); intro gb239 hg w11 hbox hb; have n0_ := Aside0.mk (below_step (by repeat (first | (with_reducible first | exact HB.out | apply below_alloc | apply pw_below_drewN | apply below_drew1) | exact HB.out)) hb); have n1_ := Aside0.mk (hbox); have n2_ := Aside0.mk ((by rw [hg]; exact (below_size (by repeat (first | (with_reducible first | exact HB.out | apply below_alloc | apply pw_below_drewN | apply below_drew1) | exact HB.out))) : w.heap.size ≤ gb239)); have n3_ := Aside0.mk ((by rw [hg]; exact (below_size (by repeat (first | (with_reducible first | exact HB.out | apply below_alloc | apply pw_below_drewN | apply below_drew1) | exact HB.out))) : w.heap.size ≤ gb239)); clear HB; have HB := n0_; have BK239 := n1_; have GW239 := n2_; have GE239 := n3_; clear n0_ n1_ n2_ n3_; clear hb hbox hg; have hcz12_0 : w11.cell? ⟨gb239, 0, none⟩ = some (.int .i64 a0_0) := (blk_cell BK239.out 0).trans rfl; have hcz12_1 : w11.cell? ⟨gb239, 1, none⟩ = some (.int .i64 a0_1) := (blk_cell BK239.out 1).trans rfl; have hcz12_2 : w11.cell? ⟨gb239, 2, none⟩ = some (.int .u64 a0_2) := (blk_cell BK239.out 2).trans rfl; have hcz12_3 : w11.cell? ⟨gb239, 3, none⟩ = some (.int .u64 a0_3) := (blk_cell BK239.out 3).trans rfl; have hfz12_0 := blk_frozen BK239.out 0; have hfz12_1 := blk_frozen BK239.out 1; have hfz12_2 := blk_frozen BK239.out 2; have hfz12_3 := blk_frozen BK239.out 3))
    go_ret
    exact ⟨by first | rfl | (simp [errW_none, errW_some] <;> rfl) | (simp [*, errW_none, errW_some] <;> rfl), by repeat (first | (with_reducible first | exact HB.out | apply below_alloc | apply pw_below_drewN | apply below_drew1 | refine below_set ?_ GE239.out) | exact HB.out)⟩
end Go.Proofs.Ytekpbgmmogpbdaa.P
namespace Go.Proofs.Ytekpbgmmogpbdaa.P
open Go.RowKit Go.Proofs.Ytekpbgmmogpbdaa.H Go.Proofs.YtekpbgmmogpbdaaW.PrintWords Go.Proofs.YtekpbgmmogpbdaaW.PrintLast Go.Proofs.YtekpbgmmogpbdaaW.PrintMore
attribute [local go_sem] max2_int min2_int max_two min_two max_three min_three max_four min_four
set_option linter.unusedVariables false
set_option linter.unusedSimpArgs false
mutual
def hurdleref10_Right.j0 : Nat → Bool → List (S40) → Int → Option (Bool)
  | 0, _, _, _ => none
  | k + 1, x15, x241000, x241001 => if x15 = true then (some false) else (hurdleref10_Right.l0 k 0 x241000 x241001)
def hurdleref10_Right.l0 : Nat → Int → List (S40) → Int → Option (Bool)
  | 0, _, _, _ => none
  | k + 1, x3, x241000, x241001 => if x3 < (x241000.length : Int) then (if 0 ≤ x3 then (if (((rd_T40 x241000 x3).f2).length : Int) > 4 then (hurdleref10_Right.j2 k x3 true x241000 x241001 ((rd_T40 x241000 x3).f0) ((rd_T40 x241000 x3).f1) ((rd_T40 x241000 x3).f2) ((rd_T40 x241000 x3).f3)) else ((hurdleref09_Action.f k ((rd_T40 x241000 x3).f3)).bind fun t244 => (hurdleref10_Right.j2 k x3 (t244.toList == ([] : List UInt8)) x241000 x241001 ((rd_T40 x241000 x3).f0) ((rd_T40 x241000 x3).f1) ((rd_T40 x241000 x3).f2) ((rd_T40 x241000 x3).f3)))) else (none)) else (some true)
def hurdleref10_Right.j2 : Nat → Int → Bool → List (S40) → Int → Int → Int → List (S61) → Int → Option (Bool)
  | 0, _, _, _, _, _, _, _, _ => none
  | k + 1, x3, x37, x241000, x241001, x244000, x244001, x244002, x244003 => if x37 = true then (some false) else (hurdleref10_Right.l1 k x3 0 x241000 x241001 x244000 x244001 x244002 x244003)
def hurdleref10_Right.l1 : Nat → Int → Int → List (S40) → Int → Int → Int → List (S61) → Int → Option (Bool)
  | 0, _, _, _, _, _, _, _, _ => none
  | k + 1, x3, x5, x241000, x241001, x244000, x244001, x244002, x244003 => if x5 < (x244002.length : Int) then (if 0 ≤ x5 then ((hurdleref08_Right.f ((rd_T61 x244002 x5).f0) ((rd_T61 x244002 x5).f1) ((rd_T61 x244002 x5).f2) ((rd_T61 x244002 x5).f3)).bind fun t246 => (if t246 = true then (hurdleref10_Right.l1 k x3 (wrap64 (x5 + 1)) x241000 x241001 x244000 x244001 x244002 x244003) else (some false))) else (none)) else (hurdleref10_Right.l0 k (wrap64 (x3 + 1)) x241000 x241001)
end
def hurdleref10_Right.f (k : Nat) (l0_0 : List (S40)) (a0_1 : Int) : Option (Bool) := if (l0_0.length : Int) > 64 then (hurdleref10_Right.j0 k true l0_0 a0_1) else ((hurdleref09_Action.f k a0_1).bind fun t241 => (hurdleref10_Right.j0 k (t241.toList == ([] : List UInt8)) l0_0 a0_1))
set_option maxHeartbeats 8000000 in
set_option maxRecDepth 100000 in
theorem hurdleref10_Right.calls (k : Nat) (A0_0 : Option Addr) (c0_0 : Nat) (l0_0 : List (S40)) (a0_1 : Int) (r : Bool) (w : World) (hr0_0 : Kd.C k40 w A0_0 l0_0.length l0_0) (hc0_0 : l0_0.length ≤ c0_0) (h : hurdleref10_Right.f k l0_0 a0_1 = some r) :
    Calls Try.prog 17 #[.agg #[.slice A0_0 l0_0.length c0_0, .int .u32 a0_1]] w fun e w' => e = .returned (.bool r) ∧ Below w.heap.size w w' := by
  have hu25 := Try.underlying25
  have hu40 := Try.underlying40
  have hu61 := Try.underlying61
  have HR0_0 := Aside0.mk hr0_0
  have HC0_0 := Aside0.mk hc0_0
  clear hr0_0 hc0_0
  have HB := Aside0.mk (Below.refl w.heap.size w)
  have H : (if (l0_0.length : Int) > 64 then (hurdleref10_Right.j0 k true l0_0 a0_1) else ((hurdleref09_Action.f k a0_1).bind fun t241 => (hurdleref10_Right.j0 k (t241.toList == ([] : List UInt8)) l0_0 a0_1))) = some r := h
  clear h
  have HC2 := Aside0.mk H
  clear H
  go_enter Try.func17, Try.ntmps17
  go_upto_region 1 with (first | ((with_reducible refine gate_dst (N := 1) rfl ?_); refine box_event ?hg (N := 1) ?hd (cs := #[.slice A0_0 l0_0.length c0_0, .int .u32 a0_1]) (t := 25) ?hr ?_; (case hd => rfl); (case hg => rfl); (case hr => first | (go_simp; done) | (go_simp; rfl)); intro gb240 hg w3 hbox hb; have n0_ := Aside0.mk (below_step (by repeat (first | (with_reducible first | exact HB.out | apply below_alloc | apply pw_below_drewN | apply below_drew1) | exact HB.out)) hb); have n1_ := Aside0.mk (hbox); have n2_ := Aside0.mk ((by rw [hg]; exact (below_size (by repeat (first | (with_reducible first | exact HB.out | apply below_alloc | apply pw_below_drewN | apply below_drew1) | exact HB.out))) : w.heap.size ≤ gb240)); have n3_ := Aside0.mk ((by rw [hg]; exact (below_size (by repeat (first | (with_reducible first | exact HB.out | apply below_alloc | apply pw_below_drewN | apply below_drew1) | exact HB.out))) : w.heap.size ≤ gb240)); clear HB; have HB := n0_; have BK240 := n1_; have GW240 := n2_; have GE240 := n3_; clear n0_ n1_ n2_ n3_; clear hb hbox hg))
  (try simp only [Act.put, List.setIfInBounds_toArray, List.set_cons_zero, List.set_cons_succ])
  go_cut [15] (fun v15 wc => ∃ (kq : Nat) (x15_1 : Bool), v15 = .bool x15_1 ∧ Aside0 (hurdleref10_Right.j0 kq x15_1 l0_0 a0_1 = some r) ∧ Aside0 (kq ≤ k) ∧ Aside0 (wc.heap[gb240]? = some (.cells #[(.slice A0_0 l0_0.length c0_0), .int .u32 a0_1] 25 (0, 0))) ∧ Aside0 (Below w.heap.size w wc))
  case first =>
    have H := HC2.out
    clear HC2
    by_cases c4 : (l0_0.length : Int) > 64
    · rw [if_pos c4] at H
      have c4b0 : decide (64 < (l0_0.length : Int)) = true := decide_eq_true c4
      have c4b1 : decide (64 < l0_0.length) = true := decide_eq_true (by omega)
      clear c4
      (first | rw [c4b0] | (simp only [i64_w, i32_w]; rw [c4b0]) | skip)
      have H' := Aside0.mk H
      clear H
      have hcz5_0 : w3.cell? ⟨gb240, 0, none⟩ = some (.slice A0_0 l0_0.length c0_0) := (blk_cell BK240.out 0).trans rfl
      have hcz5_1 : w3.cell? ⟨gb240, 1, none⟩ = some (.int .u32 a0_1) := (blk_cell BK240.out 1).trans rfl
      have hfz5_0 := blk_frozen BK240.out 0
      have hfz5_1 := blk_frozen BK240.out 1
      go_wp2
      go_meet
      case rel => exact ⟨_, (true), (by first | rfl | (simp; done) | (simp [*]; done)), H', ⟨by first | omega | exact Nat.le_refl _⟩, ⟨by (with_reducible repeat (first | refine blk_drewN ?_ _ | refine blk_drew ?_ | refine blk_alloc ?_ _)); exact BK240.out⟩, ⟨by repeat (first | (with_reducible first | exact HB.out | apply below_alloc | apply pw_below_drewN | apply below_drew1 | refine below_set ?_ GE240.out) | exact HB.out)⟩⟩
    · rw [if_neg c4] at H
      have c4b0 : decide (64 < (l0_0.length : Int)) = false := decide_eq_false c4
      have c4b1 : decide (64 < l0_0.length) = false := decide_eq_false (by omega)
      clear c4
      (first | rw [c4b0] | (simp only [i64_w, i32_w]; rw [c4b0]) | skip)
      replace H := Option.bind_eq_some_iff.mp H
      obtain ⟨t241, A60, H⟩ := H
      replace H : (hurdleref10_Right.j0 k (t241.toList == ([] : List UInt8)) l0_0 a0_1) = some r := H
      have A6 := Aside0.mk A60
      clear A60
      have H' := Aside0.mk H
      clear H
      have hcz7_0 : w3.cell? ⟨gb240, 0, none⟩ = some (.slice A0_0 l0_0.length c0_0) := (blk_cell BK240.out 0).trans rfl
      have hcz7_1 : w3.cell? ⟨gb240, 1, none⟩ = some (.int .u32 a0_1) := (blk_cell BK240.out 1).trans rfl
      have hfz7_0 := blk_frozen BK240.out 0
      have hfz7_1 := blk_frozen BK240.out 1
      go_wp2_with (first | (go_at_call 33; (with_reducible refine (hurdleref09_Action.calls k a0_1 t241 _ A6.out).mono ?_); rintro e w8 ⟨rfl, hb⟩; have n0_ := Aside0.mk (blk_below (g := gb240) (o := .cells #[.slice A0_0 l0_0.length c0_0, .int .u32 a0_1] 25 (0, 0)) (by (with_reducible repeat (first | refine blk_drewN ?_ _ | refine blk_drew ?_ | refine blk_alloc ?_ _)); exact BK240.out) hb); have n1_ := Aside0.mk (below_step (by repeat (first | (with_reducible first | exact HB.out | apply below_alloc | apply pw_below_drewN | apply below_drew1 | refine below_set ?_ GE240.out) | exact HB.out)) hb); clear BK240; clear HB; have BK240 := n0_; have HB := n1_; clear n0_ n1_; (try clear hb); (try clear hb2); (try clear hk); (try clear hi)))
      go_meet
      case rel => exact ⟨_, ((t241.toList == ([] : List UInt8))), (by first | rfl | (simp; done) | (simp [*]; done)), H', ⟨by first | omega | exact Nat.le_refl _⟩, ⟨by (with_reducible repeat (first | refine blk_drewN ?_ _ | refine blk_drew ?_ | refine blk_alloc ?_ _)); exact BK240.out⟩, ⟨by repeat (first | (with_reducible first | exact HB.out | apply below_alloc | apply pw_below_drewN | apply below_drew1 | refine below_set ?_ GE240.out) | exact HB.out)⟩⟩
  case rest =>
    clear HC2
    try clear c1
    try clear p2
    try clear c4
    try clear c4b0
    try clear c4b1
    try clear hcz5_0
    try clear hcz5_1
    try clear hcz7_0
    try clear hcz7_1
    try clear hfz5_0
    try clear hfz5_1
    try clear hfz7_0
    try clear hfz7_1
    obtain ⟨kq, x15_1, rfl, HA, HJ1, BK240, HB⟩ := hcut
    cases kq with
    | zero => exact absurd HA.out (by simp [hurdleref10_Right.j0])
    | succ kj1 =>
      have H := HA.out
      clear HA
      simp only [hurdleref10_Right.j0] at H
      by_cases c9 : x15_1 = true
      · subst c9
        have H1 : (some false) = some r := by rw [if_pos rfl] at H; exact H
        clear H
        have H := H1
        clear H1
        obtain rfl := Option.some.inj H
        go_wp2
        go_ret
        exact ⟨by first | rfl | (simp [errW_none, errW_some] <;> rfl) | (simp [*, errW_none, errW_some] <;> rfl), by repeat (first | (with_reducible first | exact HB.out | apply below_alloc | apply pw_below_drewN | apply below_drew1 | refine below_set ?_ GE240.out) | exact HB.out)⟩
      · replace c9 := Bool.eq_false_iff.mpr c9
        subst c9
        have H1 : (hurdleref10_Right.l0 kj1 0 l0_0 a0_1) = some r := by rw [if_neg (show ¬ (false = true) by decide)] at H; exact H
        clear H
        have H := H1
        clear H1
        have H' := Aside0.mk H
        clear H
        go_wp2
        go_loopg [3] kj1 (fun kq v3 w' => ∃ (x3_2 : Int), v3 = .int .i64 x3_2 ∧ Aside0 (hurdleref10_Right.l0 kq x3_2 l0_0 a0_1 = some r) ∧ Aside0 (kq ≤ kj1) ∧ Aside0 (w'.heap[gb240]? = some (.cells #[(.slice A0_0 l0_0.length c0_0), .int .u32 a0_1] 25 (0, 0))) ∧ Aside0 (Below w.heap.size w w'))
        case atStart => exact ⟨(0), (by first | rfl | (simp; done) | (simp [*]; done)), H', ⟨Nat.le_refl _⟩, ⟨by (with_reducible repeat (first | refine blk_drewN ?_ _ | refine blk_drew ?_ | refine blk_alloc ?_ _)); exact BK240.out⟩, ⟨by repeat (first | (with_reducible first | exact HB.out | apply below_alloc | apply pw_below_drewN | apply below_drew1 | refine below_set ?_ GE240.out) | exact HB.out)⟩⟩
        case round =>
          clear H'
          try clear c1
          try clear p2
          try clear c4
          try clear c4b0
          try clear c4b1
          try clear c9
          try clear hcz5_0
          try clear hcz5_1
          try clear hcz7_0
          try clear hcz7_1
          try clear hfz5_0
          try clear hfz5_1
          try clear hfz7_0
          try clear hfz7_1
          try clear p2
          obtain ⟨x3_2, rfl, HA, HK2, BK240, HB⟩ := hrel
          cases gk with
          | zero => exact absurd HA.out (by simp [hurdleref10_Right.l0])
          | succ k2 =>
            have H := HA.out
            clear HA
            simp only [hurdleref10_Right.l0] at H
            by_cases c10 : x3_2 < (l0_0.length : Int)
            · rw [if_pos c10] at H
              have c10b0 : decide (x3_2 < (l0_0.length : Int)) = true := decide_eq_true c10
              clear c10
              by_cases c11 : 0 ≤ x3_2
              · rw [if_pos c11] at H
                have c11b0 : decide (0 ≤ x3_2) = true := decide_eq_true c11
                clear c11
                have HC12 := Aside0.mk H
                clear H
                have hcz13_0 : wr.cell? ⟨gb240, 0, none⟩ = some (.slice A0_0 l0_0.length c0_0) := (blk_cell BK240.out 0).trans rfl
                have hcz13_1 : wr.cell? ⟨gb240, 1, none⟩ = some (.int .u32 a0_1) := (blk_cell BK240.out 1).trans rfl
                have hfz13_0 := blk_frozen BK240.out 0
                have hfz13_1 := blk_frozen BK240.out 1
                have p242 : 0 ≤ (x3_2 : Int) := of_decide_eq_true (by first | (with_reducible assumption) | assumption)
                have q242 : x3_2 < (l0_0.length : Int) := of_decide_eq_true (by first | (with_reducible assumption) | assumption)
                obtain ⟨ad242, A242_2, c242_2, e242, hx242_0, hx242_1, hx242_2, hx242_3, hl242_2, hi242_2⟩ := at_T40 HR0_0.out x3_2 p242 q242
                cases e242
                replace hx242_0 := (HB.out.cell (World.block_lt_of_cell? w _ hx242_0)).trans hx242_0
                replace hx242_1 := (HB.out.cell (World.block_lt_of_cell? w _ hx242_1)).trans hx242_1
                replace hx242_2 := (HB.out.cell (World.block_lt_of_cell? w _ hx242_2)).trans hx242_2
                replace hx242_3 := (HB.out.cell (World.block_lt_of_cell? w _ hx242_3)).trans hx242_3
                have HR242_2 := Aside0.mk hi242_2
                have HC242_2 := Aside0.mk hl242_2
                clear hi242_2 hl242_2
                replace p242 := eq_true p242
                replace q242 := eq_true q242
                go_upto_region 7 with (first | ((with_reducible refine gate_dst (N := 4) rfl ?_); refine box_event ?hg (N := 4) ?hd (cs := #[.int .u32 0, .int .u32 0, .slice none 0 0, .int .u32 0]) (t := 40) ?hr ?_; (case hd => rfl); (case hg => rfl); (case hr => first | (go_simp; done) | (go_simp; rfl)); intro gb243 hg w14 hbox hb; have n0_ := Aside0.mk (blk_below (g := gb240) (o := .cells #[.slice (some ad242) l0_0.length c0_0, .int .u32 a0_1] 25 (0, 0)) (by (with_reducible repeat (first | refine blk_drewN ?_ _ | refine blk_drew ?_ | refine blk_alloc ?_ _)); exact BK240.out) hb); have n1_ := Aside0.mk (below_step (by repeat (first | (with_reducible first | exact HB.out | apply below_alloc | apply pw_below_drewN | apply below_drew1 | refine below_set ?_ GE240.out) | exact HB.out)) hb); have n2_ := Aside0.mk (hbox); have n3_ := Aside0.mk ((by rw [hg]; exact (below_size (by repeat (first | (with_reducible first | exact HB.out | apply below_alloc | apply pw_below_drewN | apply below_drew1 | refine below_set ?_ GE240.out) | exact HB.out))) : w.heap.size ≤ gb243)); have n4_ := Aside0.mk ((by rw [hg]; exact (below_size (by repeat (first | (with_reducible first | exact HB.out | apply below_alloc | apply pw_below_drewN | apply below_drew1 | refine below_set ?_ GE240.out) | exact HB.out))) : w.heap.size ≤ gb243)); have n5_ := Aside0.mk ((by rw [hg]; exact Nat.ne_of_lt (blk_lt (g := gb240) (o := .cells #[.slice (some ad242) l0_0.length c0_0, .int .u32 a0_1] 25 (0, 0)) (by (with_reducible repeat (first | refine blk_drewN ?_ _ | refine blk_drew ?_ | refine blk_alloc ?_ _)); exact BK240.out)) : gb240 ≠ gb243)); have n6_ := Aside0.mk ((by rw [hg]; exact Nat.ne_of_gt (blk_lt (g := gb240) (o := .cells #[.slice (some ad242) l0_0.length c0_0, .int .u32 a0_1] 25 (0, 0)) (by (with_reducible repeat (first | refine blk_drewN ?_ _ | refine blk_drew ?_ | refine blk_alloc ?_ _)); exact BK240.out)) : gb243 ≠ gb240)); clear BK240; clear HB; have BK240 := n0_; have HB := n1_; have BK243 := n2_; have GW243 := n3_; have GE243 := n4_; have NB240_243 := n5_; have NB243_240 := n6_; clear n0_ n1_ n2_ n3_ n4_ n5_ n6_; clear hb hbox hg; have hnb15 := NB243_240.out; have hnc15 := NB240_243.out; have hcz16_0 : w14.cell? ⟨gb243, 0, none⟩ = some (.int .u32 0) := (blk_cell BK243.out 0).trans rfl; have hcz16_1 : w14.cell? ⟨gb243, 1, none⟩ = some (.int .u32 0) := (blk_cell BK243.out 1).trans rfl; have hcz16_2 : w14.cell? ⟨gb243, 2, none⟩ = some (.slice none 0 0) := (blk_cell BK243.out 2).trans rfl; have hcz16_3 : w14.cell? ⟨gb243, 3, none⟩ = some (.int .u32 0) := (blk_cell BK243.out 3).trans rfl; have hfz16_0 := blk_frozen BK243.out 0; have hfz16_1 := blk_frozen BK243.out 1; have hfz16_2 := blk_frozen BK243.out 2; have hfz16_3 := blk_frozen BK243.out 3))
                (try simp only [Act.put, List.setIfInBounds_toArray, List.set_cons_zero, List.set_cons_succ])
                go_cut [37] (fun v37 wc => ∃ (kq : Nat) (x37_11 : Bool), v37 = .bool x37_11 ∧ Aside0 (hurdleref10_Right.j2 kq x3_2 x37_11 l0_0 a0_1 ((rd_T40 l0_0 x3_2).f0) ((rd_T40 l0_0 x3_2).f1) ((rd_T40 l0_0 x3_2).f2) ((rd_T40 l0_0 x3_2).f3) = some r) ∧ Aside0 (kq ≤ k2) ∧ Aside0 (wc.heap[gb240]? = some (.cells #[(.slice (some ad242) l0_0.length c0_0), .int .u32 a0_1] 25 (0, 0))) ∧ Aside0 (wc.heap[gb243]? = some (.cells #[.int .u32 ((rd_T40 l0_0 x3_2).f0), .int .u32 ((rd_T40 l0_0 x3_2).f1), (.slice A242_2 ((rd_T40 l0_0 x3_2).f2).length c242_2), .int .u32 ((rd_T40 l0_0 x3_2).f3)] 40 (0, 0))) ∧ Aside0 (Below w.heap.size w wc))
                case first =>
                  have H := HC12.out
                  clear HC12
                  by_cases c17 : (((rd_T40 l0_0 x3_2).f2).length : Int) > 4
                  · rw [if_pos c17] at H
                    have c17b0 : decide (4 < (((rd_T40 l0_0 x3_2).f2).length : Int)) = true := decide_eq_true c17
                    have c17b1 : decide (4 < ((rd_T40 l0_0 x3_2).f2).length) = true := decide_eq_true (by omega)
                    clear c17
                    (first | rw [c17b0] | (simp only [i64_w, i32_w]; rw [c17b0]) | skip)
                    have H' := Aside0.mk H
                    clear H
                    have hnb18 := NB243_240.out
                    have hnc18 := NB240_243.out
                    have hcz19_0 : w14.cell? ⟨gb243, 0, none⟩ = some (.int .u32 0) := (blk_cell BK243.out 0).trans rfl
                    have hcz19_1 : w14.cell? ⟨gb243, 1, none⟩ = some (.int .u32 0) := (blk_cell BK243.out 1).trans rfl
                    have hcz19_2 : w14.cell? ⟨gb243, 2, none⟩ = some (.slice none 0 0) := (blk_cell BK243.out 2).trans rfl
                    have hcz19_3 : w14.cell? ⟨gb243, 3, none⟩ = some (.int .u32 0) := (blk_cell BK243.out 3).trans rfl
                    have hfz19_0 := blk_frozen BK243.out 0
                    have hfz19_1 := blk_frozen BK243.out 1
                    have hfz19_2 := blk_frozen BK243.out 2
                    have hfz19_3 := blk_frozen BK243.out 3
                    go_wp2
                    go_meet
                    case rel => exact ⟨_, (true), (by first | rfl | (simp; done) | (simp [*]; done)), H', ⟨by have := HJ1.out; have := HK2.out; first | omega | exact Nat.le_refl _⟩, ⟨by (with_reducible repeat (first | refine blk_drewN ?_ _ | refine blk_drew ?_ | refine blk_alloc ?_ _)); refine blk_far ?_ NB240_243.out _; (with_reducible repeat (first | refine blk_drewN ?_ _ | refine blk_drew ?_ | refine blk_alloc ?_ _)); refine blk_far ?_ NB240_243.out _; (with_reducible repeat (first | refine blk_drewN ?_ _ | refine blk_drew ?_ | refine blk_alloc ?_ _)); refine blk_far ?_ NB240_243.out _; (with_reducible repeat (first | refine blk_drewN ?_ _ | refine blk_drew ?_ | refine blk_alloc ?_ _)); refine blk_far ?_ NB240_243.out _; (with_reducible repeat (first | refine blk_drewN ?_ _ | refine blk_drew ?_ | refine blk_alloc ?_ _)); exact BK240.out⟩, ⟨by (with_reducible repeat (first | refine blk_drewN ?_ _ | refine blk_drew ?_ | refine blk_alloc ?_ _)); refine blk_put (cs := #[.int .u32 ((rd_T40 l0_0 x3_2).f0), .int .u32 ((rd_T40 l0_0 x3_2).f1), .slice A242_2 ((rd_T40 l0_0 x3_2).f2).length c242_2, .int .u32 0]) ?_ 3 _ rfl; (with_reducible repeat (first | refine blk_drewN ?_ _ | refine blk_drew ?_ | refine blk_alloc ?_ _)); refine blk_put (cs := #[.int .u32 ((rd_T40 l0_0 x3_2).f0), .int .u32 ((rd_T40 l0_0 x3_2).f1), .slice none 0 0, .int .u32 0]) ?_ 2 _ rfl; (with_reducible repeat (first | refine blk_drewN ?_ _ | refine blk_drew ?_ | refine blk_alloc ?_ _)); refine blk_put (cs := #[.int .u32 ((rd_T40 l0_0 x3_2).f0), .int .u32 0, .slice none 0 0, .int .u32 0]) ?_ 1 _ rfl; (with_reducible repeat (first | refine blk_drewN ?_ _ | refine blk_drew ?_ | refine blk_alloc ?_ _)); refine blk_put (cs := #[.int .u32 0, .int .u32 0, .slice none 0 0, .int .u32 0]) ?_ 0 _ rfl; (with_reducible repeat (first | refine blk_drewN ?_ _ | refine blk_drew ?_ | refine blk_alloc ?_ _)); exact BK243.out⟩, ⟨by repeat (first | (with_reducible first | exact HB.out | apply below_alloc | apply pw_below_drewN | apply below_drew1 | refine below_set ?_ GE240.out | refine below_set ?_ GE243.out) | exact HB.out)⟩⟩
                  · rw [if_neg c17] at H
                    have c17b0 : decide (4 < (((rd_T40 l0_0 x3_2).f2).length : Int)) = false := decide_eq_false c17
                    have c17b1 : decide (4 < ((rd_T40 l0_0 x3_2).f2).length) = false := decide_eq_false (by omega)
                    clear c17
                    (first | rw [c17b0] | (simp only [i64_w, i32_w]; rw [c17b0]) | skip)
                    replace H := Option.bind_eq_some_iff.mp H
                    obtain ⟨t244, A200, H⟩ := H
                    replace H : (hurdleref10_Right.j2 k2 x3_2 (t244.toList == ([] : List UInt8)) l0_0 a0_1 ((rd_T40 l0_0 x3_2).f0) ((rd_T40 l0_0 x3_2).f1) ((rd_T40 l0_0 x3_2).f2) ((rd_T40 l0_0 x3_2).f3)) = some r := H
                    have A20 := Aside0.mk A200
                    clear A200
                    have H' := Aside0.mk H
                    clear H
                    have hnb21 := NB243_240.out
                    have hnc21 := NB240_243.out
                    have hcz22_0 : w14.cell? ⟨gb243, 0, none⟩ = some (.int .u32 0) := (blk_cell BK243.out 0).trans rfl
                    have hcz22_1 : w14.cell? ⟨gb243, 1, none⟩ = some (.int .u32 0) := (blk_cell BK243.out 1).trans rfl
                    have hcz22_2 : w14.cell? ⟨gb243, 2, none⟩ = some (.slice none 0 0) := (blk_cell BK243.out 2).trans rfl
                    have hcz22_3 : w14.cell? ⟨gb243, 3, none⟩ = some (.int .u32 0) := (blk_cell BK243.out 3).trans rfl
                    have hfz22_0 := blk_frozen BK243.out 0
                    have hfz22_1 := blk_frozen BK243.out 1
                    have hfz22_2 := blk_frozen BK243.out 2
                    have hfz22_3 := blk_frozen BK243.out 3
                    go_wp2_with (first | (go_at_call 33; (with_reducible refine (hurdleref09_Action.calls k2 ((rd_T40 l0_0 x3_2).f3) t244 _ A20.out).mono ?_); rintro e w23 ⟨rfl, hb⟩; have n0_ := Aside0.mk (blk_below (g := gb240) (o := .cells #[.slice (some ad242) l0_0.length c0_0, .int .u32 a0_1] 25 (0, 0)) (by (with_reducible repeat (first | refine blk_drewN ?_ _ | refine blk_drew ?_ | refine blk_alloc ?_ _)); refine blk_far ?_ NB240_243.out _; (with_reducible repeat (first | refine blk_drewN ?_ _ | refine blk_drew ?_ | refine blk_alloc ?_ _)); refine blk_far ?_ NB240_243.out _; (with_reducible repeat (first | refine blk_drewN ?_ _ | refine blk_drew ?_ | refine blk_alloc ?_ _)); refine blk_far ?_ NB240_243.out _; (with_reducible repeat (first | refine blk_drewN ?_ _ | refine blk_drew ?_ | refine blk_alloc ?_ _)); refine blk_far ?_ NB240_243.out _; (with_reducible repeat (first | refine blk_drewN ?_ _ | refine blk_drew ?_ | refine blk_alloc ?_ _)); exact BK240.out) hb); have n1_ := Aside0.mk (blk_below (g := gb243) (o := .cells #[.int .u32 ((rd_T40 l0_0 x3_2).f0), .int .u32 ((rd_T40 l0_0 x3_2).f1), .slice A242_2 ((rd_T40 l0_0 x3_2).f2).length c242_2, .int .u32 ((rd_T40 l0_0 x3_2).f3)] 40 (0, 0)) (by (with_reducible repeat (first | refine blk_drewN ?_ _ | refine blk_drew ?_ | refine blk_alloc ?_ _)); refine blk_put (cs := #[.int .u32 ((rd_T40 l0_0 x3_2).f0), .int .u32 ((rd_T40 l0_0 x3_2).f1), .slice A242_2 ((rd_T40 l0_0 x3_2).f2).length c242_2, .int .u32 0]) ?_ 3 _ rfl; (with_reducible repeat (first | refine blk_drewN ?_ _ | refine blk_drew ?_ | refine blk_alloc ?_ _)); refine blk_put (cs := #[.int .u32 ((rd_T40 l0_0 x3_2).f0), .int .u32 ((rd_T40 l0_0 x3_2).f1), .slice none 0 0, .int .u32 0]) ?_ 2 _ rfl; (with_reducible repeat (first | refine blk_drewN ?_ _ | refine blk_drew ?_ | refine blk_alloc ?_ _)); refine blk_put (cs := #[.int .u32 ((rd_T40 l0_0 x3_2).f0), .int .u32 0, .slice none 0 0, .int .u32 0]) ?_ 1 _ rfl; (with_reducible repeat (first | refine blk_drewN ?_ _ | refine blk_drew ?_ | refine blk_alloc ?_ _)); refine blk_put (cs := #[.int .u32 0, .int .u32 0, .slice none 0 0, .int .u32 0]) ?_ 0 _ rfl; (with_reducible repeat (first | refine blk_drewN ?_ _ | refine blk_drew ?_ | refine blk_alloc ?_ _)); exact BK243.out) hb); have n2_ := Aside0.mk (below_step (by repeat (first | (with_reducible first | exact HB.out | apply below_alloc | apply pw_below_drewN | apply below_drew1 | refine below_set ?_ GE240.out | refine below_set ?_ GE243.out) | exact HB.out)) hb); clear BK240; clear BK243; clear HB; have BK240 := n0_; have BK243 := n1_; have HB := n2_; clear n0_ n1_ n2_; (try clear hb); (try clear hb2); (try clear hk); (try clear hi)))
                    go_meet
                    case rel => exact ⟨_, ((t244.toList == ([] : List UInt8))), (by first | rfl | (simp; done) | (simp [*]; done)), H', ⟨by have := HJ1.out; have := HK2.out; first | omega | exact Nat.le_refl _⟩, ⟨by (with_reducible repeat (first | refine blk_drewN ?_ _ | refine blk_drew ?_ | refine blk_alloc ?_ _)); exact BK240.out⟩, ⟨by (with_reducible repeat (first | refine blk_drewN ?_ _ | refine blk_drew ?_ | refine blk_alloc ?_ _)); exact BK243.out⟩, ⟨by repeat (first | (with_reducible first | exact HB.out | apply below_alloc | apply pw_below_drewN | apply below_drew1 | refine below_set ?_ GE240.out | refine below_set ?_ GE243.out) | exact HB.out)⟩⟩
                case rest =>
                  clear HC12
                  try clear c1
                  try clear c2
                  try clear p2
                  try clear q2
                  try clear hx2
                  try clear c4
                  try clear c4b0
                  try clear c4b1
                  try clear c9
                  try clear c10
                  try clear c10b0
                  try clear c11
                  try clear c11b0
                  try clear c15
                  try clear c17
                  try clear c17b0
                  try clear c17b1
                  try clear c18
                  try clear c21
                  try clear hcz13_0
                  try clear hcz13_1
                  try clear hcz16_0
                  try clear hcz16_1
                  try clear hcz16_2
                  try clear hcz16_3
                  try clear hcz19_0
                  try clear hcz19_1
                  try clear hcz19_2
                  try clear hcz19_3
                  try clear hcz22_0
                  try clear hcz22_1
                  try clear hcz22_2
                  try clear hcz22_3
                  try clear hcz5_0
                  try clear hcz5_1
                  try clear hcz7_0
                  try clear hcz7_1
                  try clear hfz13_0
                  try clear hfz13_1
                  try clear hfz16_0
                  try clear hfz16_1
                  try clear hfz16_2
                  try clear hfz16_3
                  try clear hfz19_0
                  try clear hfz19_1
                  try clear hfz19_2
                  try clear hfz19_3
                  try clear hfz22_0
                  try clear hfz22_1
                  try clear hfz22_2
                  try clear hfz22_3
                  try clear hfz5_0
                  try clear hfz5_1
                  try clear hfz7_0
                  try clear hfz7_1
                  try clear hx242_0
                  try clear hx242_1
                  try clear hx242_2
                  try clear hx242_3
                  try clear p2
                  try clear p242
                  try clear q242
                  obtain ⟨kq, x37_11, rfl, HA, HJ11, BK240, BK243, HB⟩ := hcut
                  cases kq with
                  | zero => exact absurd HA.out (by simp [hurdleref10_Right.j2])
                  | succ kj11 =>
                    have H := HA.out
                    clear HA
                    simp only [hurdleref10_Right.j2] at H
                    by_cases c24 : x37_11 = true
                    · subst c24
                      have H1 : (some false) = some r := by rw [if_pos rfl] at H; exact H
                      clear H
                      have H := H1
                      clear H1
                      obtain rfl := Option.some.inj H
                      go_wp2
                      go_ret
                      exact ⟨by first | rfl | (simp [errW_none, errW_some] <;> rfl) | (simp [*, errW_none, errW_some] <;> rfl), by repeat (first | (with_reducible first | exact HB.out | apply below_alloc | apply pw_below_drewN | apply below_drew1 | refine below_set ?_ GE240.out | refine below_set ?_ GE243.out) | exact HB.out)⟩
                    · replace c24 := Bool.eq_false_iff.mpr c24
                      subst c24
                      have H1 : (hurdleref10_Right.l1 kj11 x3_2 0 l0_0 a0_1 ((rd_T40 l0_0 x3_2).f0) ((rd_T40 l0_0 x3_2).f1) ((rd_T40 l0_0 x3_2).f2) ((rd_T40 l0_0 x3_2).f3)) = some r := by rw [if_neg (show ¬ (false = true) by decide)] at H; exact H
                      clear H
                      have H := H1
                      clear H1
                      have H' := Aside0.mk H
                      clear H
                      go_wp2
                      go_loopg [5] kj11 (fun kq v5 w' => ∃ (x5_4 : Int), v5 = .int .i64 x5_4 ∧ Aside0 (hurdleref10_Right.l1 kq x3_2 x5_4 l0_0 a0_1 ((rd_T40 l0_0 x3_2).f0) ((rd_T40 l0_0 x3_2).f1) ((rd_T40 l0_0 x3_2).f2) ((rd_T40 l0_0 x3_2).f3) = some r) ∧ Aside0 (kq ≤ kj11) ∧ Aside0 (w'.heap[gb240]? = some (.cells #[(.slice (some ad242) l0_0.length c0_0), .int .u32 a0_1] 25 (0, 0))) ∧ Aside0 (w'.heap[gb243]? = some (.cells #[.int .u32 ((rd_T40 l0_0 x3_2).f0), .int .u32 ((rd_T40 l0_0 x3_2).f1), (.slice A242_2 ((rd_T40 l0_0 x3_2).f2).length c242_2), .int .u32 ((rd_T40 l0_0 x3_2).f3)] 40 (0, 0))) ∧ Aside0 (Below w.heap.size w w'))
                      case atStart => exact ⟨(0), (by first | rfl | (simp; done) | (simp [*]; done)), H', ⟨Nat.le_refl _⟩, ⟨by (with_reducible repeat (first | refine blk_drewN ?_ _ | refine blk_drew ?_ | refine blk_alloc ?_ _)); exact BK240.out⟩, ⟨by (with_reducible repeat (first | refine blk_drewN ?_ _ | refine blk_drew ?_ | refine blk_alloc ?_ _)); exact BK243.out⟩, ⟨by repeat (first | (with_reducible first | exact HB.out | apply below_alloc | apply pw_below_drewN | apply below_drew1 | refine below_set ?_ GE240.out | refine below_set ?_ GE243.out) | exact HB.out)⟩⟩
                      case round =>
                        clear H'
                        try clear c1
                        try clear c2
                        try clear p2
                        try clear q2
                        try clear hx2
                        try clear c4
                        try clear c4b0
                        try clear c4b1
                        try clear c9
                        try clear c10
                        try clear c10b0
                        try clear c11
                        try clear c11b0
                        try clear c15
                        try clear c17
                        try clear c17b0
                        try clear c17b1
                        try clear c18
                        try clear c21
                        try clear c24
                        try clear p24
                        try clear q24
                        try clear hx24
                        try clear hcz13_0
                        try clear hcz13_1
                        try clear hcz16_0
                        try clear hcz16_1
                        try clear hcz16_2
                        try clear hcz16_3
                        try clear hcz19_0
                        try clear hcz19_1
                        try clear hcz19_2
                        try clear hcz19_3
                        try clear hcz22_0
                        try clear hcz22_1
                        try clear hcz22_2
                        try clear hcz22_3
                        try clear hcz5_0
                        try clear hcz5_1
                        try clear hcz7_0
                        try clear hcz7_1
                        try clear hfz13_0
                        try clear hfz13_1
                        try clear hfz16_0
                        try clear hfz16_1
                        try clear hfz16_2
                        try clear hfz16_3
                        try clear hfz19_0
                        try clear hfz19_1
                        try clear hfz19_2
                        try clear hfz19_3
                        try clear hfz22_0
                        try clear hfz22_1
                        try clear hfz22_2
                        try clear hfz22_3
                        try clear hfz5_0
                        try clear hfz5_1
                        try clear hfz7_0
                        try clear hfz7_1
                        try clear hx242_0
                        try clear hx242_1
                        try clear hx242_2
                        try clear hx242_3
                        try clear p2
                        try clear p242
                        try clear q2
                        try clear q242
                        obtain ⟨x5_4, rfl, HA, HK4, BK240, BK243, HB⟩ := hrel
                        cases gk with
                        | zero => exact absurd HA.out (by simp [hurdleref10_Right.l1])
                        | succ k4 =>
                          have H := HA.out
                          clear HA
                          simp only [hurdleref10_Right.l1] at H
                          by_cases c25 : x5_4 < (((rd_T40 l0_0 x3_2).f2).length : Int)
                          · rw [if_pos c25] at H
                            have c25b0 : decide (x5_4 < (((rd_T40 l0_0 x3_2).f2).length : Int)) = true := decide_eq_true c25
                            clear c25
                            by_cases c26 : 0 ≤ x5_4
                            · rw [if_pos c26] at H
                              have c26b0 : decide (0 ≤ x5_4) = true := decide_eq_true c26
                              clear c26
                              replace H := Option.bind_eq_some_iff.mp H
                              obtain ⟨t246, A270, H⟩ := H
                              replace H : (if t246 = true then (hurdleref10_Right.l1 k4 x3_2 (wrap64 (x5_4 + 1)) l0_0 a0_1 ((rd_T40 l0_0 x3_2).f0) ((rd_T40 l0_0 x3_2).f1) ((rd_T40 l0_0 x3_2).f2) ((rd_T40 l0_0 x3_2).f3)) else (some false)) = some r := H
                              have A27 := Aside0.mk A270
                              clear A270
                              by_cases c28 : t246 = true
                              · subst c28
                                have H1 : (hurdleref10_Right.l1 k4 x3_2 (wrap64 (x5_4 + 1)) l0_0 a0_1 ((rd_T40 l0_0 x3_2).f0) ((rd_T40 l0_0 x3_2).f1) ((rd_T40 l0_0 x3_2).f2) ((rd_T40 l0_0 x3_2).f3)) = some r := by rw [if_pos rfl] at H; exact H
                                clear H
                                have H := H1
                                clear H1
                                have H' := Aside0.mk H
                                clear H
                                have hnb29 := NB243_240.out
                                have hnc29 := NB240_243.out
                                have hcz30_0 : wr.cell? ⟨gb243, 0, none⟩ = some (.int .u32 ((rd_T40 l0_0 x3_2).f0)) := (blk_cell BK243.out 0).trans rfl
                                have hcz30_1 : wr.cell? ⟨gb243, 1, none⟩ = some (.int .u32 ((rd_T40 l0_0 x3_2).f1)) := (blk_cell BK243.out 1).trans rfl
                                have hcz30_2 : wr.cell? ⟨gb243, 2, none⟩ = some (.slice A242_2 ((rd_T40 l0_0 x3_2).f2).length c242_2) := (blk_cell BK243.out 2).trans rfl
                                have hcz30_3 : wr.cell? ⟨gb243, 3, none⟩ = some (.int .u32 ((rd_T40 l0_0 x3_2).f3)) := (blk_cell BK243.out 3).trans rfl
                                have hfz30_0 := blk_frozen BK243.out 0
                                have hfz30_1 := blk_frozen BK243.out 1
                                have hfz30_2 := blk_frozen BK243.out 2
                                have hfz30_3 := blk_frozen BK243.out 3
                                have p245 : 0 ≤ (x5_4 : Int) := of_decide_eq_true (by first | (with_reducible assumption) | assumption)
                                have q245 : x5_4 < (((rd_T40 l0_0 x3_2).f2).length : Int) := of_decide_eq_true (by first | (with_reducible assumption) | assumption)
                                obtain ⟨ad245, e245, hx245_0, hx245_1, hx245_2, hx245_3⟩ := at_T61 HR242_2.out x5_4 p245 q245
                                cases e245
                                replace hx245_0 := (HB.out.cell (World.block_lt_of_cell? w _ hx245_0)).trans hx245_0
                                replace hx245_1 := (HB.out.cell (World.block_lt_of_cell? w _ hx245_1)).trans hx245_1
                                replace hx245_2 := (HB.out.cell (World.block_lt_of_cell? w _ hx245_2)).trans hx245_2
                                replace hx245_3 := (HB.out.cell (World.block_lt_of_cell? w _ hx245_3)).trans hx245_3
                                replace p245 := eq_true p245
                                replace q245 := eq_true q245
                                go_wp2_with (first | ((with_reducible refine gate_callee (f := 34) rfl ?_); refine goesL_ (some 50) rfl rfl Try.func34 (by kernel_rfl) rfl #[.agg #[.int .i64 ((rd_T61 ((rd_T40 l0_0 x3_2).f2) x5_4).f0), .int .i64 ((rd_T61 ((rd_T40 l0_0 x3_2).f2) x5_4).f1), .int .u64 ((rd_T61 ((rd_T40 l0_0 x3_2).f2) x5_4).f2), .int .u64 ((rd_T61 ((rd_T40 l0_0 x3_2).f2) x5_4).f3)]] rfl (by (try simp only [List.map_toArray, List.map_cons, List.map_nil]); first | done | rfl | (simp only [List.length_drop, List.length_take]; rfl)) ?_; (with_reducible refine (hurdleref08_Right.calls ((rd_T61 ((rd_T40 l0_0 x3_2).f2) x5_4).f0) ((rd_T61 ((rd_T40 l0_0 x3_2).f2) x5_4).f1) ((rd_T61 ((rd_T40 l0_0 x3_2).f2) x5_4).f2) ((rd_T61 ((rd_T40 l0_0 x3_2).f2) x5_4).f3) true _ A27.out).mono ?_); rintro e w31 ⟨rfl, hb⟩; refine ⟨_, rfl, ?_⟩; have n0_ := Aside0.mk (blk_below (g := gb240) (o := .cells #[.slice (some ad242) l0_0.length c0_0, .int .u32 a0_1] 25 (0, 0)) (by (with_reducible repeat (first | refine blk_drewN ?_ _ | refine blk_drew ?_ | refine blk_alloc ?_ _)); exact BK240.out) hb); have n1_ := Aside0.mk (blk_below (g := gb243) (o := .cells #[.int .u32 ((rd_T40 l0_0 x3_2).f0), .int .u32 ((rd_T40 l0_0 x3_2).f1), .slice (some ad245) ((rd_T40 l0_0 x3_2).f2).length c242_2, .int .u32 ((rd_T40 l0_0 x3_2).f3)] 40 (0, 0)) (by (with_reducible repeat (first | refine blk_drewN ?_ _ | refine blk_drew ?_ | refine blk_alloc ?_ _)); exact BK243.out) hb); have n2_ := Aside0.mk (below_step (by repeat (first | (with_reducible first | exact HB.out | apply below_alloc | apply pw_below_drewN | apply below_drew1 | refine below_set ?_ GE240.out | refine below_set ?_ GE243.out) | exact HB.out)) hb); clear BK240; clear BK243; clear HB; have BK240 := n0_; have BK243 := n1_; have HB := n2_; clear n0_ n1_ n2_; (try clear hb); (try clear hb2); (try clear hk); (try clear hi)))
                                go_roundg k4
                                case measure => have := HJ1.out; have := HK2.out; have := HJ11.out; have := HK4.out; omega
                                case rel => exact ⟨(wrap64 (x5_4 + 1)), (by first | rfl | (simp; done) | (simp [*]; done)), H', ⟨by have := HJ1.out; have := HK2.out; have := HJ11.out; have := HK4.out; omega⟩, ⟨by (with_reducible repeat (first | refine blk_drewN ?_ _ | refine blk_drew ?_ | refine blk_alloc ?_ _)); exact BK240.out⟩, ⟨by (with_reducible repeat (first | refine blk_drewN ?_ _ | refine blk_drew ?_ | refine blk_alloc ?_ _)); exact BK243.out⟩, ⟨by repeat (first | (with_reducible first | exact HB.out | apply below_alloc | apply pw_below_drewN | apply below_drew1 | refine below_set ?_ GE240.out | refine below_set ?_ GE243.out) | exact HB.out)⟩⟩
                              · replace c28 := Bool.eq_false_iff.mpr c28
                                subst c28
                                have H1 : (some false) = some r := by rw [if_neg (show ¬ (false = true) by decide)] at H; exact H
                                clear H
                                have H := H1
                                clear H1
                                obtain rfl := Option.some.inj H
                                have hnb32 := NB243_240.out
                                have hnc32 := NB240_243.out
                                have hcz33_0 : wr.cell? ⟨gb243, 0, none⟩ = some (.int .u32 ((rd_T40 l0_0 x3_2).f0)) := (blk_cell BK243.out 0).trans rfl
                                have hcz33_1 : wr.cell? ⟨gb243, 1, none⟩ = some (.int .u32 ((rd_T40 l0_0 x3_2).f1)) := (blk_cell BK243.out 1).trans rfl
                                have hcz33_2 : wr.cell? ⟨gb243, 2, none⟩ = some (.slice A242_2 ((rd_T40 l0_0 x3_2).f2).length c242_2) := (blk_cell BK243.out 2).trans rfl
                                have hcz33_3 : wr.cell? ⟨gb243, 3, none⟩ = some (.int .u32 ((rd_T40 l0_0 x3_2).f3)) := (blk_cell BK243.out 3).trans rfl
                                have hfz33_0 := blk_frozen BK243.out 0
                                have hfz33_1 := blk_frozen BK243.out 1
                                have hfz33_2 := blk_frozen BK243.out 2
                                have hfz33_3 := blk_frozen BK243.out 3
                                have p245 : 0 ≤ (x5_4 : Int) := of_decide_eq_true (by first | (with_reducible assumption) | assumption)
                                have q245 : x5_4 < (((rd_T40 l0_0 x3_2).f2).length : Int) := of_decide_eq_true (by first | (with_reducible assumption) | assumption)
                                obtain ⟨ad245, e245, hx245_0, hx245_1, hx245_2, hx245_3⟩ := at_T61 HR242_2.out x5_4 p245 q245
                                cases e245
                                replace hx245_0 := (HB.out.cell (World.block_lt_of_cell? w _ hx245_0)).trans hx245_0
                                replace hx245_1 := (HB.out.cell (World.block_lt_of_cell? w _ hx245_1)).trans hx245_1
                                replace hx245_2 := (HB.out.cell (World.block_lt_of_cell? w _ hx245_2)).trans hx245_2
                                replace hx245_3 := (HB.out.cell (World.block_lt_of_cell? w _ hx245_3)).trans hx245_3
                                replace p245 := eq_true p245
                                replace q245 := eq_true q245
                                go_wp2_with (first | ((with_reducible refine gate_callee (f := 34) rfl ?_); refine goesL_ (some 50) rfl rfl Try.func34 (by kernel_rfl) rfl #[.agg #[.int .i64 ((rd_T61 ((rd_T40 l0_0 x3_2).f2) x5_4).f0), .int .i64 ((rd_T61 ((rd_T40 l0_0 x3_2).f2) x5_4).f1), .int .u64 ((rd_T61 ((rd_T40 l0_0 x3_2).f2) x5_4).f2), .int .u64 ((rd_T61 ((rd_T40 l0_0 x3_2).f2) x5_4).f3)]] rfl (by (try simp only [List.map_toArray, List.map_cons, List.map_nil]); first | done | rfl | (simp only [List.length_drop, List.length_take]; rfl)) ?_; (with_reducible refine (hurdleref08_Right.calls ((rd_T61 ((rd_T40 l0_0 x3_2).f2) x5_4).f0) ((rd_T61 ((rd_T40 l0_0 x3_2).f2) x5_4).f1) ((rd_T61 ((rd_T40 l0_0 x3_2).f2) x5_4).f2) ((rd_T61 ((rd_T40 l0_0 x3_2).f2) x5_4).f3) false _ A27.out).mono ?_); rintro e w34 ⟨rfl, hb⟩; refine ⟨_, rfl, ?_⟩; have n0_ := Aside0.mk (blk_below (g := gb240) (o := .cells #[.slice (some ad242) l0_0.length c0_0, .int .u32 a0_1] 25 (0, 0)) (by (with_reducible repeat (first | refine blk_drewN ?_ _ | refine blk_drew ?_ | refine blk_alloc ?_ _)); exact BK240.out) hb); have n1_ := Aside0.mk (blk_below (g := gb243) (o := .cells #[.int .u32 ((rd_T40 l0_0 x3_2).f0), .int .u32 ((rd_T40 l0_0 x3_2).f1), .slice (some ad245) ((rd_T40 l0_0 x3_2).f2).length c242_2, .int .u32 ((rd_T40 l0_0 x3_2).f3)] 40 (0, 0)) (by (with_reducible repeat (first | refine blk_drewN ?_ _ | refine blk_drew ?_ | refine blk_alloc ?_ _)); exact BK243.out) hb); have n2_ := Aside0.mk (below_step (by repeat (first | (with_reducible first | exact HB.out | apply below_alloc | apply pw_below_drewN | apply below_drew1 | refine below_set ?_ GE240.out | refine below_set ?_ GE243.out) | exact HB.out)) hb); clear BK240; clear BK243; clear HB; have BK240 := n0_; have BK243 := n1_; have HB := n2_; clear n0_ n1_ n2_; (try clear hb); (try clear hb2); (try clear hk); (try clear hi)))
                                go_ret
                                exact ⟨by first | rfl | (simp [errW_none, errW_some] <;> rfl) | (simp [*, errW_none, errW_some] <;> rfl), by repeat (first | (with_reducible first | exact HB.out | apply below_alloc | apply pw_below_drewN | apply below_drew1 | refine below_set ?_ GE240.out | refine below_set ?_ GE243.out) | exact HB.out)⟩
                            · rw [if_neg c26] at H
                              exact absurd H (by simp)
                          · rw [if_neg c25] at H
                            have c25b0 : decide (x5_4 < (((rd_T40 l0_0 x3_2).f2).length : Int)) = false := decide_eq_false c25
                            clear c25
                            have H' := Aside0.mk H
                            clear H
                            have hnb35 := NB243_240.out
                            have hnc35 := NB240_243.out
                            have hcz36_0 : wr.cell? ⟨gb243, 0, none⟩ = some (.int .u32 ((rd_T40 l0_0 x3_2).f0)) := (blk_cell BK243.out 0).trans rfl
                            have hcz36_1 : wr.cell? ⟨gb243, 1, none⟩ = some (.int .u32 ((rd_T40 l0_0 x3_2).f1)) := (blk_cell BK243.out 1).trans rfl
                            have hcz36_2 : wr.cell? ⟨gb243, 2, none⟩ = some (.slice A242_2 ((rd_T40 l0_0 x3_2).f2).length c242_2) := (blk_cell BK243.out 2).trans rfl
                            have hcz36_3 : wr.cell? ⟨gb243, 3, none⟩ = some (.int .u32 ((rd_T40 l0_0 x3_2).f3)) := (blk_cell BK243.out 3).trans rfl
                            have hfz36_0 := blk_frozen BK243.out 0
                            have hfz36_1 := blk_frozen BK243.out 1
                            have hfz36_2 := blk_frozen BK243.out 2
                            have hfz36_3 := blk_frozen BK243.out 3
                            go_wp2
                            go_roundg k4
                            case measure => have := HJ1.out; have := HK2.out; have := HJ11.out; have := HK4.out; omega
                            case rel => exact ⟨(wrap64 (x3_2 + 1)), (by first | rfl | (simp; done) | (simp [*]; done)), H', ⟨by have := HJ1.out; have := HK2.out; have := HJ11.out; have := HK4.out; omega⟩, ⟨by (with_reducible repeat (first | refine blk_drewN ?_ _ | refine blk_drew ?_ | refine blk_alloc ?_ _)); exact BK240.out⟩, ⟨by repeat (first | (with_reducible first | exact HB.out | apply below_alloc | apply pw_below_drewN | apply below_drew1 | refine below_set ?_ GE240.out | refine below_set ?_ GE243.out) | exact HB.out)⟩⟩
              · rw [if_neg c11] at H
                exact absurd H (by simp)
            · rw [if_neg c10] at H
              have c10b0 : decide (x3_2 < (l0_0.length : Int)) = false := decide_eq_false c10
              clear c10
              obtain rfl := Option.some.inj H
              have hcz37_0 : wr.cell? ⟨gb240, 0, none⟩ = some (.slice A0_0 l0_0.length c0_0) := (blk_cell BK240.out 0).trans rfl
              have hcz37_1 : wr.cell? ⟨gb240, 1, none⟩ = some (.int .u32 a0_1) := (blk_cell BK240.out 1).trans rfl
              have hfz37_0 := blk_frozen BK240.out 0
              have hfz37_1 := blk_frozen BK240.out 1
              go_wp2
              go_ret
              exact ⟨by first | rfl | (simp [errW_none, errW_some] <;> rfl) | (simp [*, errW_none, errW_some] <;> rfl), by repeat (first | (with_reducible first | exact HB.out | apply below_alloc | apply pw_below_drewN | apply below_drew1 | refine below_set ?_ GE240.out) | exact HB.out)⟩
def hurdleref09_Machines.f  : Option (List ByteArray × List Int) := some ((([(⟨#[120, 54, 52]⟩ : ByteArray), (⟨#[120, 56, 54]⟩ : ByteArray), (⟨#[97, 54, 52]⟩ : ByteArray), (⟨#[97, 114, 109]⟩ : ByteArray)] : List ByteArray)), (([3221225534, 1073741827, 3221225655, 1073741864] : List Int)))
set_option maxHeartbeats 8000000 in
set_option maxRecDepth 100000 in
theorem hurdleref09_Machines.calls  (r1 : List ByteArray) (r2 : List Int) (w : World) (h : hurdleref09_Machines.f  = some (r1, r2)) :
    Calls Try.prog 72 #[] w fun e w' => ∃ v0_ v1_ : Value, e = .returned (.tuple #[v0_, v1_]) ∧ Kd.R Kd.string 9 w' w.heap.size (fun _ => True) v0_ r1 ∧ Kd.R (Kd.int .u32) 23 w' w.heap.size (fun _ => True) v1_ r2 ∧ Below w.heap.size w w' := by
  have HB := Aside0.mk (Below.refl w.heap.size w)
  have H : (some ((([(⟨#[120, 54, 52]⟩ : ByteArray), (⟨#[120, 56, 54]⟩ : ByteArray), (⟨#[97, 54, 52]⟩ : ByteArray), (⟨#[97, 114, 109]⟩ : ByteArray)] : List ByteArray)), (([3221225534, 1073741827, 3221225655, 1073741864] : List Int)))) = some (r1, r2) := h
  clear h
  obtain ⟨y247, hy247⟩ : ∃ y_ : List ByteArray, y_ = (([(⟨#[120, 54, 52]⟩ : ByteArray), (⟨#[120, 56, 54]⟩ : ByteArray), (⟨#[97, 54, 52]⟩ : ByteArray), (⟨#[97, 114, 109]⟩ : ByteArray)] : List ByteArray)) := ⟨_, rfl⟩
  replace H : (some (y247, (([3221225534, 1073741827, 3221225655, 1073741864] : List Int)))) = some (r1, r2) := by first | (rw [hy247]; with_reducible exact H) | (have H2_ := (Option.bind_some _ _).symm.trans H; rw [hy247]; with_reducible exact H2_) | (have H2_ := (Option.bind_some _ _).symm.trans H; with_reducible exact H2_) | with_reducible exact H | (rw [hy247]; exact H) | exact H
  have Ny247 := Aside0.mk hy247
  clear hy247
  obtain ⟨y250, hy250⟩ : ∃ y_ : List Int, y_ = (([3221225534, 1073741827, 3221225655, 1073741864] : List Int)) := ⟨_, rfl⟩
  replace H : (some (y247, y250)) = some (r1, r2) := by first | (rw [hy250]; with_reducible exact H) | (have H2_ := (Option.bind_some _ _).symm.trans H; rw [hy250]; with_reducible exact H2_) | (have H2_ := (Option.bind_some _ _).symm.trans H; with_reducible exact H2_) | with_reducible exact H | (rw [hy250]; exact H) | exact H
  have Ny250 := Aside0.mk hy250
  clear hy250
  simp only [Option.some.injEq, Prod.mk.injEq] at H
  obtain ⟨rfl, rfl⟩ := H
  go_enter Try.func72, Try.ntmps72
  go_wp2_with (first | ((with_reducible refine gate_dst (N := 2) rfl ?_); refine Kd.R_lit Kd.string _ 9 ?hg (N := 2) ?hd (xs := ([(⟨#[120, 54, 52]⟩ : ByteArray), (⟨#[120, 56, 54]⟩ : ByteArray), (⟨#[97, 54, 52]⟩ : ByteArray), (⟨#[97, 114, 109]⟩ : ByteArray)] : List ByteArray)) (inner := [.string (⟨#[120, 54, 52]⟩ : ByteArray), .string (⟨#[120, 56, 54]⟩ : ByteArray), .string (⟨#[97, 54, 52]⟩ : ByteArray), .string (⟨#[97, 114, 109]⟩ : ByteArray)]) (ok := fun _ => True) (okp := fun _ => True) ?hr ?hp (fun _ hk => hk) trivial (Below.refl _ _) (Nat.le_refl _) (by simp) ?_; (case hd => rfl); (case hg => rfl); (case hr => first | (go_simp; done) | (go_simp; rfl)); (case hp => exact (Reps.one (show Kd.M Kd.string _ _ _ (⟨#[120, 54, 52]⟩ : ByteArray) [.string (⟨#[120, 54, 52]⟩ : ByteArray)] from rfl) (Reps.one (show Kd.M Kd.string _ _ _ (⟨#[120, 56, 54]⟩ : ByteArray) [.string (⟨#[120, 56, 54]⟩ : ByteArray)] from rfl) (Reps.one (show Kd.M Kd.string _ _ _ (⟨#[97, 54, 52]⟩ : ByteArray) [.string (⟨#[97, 54, 52]⟩ : ByteArray)] from rfl) (Reps.one (show Kd.M Kd.string _ _ _ (⟨#[97, 114, 109]⟩ : ByteArray) [.string (⟨#[97, 114, 109]⟩ : ByteArray)] from rfl) (Reps.none _ _)))))); intro v248 w1 ho2 hb hg_ hnew_; clear hg_ hnew_; (first | rw [← Ny247.out] at ho2 | (simp only [Int.reduceToNat] at ho2; rw [← Ny247.out] at ho2)); have n0_ := Aside0.mk (Kd.R_lower ho2 (below_size (by repeat (first | (with_reducible first | exact HB.out | apply below_alloc | apply pw_below_drewN | apply below_drew1) | exact HB.out)))); have n1_ := Aside0.mk (below_step (by repeat (first | (with_reducible first | exact HB.out | apply below_alloc | apply pw_below_drewN | apply below_drew1) | exact HB.out)) hb); clear HB; have HO249 := n0_; have HB := n1_; clear n0_ n1_; clear hb ho2) | ((with_reducible refine gate_dst (N := 3) rfl ?_); refine Kd.R_lit (Kd.int .u32) _ 23 ?hg (N := 3) ?hd (xs := ([3221225534, 1073741827, 3221225655, 1073741864] : List Int)) (inner := [.int .u32 3221225534, .int .u32 1073741827, .int .u32 3221225655, .int .u32 1073741864]) (ok := fun _ => True) (okp := fun _ => True) ?hr ?hp (fun _ hk => hk) trivial (Below.refl _ _) (Nat.le_refl _) (by simp) ?_; (case hd => rfl); (case hg => rfl); (case hr => first | (go_simp; done) | (go_simp; rfl)); (case hp => exact (Reps.one (show Kd.M (Kd.int .u32) _ _ _ 3221225534 [.int .u32 3221225534] from rfl) (Reps.one (show Kd.M (Kd.int .u32) _ _ _ 1073741827 [.int .u32 1073741827] from rfl) (Reps.one (show Kd.M (Kd.int .u32) _ _ _ 3221225655 [.int .u32 3221225655] from rfl) (Reps.one (show Kd.M (Kd.int .u32) _ _ _ 1073741864 [.int .u32 1073741864] from rfl) (Reps.none _ _)))))); intro v251 w3 ho4 hb hg_ hnew_; clear hg_ hnew_; (first | rw [← Ny250.out] at ho4 | (simp only [Int.reduceToNat] at ho4; rw [← Ny250.out] at ho4)); have n0_ := Aside0.mk (Kd.R_below (by (with_reducible repeat (first | apply Kd.R_alloc | apply Kd.R_drewN | apply Kd.R_drew)); exact HO249.out) hb); have n1_ := Aside0.mk (Kd.R_lower ho4 (below_size (by repeat (first | (with_reducible first | exact HB.out | apply below_alloc | apply pw_below_drewN | apply below_drew1) | exact HB.out)))); have n2_ := Aside0.mk (below_step (by repeat (first | (with_reducible first | exact HB.out | apply below_alloc | apply pw_below_drewN | apply below_drew1) | exact HB.out)) hb); clear HO249; clear HB; have HO249 := n0_; have HO252 := n1_; have HB := n2_; clear n0_ n1_ n2_; clear hb ho4))
  go_ret2
  exact ⟨_, _, by first | rfl | (simp [errW_none, errW_some] <;> rfl) | (simp [*, errW_none, errW_some] <;> rfl), by (with_reducible repeat (first | apply Kd.R_alloc | apply Kd.R_drewN | apply Kd.R_drew)); exact HO249.out, by (with_reducible repeat (first | apply Kd.R_alloc | apply Kd.R_drewN | apply Kd.R_drew)); exact HO252.out, by repeat (first | (with_reducible first | exact HB.out | apply below_alloc | apply pw_below_drewN | apply below_drew1) | exact HB.out)⟩
def hurdleref09_text.l0 : Nat → List ByteArray → List Int → Int → Int → Option (ByteArray)
  | 0, _, _, _, _ => none
  | k + 1, x0, x1, x2, x7 => if x7 < (x0.length : Int) then (if 0 ≤ x7 then (if x7 < (x1.length : Int) then (if (rd x1 x7) = x2 then (some (rdOf ByteArray.empty x0 x7)) else (hurdleref09_text.l0 k x0 x1 x2 (wrap64 (x7 + 1)))) else (none)) else (none)) else ((hurdleref01_Text.f (IntKind.u64.wrap (x2))).bind fun t255 => (some t255))
def hurdleref09_text.f (k : Nat) (l0 : List ByteArray) (l1 : List Int) (a2 : Int) : Option (ByteArray) := hurdleref09_text.l0 k l0 l1 a2 0
theorem hurdleref09_text.mono_l : ∀ k, (∀ y0 y1 y2 y3, LeO (hurdleref09_text.l0 k y0 y1 y2 y3) (hurdleref09_text.l0 (k + 1) y0 y1 y2 y3))
  | 0 => fun _ _ _ _ r h => by simp [hurdleref09_text.l0] at h
  | k + 1 => by
    have ih0 := hurdleref09_text.mono_l k
    · intro y0 y1 y2 y3
      unfold hurdleref09_text.l0
      repeat' first
      | (with_reducible exact ih0 _ _ _ _)
      | (with_reducible exact LeO.refl _)
      | (with_reducible exact LeO.none _)
      | (with_reducible refine LeO.ite ?_ ?_)
      | (with_reducible refine LeO.bind ?_ (fun _ => ?_))
      | exact ih0 _ _ _ _
      | exact LeO.none _
      | refine LeO.ite ?_ ?_
      | refine LeO.bind ?_ (fun _ => ?_)
theorem hurdleref09_text.mono : ∀ a0 a1 a2 k, LeO (hurdleref09_text.f k a0 a1 a2) (hurdleref09_text.f (k + 1) a0 a1 a2) := by
  intro a0 a1 a2 k
  have ih0 := hurdleref09_text.mono_l k
  unfold hurdleref09_text.f
  repeat' first
      | (with_reducible exact ih0 _ _ _ _)
      | (with_reducible exact LeO.refl _)
      | (with_reducible exact LeO.none _)
      | (with_reducible refine LeO.ite ?_ ?_)
      | (with_reducible refine LeO.bind ?_ (fun _ => ?_))
      | exact ih0 _ _ _ _
      | exact LeO.none _
      | refine LeO.ite ?_ ?_
      | refine LeO.bind ?_ (fun _ => ?_)
set_option maxHeartbeats 8000000 in
set_option maxRecDepth 100000 in
theorem hurdleref09_text.calls (k : Nat) (A0 : Option Addr) (c0 : Nat) (l0 : List ByteArray) (A1 : Option Addr) (c1 : Nat) (l1 : List Int) (a2 : Int) (r : ByteArray) (w : World) (hr0 : Kd.C Kd.string w A0 l0.length l0) (hc0 : l0.length ≤ c0) (hr1 : Kd.C (Kd.int .u32) w A1 l1.length l1) (hc1 : l1.length ≤ c1) (h : hurdleref09_text.f k l0 l1 a2 = some r) :
    Calls Try.prog 73 #[.slice A0 l0.length c0, .slice A1 l1.length c1, .int .u32 a2] w fun e w' => e = .returned (.string r) ∧ Below w.heap.size w w' := by
  have HR0 := Aside0.mk hr0
  have HC0 := Aside0.mk hc0
  clear hr0 hc0
  have HR1 := Aside0.mk hr1
  have HC1 := Aside0.mk hc1
  clear hr1 hc1
  have HB := Aside0.mk (Below.refl w.heap.size w)
  have H : (hurdleref09_text.l0 k l0 l1 a2 0) = some r := h
  clear h
  have H' := Aside0.mk H
  clear H
  go_enter Try.func73, Try.ntmps73
  go_wp2
  go_loopg [7] k (fun kq v7 w' => ∃ (x7_1 : Int), v7 = .int .i64 x7_1 ∧ Aside0 (hurdleref09_text.l0 kq l0 l1 a2 x7_1 = some r) ∧ Aside0 (kq ≤ k) ∧ Aside0 (Below w.heap.size w w'))
  case atStart => exact ⟨(0), (by first | rfl | (simp; done) | (simp [*]; done)), H', ⟨Nat.le_refl _⟩, ⟨by repeat (first | (with_reducible first | exact HB.out | apply below_alloc | apply pw_below_drewN | apply below_drew1) | exact HB.out)⟩⟩
  case round =>
    clear H'
    try clear c1
    try clear p2
    obtain ⟨x7_1, rfl, HA, HK1, HB⟩ := hrel
    cases gk with
    | zero => exact absurd HA.out (by simp [hurdleref09_text.l0])
    | succ k1 =>
      have H := HA.out
      clear HA
      simp only [hurdleref09_text.l0] at H
      by_cases c4 : x7_1 < (l0.length : Int)
      · rw [if_pos c4] at H
        have c4b0 : decide (x7_1 < (l0.length : Int)) = true := decide_eq_true c4
        clear c4
        by_cases c5 : 0 ≤ x7_1
        · rw [if_pos c5] at H
          have c5b0 : decide (0 ≤ x7_1) = true := decide_eq_true c5
          clear c5
          by_cases c6 : x7_1 < (l1.length : Int)
          · rw [if_pos c6] at H
            have c6b0 : decide (x7_1 < (l1.length : Int)) = true := decide_eq_true c6
            clear c6
            by_cases c7 : (rd l1 x7_1) = a2
            · rw [if_pos c7] at H
              have c7b0 : ((rd l1 x7_1) == a2) = true := beq_iff_eq.mpr c7
              have c7b1 : ((rd l1 x7_1) != a2) = false := bne_eq_false_iff_eq.mpr c7
              clear c7
              obtain rfl := Option.some.inj H
              have p253 : 0 ≤ (x7_1 : Int) := of_decide_eq_true (by first | (with_reducible assumption) | assumption)
              have q253 : x7_1 < (l1.length : Int) := of_decide_eq_true (by first | (with_reducible assumption) | assumption)
              obtain ⟨ad253, e253, hx253_0⟩ := Kd.at_int HR1.out x7_1 p253 q253
              cases e253
              replace hx253_0 := (HB.out.cell (World.block_lt_of_cell? w _ hx253_0)).trans hx253_0
              replace p253 := eq_true p253
              replace q253 := eq_true q253
              have p254 : 0 ≤ (x7_1 : Int) := of_decide_eq_true (by first | (with_reducible assumption) | assumption)
              have q254 : x7_1 < (l0.length : Int) := of_decide_eq_true (by first | (with_reducible assumption) | assumption)
              obtain ⟨ad254, e254, hx254_0⟩ := Kd.at_string HR0.out x7_1 p254 q254
              cases e254
              replace hx254_0 := (HB.out.cell (World.block_lt_of_cell? w _ hx254_0)).trans hx254_0
              replace p254 := eq_true p254
              replace q254 := eq_true q254
              go_wp2
              go_ret
              exact ⟨by first | rfl | (simp [errW_none, errW_some] <;> rfl) | (simp [*, errW_none, errW_some] <;> rfl), by repeat (first | (with_reducible first | exact HB.out | apply below_alloc | apply pw_below_drewN | apply below_drew1) | exact HB.out)⟩
            · rw [if_neg c7] at H
              have c7b0 : ((rd l1 x7_1) == a2) = false := beq_eq_false_iff_ne.mpr c7
              have c7b1 : ((rd l1 x7_1) != a2) = true := bne_iff_ne.mpr c7
              have H' := Aside0.mk H
              clear H
              have p253 : 0 ≤ (x7_1 : Int) := of_decide_eq_true (by first | (with_reducible assumption) | assumption)
              have q253 : x7_1 < (l1.length : Int) := of_decide_eq_true (by first | (with_reducible assumption) | assumption)
              obtain ⟨ad253, e253, hx253_0⟩ := Kd.at_int HR1.out x7_1 p253 q253
              cases e253
              replace hx253_0 := (HB.out.cell (World.block_lt_of_cell? w _ hx253_0)).trans hx253_0
              replace p253 := eq_true p253
              replace q253 := eq_true q253
              go_wp2
              go_roundg k1
              case measure => have := HK1.out; omega
              case rel => exact ⟨(wrap64 (x7_1 + 1)), (by first | rfl | (simp; done) | (simp [*]; done)), H', ⟨by have := HK1.out; omega⟩, ⟨by repeat (first | (with_reducible first | exact HB.out | apply below_alloc | apply pw_below_drewN | apply below_drew1) | exact HB.out)⟩⟩
          · rw [if_neg c6] at H
            exact absurd H (by simp)
        · rw [if_neg c5] at H
          exact absurd H (by simp)
      · rw [if_neg c4] at H
        have c4b0 : decide (x7_1 < (l0.length : Int)) = false := decide_eq_false c4
        clear c4
        replace H := Option.bind_eq_some_iff.mp H
        obtain ⟨t255, A80, H⟩ := H
        replace H : (some t255) = some r := H
        have A8 := Aside0.mk A80
        clear A80
        obtain rfl := Option.some.inj H
        go_wp2_with (first | ((with_reducible refine gate_callee (f := 54) rfl ?_); refine goesL_ (some 26) rfl rfl Try.func54 (by kernel_rfl) rfl #[.int .u64 (IntKind.u64.wrap (a2))] rfl (by (try simp only [List.map_toArray, List.map_cons, List.map_nil]); first | done | rfl | (simp only [List.length_drop, List.length_take]; rfl)) ?_; (with_reducible refine (hurdleref01_Text.calls (IntKind.u64.wrap (a2)) t255 _ A8.out).mono ?_); rintro e w9 ⟨rfl, hb⟩; refine ⟨_, rfl, ?_⟩; have n0_ := Aside0.mk (below_step (by repeat (first | (with_reducible first | exact HB.out | apply below_alloc | apply pw_below_drewN | apply below_drew1) | exact HB.out)) hb); clear HB; have HB := n0_; clear n0_; (try clear hb); (try clear hb2); (try clear hk); (try clear hi)))
        go_ret
        exact ⟨by first | rfl | (simp [errW_none, errW_some] <;> rfl) | (simp [*, errW_none, errW_some] <;> rfl), by repeat (first | (with_reducible first | exact HB.out | apply below_alloc | apply pw_below_drewN | apply below_drew1) | exact HB.out)⟩
def hurdleref09_Machine.f (k : Nat) (a0 : Int) : Option (ByteArray) := (hurdleref09_Machines.f).bind fun bt256 => ((hurdleref09_text.f k bt256.1 bt256.2 a0).bind fun t262 => (some t262))
theorem hurdleref09_Machine.mono : ∀ a0 k, LeO (hurdleref09_Machine.f k a0) (hurdleref09_Machine.f (k + 1) a0) := by
  intro a0 k
  unfold hurdleref09_Machine.f
  repeat' first
      | (with_reducible exact hurdleref09_text.mono _ _ _ _)
      | (with_reducible exact LeO.refl _)
      | (with_reducible exact LeO.none _)
      | (with_reducible refine LeO.ite ?_ ?_)
      | (with_reducible refine LeO.bind ?_ (fun _ => ?_))
      | exact hurdleref09_text.mono _ _ _ _
      | exact LeO.none _
      | refine LeO.ite ?_ ?_
      | refine LeO.bind ?_ (fun _ => ?_)
set_option maxHeartbeats 8000000 in
set_option maxRecDepth 100000 in
theorem hurdleref09_Machine.calls (k : Nat) (a0 : Int) (r : ByteArray) (w : World) (h : hurdleref09_Machine.f k a0 = some r) :
    Calls Try.prog 56 #[.int .u32 a0] w fun e w' => e = .returned (.string r) ∧ Below w.heap.size w w' := by
  have HB := Aside0.mk (Below.refl w.heap.size w)
  have H : ((hurdleref09_Machines.f).bind fun bt256 => ((hurdleref09_text.f k bt256.1 bt256.2 a0).bind fun t262 => (some t262))) = some r := h
  clear h
  replace H := Option.bind_eq_some_iff.mp H
  obtain ⟨⟨t256, t257⟩, A20, H⟩ := H
  replace H : ((hurdleref09_text.f k t256 t257 a0).bind fun t262 => (some t262)) = some r := H
  have A2 := Aside0.mk A20
  clear A20
  replace H := Option.bind_eq_some_iff.mp H
  obtain ⟨t262, A30, H⟩ := H
  replace H : (some t262) = some r := H
  have A3 := Aside0.mk A30
  clear A30
  obtain rfl := Option.some.inj H
  go_enter Try.func56, Try.ntmps56
  go_wp2_with (first | ((with_reducible refine gate_callee (f := 72) rfl ?_); refine goesL_ (some 6) rfl rfl Try.func72 (by kernel_rfl) rfl #[] rfl (by (try simp only [List.map_toArray, List.map_cons, List.map_nil]); first | done | rfl | (simp only [List.length_drop, List.length_take]; rfl)) ?_; (with_reducible refine (hurdleref09_Machines.calls  t256 t257 _ A2.out).mono ?_); rintro e w4 ⟨v258, v260, rfl, ho0, ho1, hb⟩; refine ⟨_, rfl, ?_⟩; have n0_ := Aside0.mk (Kd.R_lower ho0 (below_size (by repeat (first | (with_reducible first | exact HB.out | apply below_alloc | apply pw_below_drewN | apply below_drew1) | exact HB.out)))); have n1_ := Aside0.mk (Kd.R_lower ho1 (below_size (by repeat (first | (with_reducible first | exact HB.out | apply below_alloc | apply pw_below_drewN | apply below_drew1) | exact HB.out)))); have n2_ := Aside0.mk (below_step (by repeat (first | (with_reducible first | exact HB.out | apply below_alloc | apply pw_below_drewN | apply below_drew1) | exact HB.out)) hb); clear HB; have HO259 := n0_; have HO261 := n1_; have HB := n2_; clear n0_ n1_ n2_; (try clear hb); (try clear hb2); (try clear hk); (try clear hi); (try clear ho0); (try clear ho1); obtain ⟨Ao5, co5, eo5⟩ := Kd.R_slice HO259.out; subst eo5; obtain ⟨Ao6, co6, eo6⟩ := Kd.R_slice HO261.out; subst eo6) | ((with_reducible refine gate_callee (f := 73) rfl ?_); refine goesL_ (some 12) rfl rfl Try.func73 (by kernel_rfl) rfl #[.slice Ao5 t256.length co5, .slice Ao6 t257.length co6, .int .u32 a0] rfl (by (try simp only [List.map_toArray, List.map_cons, List.map_nil]); first | done | rfl | (simp only [List.length_drop, List.length_take]; rfl)) ?_; (with_reducible refine (hurdleref09_text.calls k _ _ t256 _ _ t257 a0 t262 _ ?side1 ?side2 ?side3 ?side4 A3.out).mono ?_); (case side1 => repeat (first | exact (Kd.R_reads' HO259.out).2.2 | (with_reducible refine Kd.C_alloc ?_ _) | (with_reducible refine Kd.C_drewN ?_ _) | (with_reducible refine Kd.C_drew ?_))); (case side2 => exact (Kd.R_reads' HO259.out).2.1); (case side3 => repeat (first | exact (Kd.R_reads' HO261.out).2.2 | (with_reducible refine Kd.C_alloc ?_ _) | (with_reducible refine Kd.C_drewN ?_ _) | (with_reducible refine Kd.C_drew ?_))); (case side4 => exact (Kd.R_reads' HO261.out).2.1); rintro e w7 ⟨rfl, hb⟩; refine ⟨_, rfl, ?_⟩; have n0_ := Aside0.mk (Kd.R_below (by (with_reducible repeat (first | apply Kd.R_alloc | apply Kd.R_drewN | apply Kd.R_drew)); exact HO259.out) hb); have n1_ := Aside0.mk (Kd.R_below (by (with_reducible repeat (first | apply Kd.R_alloc | apply Kd.R_drewN | apply Kd.R_drew)); exact HO261.out) hb); have n2_ := Aside0.mk (below_step (by repeat (first | (with_reducible first | exact HB.out | apply below_alloc | apply pw_below_drewN | apply below_drew1) | exact HB.out)) hb); clear HO259; clear HO261; clear HB; have HO259 := n0_; have HO261 := n1_; have HB := n2_; clear n0_ n1_ n2_; (try clear hb); (try clear hb2); (try clear hk); (try clear hi)))
  go_ret
  exact ⟨by first | rfl | (simp [errW_none, errW_some] <;> rfl) | (simp [*, errW_none, errW_some] <;> rfl), by repeat (first | (with_reducible first | exact HB.out | apply below_alloc | apply pw_below_drewN | apply below_drew1) | exact HB.out)⟩
end Go.Proofs.Ytekpbgmmogpbdaa.P
