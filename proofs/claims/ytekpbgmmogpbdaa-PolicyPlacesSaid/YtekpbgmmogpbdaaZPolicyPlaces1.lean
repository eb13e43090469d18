/- The place of an error is not beyond the text, and a line begins there, or it is its end (any text of up to 25000 bytes). -/
import Derived.OpenShut
import Derived.LoopTactic
import Derived.Test.YtekpbgmmogpbdaaRows
import Derived.ProofKit
import Derived.ShutString
import Derived.ChangeOld
import Derived.SizedLaws
import Derived.Test.YtekpbgmmogpbdaaZPolicyPlaces0
set_option linter.unusedVariables false
set_option linter.unusedSimpArgs false
set_option maxRecDepth 100000
namespace Go.Proofs.Ytekpbgmmogpbdaa.H
open Go.RowKit Go.Proofs.Ytekpbgmmogpbdaa.M Go.Proofs.YtekpbgmmogpbdaaW.PrintWords Go.Proofs.YtekpbgmmogpbdaaW.PrintMore
theorem bt_drop (s : ByteArray) (i : Nat) (h : i < s.size) : ∃ c : UInt8, bt s (i : Int) = (c.toNat : Int) ∧ s.data.toList.drop i = c :: s.data.toList.drop (i + 1) := by
  refine ⟨s[i], ?_, toList_get s i h⟩
  unfold bt
  rw [dif_pos (by simpa using h)]
  rfl
end Go.Proofs.Ytekpbgmmogpbdaa.H
namespace Go.Proofs.Ytekpbgmmogpbdaa.P
open Go.RowKit Go.Proofs.Ytekpbgmmogpbdaa.H Go.Proofs.YtekpbgmmogpbdaaW.PrintWords Go.Proofs.YtekpbgmmogpbdaaW.PrintLast Go.Proofs.YtekpbgmmogpbdaaW.PrintMore
attribute [local go_sem] max2_int min2_int max_two min_two max_three min_three max_four min_four
set_option linter.unusedVariables false
set_option linter.unusedSimpArgs false
theorem eqA61 (d : Nat) (w : World) (x0 y0 : Int) (x1 y1 : Int) (x2 y2 : Int) (x3 y3 : Int) :
    (Op.equalIn (d + 2) 61 (.agg #[.int .i64 x0, .int .i64 x1, .int .u64 x2, .int .u64 x3]) (.agg #[.int .i64 y0, .int .i64 y1, .int .u64 y2, .int .u64 y3])).run Try.prog w = .ok (x0 == y0 && (x1 == y1 && (x2 == y2 && (x3 == y3)))) w := by
  refine eqA_of Try.underlying61 (by kernel_rfl) ?_
  refine eqf_cons (by rfl) (by go_simp; rfl) (by go_simp; rfl) (by go_simp) ?_
  refine eqf_cons (by rfl) (by go_simp; rfl) (by go_simp; rfl) (by go_simp) ?_
  refine eqf_cons (by rfl) (by go_simp; rfl) (by go_simp; rfl) (by go_simp) ?_
  exact eqf_last (by rfl) (by go_simp; rfl) (by go_simp; rfl) (by go_simp)
end Go.Proofs.Ytekpbgmmogpbdaa.P
namespace Go.Proofs.Ytekpbgmmogpbdaa.P
open Go.RowKit Go.Proofs.Ytekpbgmmogpbdaa.H Go.Proofs.YtekpbgmmogpbdaaW.PrintWords Go.Proofs.YtekpbgmmogpbdaaW.PrintLast Go.Proofs.YtekpbgmmogpbdaaW.PrintMore
attribute [local go_sem] max2_int min2_int max_two min_two max_three min_three max_four min_four
set_option linter.unusedVariables false
set_option linter.unusedSimpArgs false
def hurdlelaw10_PolicyPlaces.f (k : Nat) (a0 : ByteArray) : Option (Bool) := if (a0.size : Int) > 25000 then ((hurdlelaw10_knows.f k).bind fun t496 => (some t496)) else ((policy_Parse.f a0).bind fun bt497 => (if bt497.2.2.2 = 0 then (if bt497.2.2.1 = 0 then ((hurdlelaw10_knows.f k).bind fun t504 => (some t504)) else (some false)) else (if bt497.2.2.1 ≥ 0 then (if bt497.2.2.1 ≤ (a0.size : Int) then (if bt497.2.2.1 = 0 then ((hurdlelaw10_knows.f k).bind fun t505 => (some t505)) else (if 0 ≤ (wrap64 (bt497.2.2.1 - 1)) then (if (wrap64 (bt497.2.2.1 - 1)) < (a0.size : Int) then (if (bt a0 (wrap64 (bt497.2.2.1 - 1))) = 10 then ((hurdlelaw10_knows.f k).bind fun t506 => (some t506)) else (if bt497.2.2.1 = (a0.size : Int) then ((hurdlelaw10_knows.f k).bind fun t507 => (some t507)) else (some false))) else (none)) else (none))) else (some false)) else (some false))))
set_option maxHeartbeats 8000000 in
set_option maxRecDepth 100000 in
theorem hurdlelaw10_PolicyPlaces.calls (k : Nat) (a0 : ByteArray) (r : Bool) (w : World) (h : hurdlelaw10_PolicyPlaces.f k a0 = some r) :
    Calls Try.prog 7 #[.string a0] w fun e w' => e = .returned (.bool r) ∧ Below w.heap.size w w' := by
  have hu25 := Try.underlying25
  have HB := Aside0.mk (Below.refl w.heap.size w)
  have H : (if (a0.size : Int) > 25000 then ((hurdlelaw10_knows.f k).bind fun t496 => (some t496)) else ((policy_Parse.f a0).bind fun bt497 => (if bt497.2.2.2 = 0 then (if bt497.2.2.1 = 0 then ((hurdlelaw10_knows.f k).bind fun t504 => (some t504)) else (some false)) else (if bt497.2.2.1 ≥ 0 then (if bt497.2.2.1 ≤ (a0.size : Int) then (if bt497.2.2.1 = 0 then ((hurdlelaw10_knows.f k).bind fun t505 => (some t505)) else (if 0 ≤ (wrap64 (bt497.2.2.1 - 1)) then (if (wrap64 (bt497.2.2.1 - 1)) < (a0.size : Int) then (if (bt a0 (wrap64 (bt497.2.2.1 - 1))) = 10 then ((hurdlelaw10_knows.f k).bind fun t506 => (some t506)) else (if bt497.2.2.1 = (a0.size : Int) then ((hurdlelaw10_knows.f k).bind fun t507 => (some t507)) else (some false))) else (none)) else (none))) else (some false)) else (some false))))) = some r := h
  clear h
  by_cases c2 : (a0.size : Int) > 25000
  · rw [if_pos c2] at H
    have c2b0 : decide (25000 < (a0.size : Int)) = true := decide_eq_true c2
    have c2b1 : decide (25000 < a0.size) = true := decide_eq_true (by omega)
    clear c2
    replace H := Option.bind_eq_some_iff.mp H
    obtain ⟨t496, A30, H⟩ := H
    replace H : (some t496) = some r := H
    have A3 := Aside0.mk A30
    clear A30
    obtain rfl := Option.some.inj H
    go_enter Try.func7, Try.ntmps7
    go_wp2_with (first | ((with_reducible refine gate_callee (f := 15) rfl ?_); refine goesL_ (some 9) rfl rfl Try.func15 (by kernel_rfl) rfl #[] rfl (by (try simp only [List.map_toArray, List.map_cons, List.map_nil]); first | done | rfl | (simp only [List.length_drop, List.length_take]; rfl)) ?_; (with_reducible refine (hurdlelaw10_knows.calls k  t496 _ A3.out).mono ?_); rintro e w4 ⟨rfl, hb⟩; refine ⟨_, rfl, ?_⟩; have n0_ := Aside0.mk (below_step (by repeat (first | (with_reducible first | exact HB.out | apply below_alloc | apply pw_below_drewN | apply below_drew1) | exact HB.out)) hb); clear HB; have HB := n0_; clear n0_; (try clear hb); (try clear hb2); (try clear hk); (try clear hi)))
    go_ret
    exact ⟨by first | rfl | (simp [errW_none, errW_some] <;> rfl) | (simp [*, errW_none, errW_some] <;> rfl), by repeat (first | (with_reducible first | exact HB.out | apply below_alloc | apply pw_below_drewN | apply below_drew1) | exact HB.out)⟩
  · rw [if_neg c2] at H
    have c2b0 : decide (25000 < (a0.size : Int)) = false := decide_eq_false c2
    have c2b1 : decide (25000 < a0.size) = false := decide_eq_false (by omega)
    clear c2
    replace H := Option.bind_eq_some_iff.mp H
    obtain ⟨⟨t497, t500, t501, t502⟩, A50, H⟩ := H
    replace H : (if t502 = 0 then (if t501 = 0 then ((hurdlelaw10_knows.f k).bind fun t504 => (some t504)) else (some false)) else (if t501 ≥ 0 then (if t501 ≤ (a0.size : Int) then (if t501 = 0 then ((hurdlelaw10_knows.f k).bind fun t505 => (some t505)) else (if 0 ≤ (wrap64 (t501 - 1)) then (if (wrap64 (t501 - 1)) < (a0.size : Int) then (if (bt a0 (wrap64 (t501 - 1))) = 10 then ((hurdlelaw10_knows.f k).bind fun t506 => (some t506)) else (if t501 = (a0.size : Int) then ((hurdlelaw10_knows.f k).bind fun t507 => (some t507)) else (some false))) else (none)) else (none))) else (some false)) else (some false))) = some r := H
    have A5 := Aside0.mk A50
    clear A50
    by_cases c6 : t502 = 0
    · rw [if_pos c6] at H
      have c6b0 : (t502 == 0) = true := beq_iff_eq.mpr c6
      have c6b1 : (t502 != 0) = false := bne_eq_false_iff_eq.mpr c6
      clear c6
      by_cases c7 : t501 = 0
      · rw [if_pos c7] at H
        have c7b0 : (t501 == 0) = true := beq_iff_eq.mpr c7
        have c7b1 : (t501 != 0) = false := bne_eq_false_iff_eq.mpr c7
        clear c7
        replace H := Option.bind_eq_some_iff.mp H
        obtain ⟨t504, A80, H⟩ := H
        replace H : (some t504) = some r := H
        have A8 := Aside0.mk A80
        clear A80
        obtain rfl := Option.some.inj H
        go_enter Try.func7, Try.ntmps7
        go_wp2_with (first | ((with_reducible refine gate_callee (f := 20) rfl ?_); refine goesL_ (some 12) rfl rfl Try.func20 (by kernel_rfl) rfl #[.string a0] rfl (by (try simp only [List.map_toArray, List.map_cons, List.map_nil]); first | done | rfl | (simp only [List.length_drop, List.length_take]; rfl)) ?_; (with_reducible refine (policy_Parse.calls a0 t497 t500 t501 t502 _ A5.out).mono ?_); rintro e w9 ⟨v498, rfl, ho0, hb⟩; refine ⟨_, rfl, ?_⟩; have n0_ := Aside0.mk (Kd.S_lower ho0 (below_size (by repeat (first | (with_reducible first | exact HB.out | apply below_alloc | apply pw_below_drewN | apply below_drew1) | exact HB.out)))); have n1_ := Aside0.mk (below_step (by repeat (first | (with_reducible first | exact HB.out | apply below_alloc | apply pw_below_drewN | apply below_drew1) | exact HB.out)) hb); clear HB; have HO499 := n0_; have HB := n1_; clear n0_ n1_; (try clear hb); (try clear hb2); (try clear hk); (try clear hi); (try clear ho0)) | ((with_reducible refine gate_dst (N := 3) rfl ?_); (try (refine gate_guard (by rfl) ?_; dsimp only)); refine box_event ?hg (N := 3) ?hd (cs := #[.slice none 0 0, .int .u32 0]) (t := 25) ?hr ?_; (case hd => rfl); (case hg => rfl); (case hr => first | (go_simp; done) | (go_simp; rfl)); intro gb503 hg w10 hbox hb; have n0_ := Aside0.mk (Kd.S_below (by (with_reducible repeat (first | apply Kd.S_alloc | apply Kd.S_drewN | apply Kd.S_drew)); exact HO499.out) hb); have n1_ := Aside0.mk (below_step (by repeat (first | (with_reducible first | exact HB.out | apply below_alloc | apply pw_below_drewN | apply below_drew1) | exact HB.out)) hb); have n2_ := Aside0.mk (hbox); have n3_ := Aside0.mk ((by rw [hg]; exact (below_size (by repeat (first | (with_reducible first | exact HB.out | apply below_alloc | apply pw_below_drewN | apply below_drew1) | exact HB.out))) : w.heap.size ≤ gb503)); have n4_ := Aside0.mk ((by rw [hg]; exact (below_size (by repeat (first | (with_reducible first | exact HB.out | apply below_alloc | apply pw_below_drewN | apply below_drew1) | exact HB.out))) : w.heap.size ≤ gb503)); clear HO499; clear HB; have HO499 := n0_; have HB := n1_; have BK503 := n2_; have GW503 := n3_; have GE503 := n4_; clear n0_ n1_ n2_ n3_ n4_; clear hb hbox hg; obtain ⟨Ao11, co11, eo11⟩ := Kd.S_slice HO499.out; subst eo11; have hcz12_0 : w10.cell? ⟨gb503, 0, none⟩ = some (.slice none 0 0) := (blk_cell BK503.out 0).trans rfl; have hcz12_1 : w10.cell? ⟨gb503, 1, none⟩ = some (.int .u32 0) := (blk_cell BK503.out 1).trans rfl; have hfz12_0 := blk_frozen BK503.out 0; have hfz12_1 := blk_frozen BK503.out 1) | (go_at_call 15; (with_reducible refine (hurdlelaw10_knows.calls k  t504 _ A8.out).mono ?_); rintro e w13 ⟨rfl, hb⟩; have n0_ := Aside0.mk (Kd.S_below (by (with_reducible repeat (first | apply Kd.S_alloc | apply Kd.S_drewN | apply Kd.S_drew)); exact (Kd.S_mono (Kd.S_far (p := ⟨gb503, 1, none⟩) (Kd.S_far (p := ⟨gb503, 0, none⟩) (Kd.S_types HO499.out BK503.out (by decide)) (fun _ hk => hk.2) (.slice Ao11 t497.length co11)) (fun _ hk => hk.2) (.int .u32 t500)) (fun _ h_ => h_.1))) hb); have n1_ := Aside0.mk (blk_below (g := gb503) (o := .cells #[.slice Ao11 t497.length co11, .int .u32 t500] 25 (0, 0)) (by (with_reducible repeat (first | refine blk_drewN ?_ _ | refine blk_drew ?_ | refine blk_alloc ?_ _)); refine blk_put (cs := #[.slice Ao11 t497.length co11, .int .u32 0]) ?_ 1 _ rfl; (with_reducible repeat (first | refine blk_drewN ?_ _ | refine blk_drew ?_ | refine blk_alloc ?_ _)); refine blk_put (cs := #[.slice none 0 0, .int .u32 0]) ?_ 0 _ rfl; (with_reducible repeat (first | refine blk_drewN ?_ _ | refine blk_drew ?_ | refine blk_alloc ?_ _)); exact BK503.out) hb); have n2_ := Aside0.mk (below_step (by repeat (first | (with_reducible first | exact HB.out | apply below_alloc | apply pw_below_drewN | apply below_drew1 | refine below_set ?_ GE503.out) | exact HB.out)) hb); clear HO499; clear BK503; clear HB; have HO499 := n0_; have BK503 := n1_; have HB := n2_; clear n0_ n1_ n2_; (try clear hb); (try clear hb2); (try clear hk); (try clear hi)))
        go_ret
        exact ⟨by first | rfl | (simp [errW_none, errW_some] <;> rfl) | (simp [*, errW_none, errW_some] <;> rfl), by repeat (first | (with_reducible first | exact HB.out | apply below_alloc | apply pw_below_drewN | apply below_drew1 | refine below_set ?_ GE503.out) | exact HB.out)⟩
      · rw [if_neg c7] at H
        have c7b0 : (t501 == 0) = false := beq_eq_false_iff_ne.mpr c7
        have c7b1 : (t501 != 0) = true := bne_iff_ne.mpr c7
        obtain rfl := Option.some.inj H
        go_enter Try.func7, Try.ntmps7
        go_wp2_with (first | ((with_reducible refine gate_callee (f := 20) rfl ?_); refine goesL_ (some 12) rfl rfl Try.func20 (by kernel_rfl) rfl #[.string a0] rfl (by (try simp only [List.map_toArray, List.map_cons, List.map_nil]); first | done | rfl | (simp only [List.length_drop, List.length_take]; rfl)) ?_; (with_reducible refine (policy_Parse.calls a0 t497 t500 t501 t502 _ A5.out).mono ?_); rintro e w14 ⟨v498, rfl, ho0, hb⟩; refine ⟨_, rfl, ?_⟩; have n0_ := Aside0.mk (Kd.S_lower ho0 (below_size (by repeat (first | (with_reducible first | exact HB.out | apply below_alloc | apply pw_below_drewN | apply below_drew1) | exact HB.out)))); have n1_ := Aside0.mk (below_step (by repeat (first | (with_reducible first | exact HB.out | apply below_alloc | apply pw_below_drewN | apply below_drew1) | exact HB.out)) hb); clear HB; have HO499 := n0_; have HB := n1_; clear n0_ n1_; (try clear hb); (try clear hb2); (try clear hk); (try clear hi); (try clear ho0)) | ((with_reducible refine gate_dst (N := 3) rfl ?_); (try (refine gate_guard (by rfl) ?_; dsimp only)); refine box_event ?hg (N := 3) ?hd (cs := #[.slice none 0 0, .int .u32 0]) (t := 25) ?hr ?_; (case hd => rfl); (case hg => rfl); (case hr => first | (go_simp; done) | (go_simp; rfl)); intro gb503 hg w15 hbox hb; have n0_ := Aside0.mk (Kd.S_below (by (with_reducible repeat (first | apply Kd.S_alloc | apply Kd.S_drewN | apply Kd.S_drew)); exact HO499.out) hb); have n1_ := Aside0.mk (below_step (by repeat (first | (with_reducible first | exact HB.out | apply below_alloc | apply pw_below_drewN | apply below_drew1) | exact HB.out)) hb); have n2_ := Aside0.mk (hbox); have n3_ := Aside0.mk ((by rw [hg]; exact (below_size (by repeat (first | (with_reducible first | exact HB.out | apply below_alloc | apply pw_below_drewN | apply below_drew1) | exact HB.out))) : w.heap.size ≤ gb503)); have n4_ := Aside0.mk ((by rw [hg]; exact (below_size (by repeat (first | (with_reducible first | exact HB.out | apply below_alloc | apply pw_below_drewN | apply below_drew1) | exact HB.out))) : w.heap.size ≤ gb503)); clear HO499; clear HB; have HO499 := n0_; have HB := n1_; have BK503 := n2_; have GW503 := n3_; have GE503 := n4_; clear n0_ n1_ n2_ n3_ n4_; clear hb hbox hg; obtain ⟨Ao16, co16, eo16⟩ := Kd.S_slice HO499.out; subst eo16; have hcz17_0 : w15.cell? ⟨gb503, 0, none⟩ = some (.slice none 0 0) := (blk_cell BK503.out 0).trans rfl; have hcz17_1 : w15.cell? ⟨gb503, 1, none⟩ = some (.int .u32 0) := (blk_cell BK503.out 1).trans rfl; have hfz17_0 := blk_frozen BK503.out 0; have hfz17_1 := blk_frozen BK503.out 1))
        go_ret
        exact ⟨by first | rfl | (simp [errW_none, errW_some] <;> rfl) | (simp [*, errW_none, errW_some] <;> rfl), by repeat (first | (with_reducible first | exact HB.out | apply below_alloc | apply pw_below_drewN | apply below_drew1 | refine below_set ?_ GE503.out) | exact HB.out)⟩
    · rw [if_neg c6] at H
      have c6b0 : (t502 == 0) = false := beq_eq_false_iff_ne.mpr c6
      have c6b1 : (t502 != 0) = true := bne_iff_ne.mpr c6
      by_cases c18 : t501 ≥ 0
      · rw [if_pos c18] at H
        have c18b0 : decide (0 ≤ t501) = true := decide_eq_true c18
        clear c18
        by_cases c19 : t501 ≤ (a0.size : Int)
        · rw [if_pos c19] at H
          have c19b0 : decide (t501 ≤ (a0.size : Int)) = true := decide_eq_true c19
          clear c19
          by_cases c20 : t501 = 0
          · rw [if_pos c20] at H
            have c20b0 : (t501 == 0) = true := beq_iff_eq.mpr c20
            have c20b1 : (t501 != 0) = false := bne_eq_false_iff_eq.mpr c20
            clear c20
            replace H := Option.bind_eq_some_iff.mp H
            obtain ⟨t505, A210, H⟩ := H
            replace H : (some t505) = some r := H
            have A21 := Aside0.mk A210
            clear A210
            obtain rfl := Option.some.inj H
            go_enter Try.func7, Try.ntmps7
            go_wp2_with (first | ((with_reducible refine gate_callee (f := 20) rfl ?_); refine goesL_ (some 12) rfl rfl Try.func20 (by kernel_rfl) rfl #[.string a0] rfl (by (try simp only [List.map_toArray, List.map_cons, List.map_nil]); first | done | rfl | (simp only [List.length_drop, List.length_take]; rfl)) ?_; (with_reducible refine (policy_Parse.calls a0 t497 t500 t501 t502 _ A5.out).mono ?_); rintro e w22 ⟨v498, rfl, ho0, hb⟩; refine ⟨_, rfl, ?_⟩; have n0_ := Aside0.mk (Kd.S_lower ho0 (below_size (by repeat (first | (with_reducible first | exact HB.out | apply below_alloc | apply pw_below_drewN | apply below_drew1) | exact HB.out)))); have n1_ := Aside0.mk (below_step (by repeat (first | (with_reducible first | exact HB.out | apply below_alloc | apply pw_below_drewN | apply below_drew1) | exact HB.out)) hb); clear HB; have HO499 := n0_; have HB := n1_; clear n0_ n1_; (try clear hb); (try clear hb2); (try clear hk); (try clear hi); (try clear ho0)) | ((with_reducible refine gate_dst (N := 3) rfl ?_); (try (refine gate_guard (by rfl) ?_; dsimp only)); refine box_event ?hg (N := 3) ?hd (cs := #[.slice none 0 0, .int .u32 0]) (t := 25) ?hr ?_; (case hd => rfl); (case hg => rfl); (case hr => first | (go_simp; done) | (go_simp; rfl)); intro gb503 hg w23 hbox hb; have n0_ := Aside0.mk (Kd.S_below (by (with_reducible repeat (first | apply Kd.S_alloc | apply Kd.S_drewN | apply Kd.S_drew)); exact HO499.out) hb); have n1_ := Aside0.mk (below_step (by repeat (first | (with_reducible first | exact HB.out | apply below_alloc | apply pw_below_drewN | apply below_drew1) | exact HB.out)) hb); have n2_ := Aside0.mk (hbox); have n3_ := Aside0.mk ((by rw [hg]; exact (below_size (by repeat (first | (with_reducible first | exact HB.out | apply below_alloc | apply pw_below_drewN | apply below_drew1) | exact HB.out))) : w.heap.size ≤ gb503)); have n4_ := Aside0.mk ((by rw [hg]; exact (below_size (by repeat (first | (with_reducible first | exact HB.out | apply below_alloc | apply pw_below_drewN | apply below_drew1) | exact HB.out))) : w.heap.size ≤ gb503)); clear HO499; clear HB; have HO499 := n0_; have HB := n1_; have BK503 := n2_; have GW503 := n3_; have GE503 := n4_; clear n0_ n1_ n2_ n3_ n4_; clear hb hbox hg; obtain ⟨Ao24, co24, eo24⟩ := Kd.S_slice HO499.out; subst eo24; have hcz25_0 : w23.cell? ⟨gb503, 0, none⟩ = some (.slice none 0 0) := (blk_cell BK503.out 0).trans rfl; have hcz25_1 : w23.cell? ⟨gb503, 1, none⟩ = some (.int .u32 0) := (blk_cell BK503.out 1).trans rfl; have hfz25_0 := blk_frozen BK503.out 0; have hfz25_1 := blk_frozen BK503.out 1) | (go_at_call 15; (with_reducible refine (hurdlelaw10_knows.calls k  t505 _ A21.out).mono ?_); rintro e w26 ⟨rfl, hb⟩; have n0_ := Aside0.mk (Kd.S_below (by (with_reducible repeat (first | apply Kd.S_alloc | apply Kd.S_drewN | apply Kd.S_drew)); exact (Kd.S_mono (Kd.S_far (p := ⟨gb503, 1, none⟩) (Kd.S_far (p := ⟨gb503, 0, none⟩) (Kd.S_types HO499.out BK503.out (by decide)) (fun _ hk => hk.2) (.slice Ao24 t497.length co24)) (fun _ hk => hk.2) (.int .u32 t500)) (fun _ h_ => h_.1))) hb); have n1_ := Aside0.mk (blk_below (g := gb503) (o := .cells #[.slice Ao24 t497.length co24, .int .u32 t500] 25 (0, 0)) (by (with_reducible repeat (first | refine blk_drewN ?_ _ | refine blk_drew ?_ | refine blk_alloc ?_ _)); refine blk_put (cs := #[.slice Ao24 t497.length co24, .int .u32 0]) ?_ 1 _ rfl; (with_reducible repeat (first | refine blk_drewN ?_ _ | refine blk_drew ?_ | refine blk_alloc ?_ _)); refine blk_put (cs := #[.slice none 0 0, .int .u32 0]) ?_ 0 _ rfl; (with_reducible repeat (first | refine blk_drewN ?_ _ | refine blk_drew ?_ | refine blk_alloc ?_ _)); exact BK503.out) hb); have n2_ := Aside0.mk (below_step (by repeat (first | (with_reducible first | exact HB.out | apply below_alloc | apply pw_below_drewN | apply below_drew1 | refine below_set ?_ GE503.out) | exact HB.out)) hb); clear HO499; clear BK503; clear HB; have HO499 := n0_; have BK503 := n1_; have HB := n2_; clear n0_ n1_ n2_; (try clear hb); (try clear hb2); (try clear hk); (try clear hi)))
            go_ret
            exact ⟨by first | rfl | (simp [errW_none, errW_some] <;> rfl) | (simp [*, errW_none, errW_some] <;> rfl), by repeat (first | (with_reducible first | exact HB.out | apply below_alloc | apply pw_below_drewN | apply below_drew1 | refine below_set ?_ GE503.out) | exact HB.out)⟩
          · rw [if_neg c20] at H
            have c20b0 : (t501 == 0) = false := beq_eq_false_iff_ne.mpr c20
            have c20b1 : (t501 != 0) = true := bne_iff_ne.mpr c20
            obtain ⟨ji27, hji27⟩ : ∃ j_ : Int, (wrap64 (t501 - 1)) = j_ := ⟨_, rfl⟩
            replace H : (if 0 ≤ (ji27) then (if (ji27) < (a0.size : Int) then (if (bt a0 (ji27)) = 10 then ((hurdlelaw10_knows.f k).bind fun t506 => (some t506)) else (if t501 = (a0.size : Int) then ((hurdlelaw10_knows.f k).bind fun t507 => (some t507)) else (some false))) else (none)) else (none)) = some r := by first | (rw [hji27] at H; exact H) | (simp only [hji27] at H ⊢; exact H)
            (try rw [hji27] at A5)
            have hji27w : (IntKind.i64.wrap (t501 - 1)) = ji27 := (i64_w _).trans hji27
            by_cases c28 : 0 ≤ (ji27)
            · rw [if_pos c28] at H
              have c28b0 : decide (0 ≤ (ji27)) = true := decide_eq_true c28
              clear c28
              by_cases c29 : (ji27) < (a0.size : Int)
              · rw [if_pos c29] at H
                have c29b0 : decide ((ji27) < (a0.size : Int)) = true := decide_eq_true c29
                clear c29
                by_cases c31 : (bt a0 (ji27)) = 10
                · rw [if_pos c31] at H
                  have c31b0 : ((bt a0 (ji27)) == 10) = true := beq_iff_eq.mpr c31
                  have c31b1 : ((bt a0 (ji27)) != 10) = false := bne_eq_false_iff_eq.mpr c31
                  clear c31
                  replace H := Option.bind_eq_some_iff.mp H
                  obtain ⟨t506, A320, H⟩ := H
                  replace H : (some t506) = some r := H
                  have A32 := Aside0.mk A320
                  clear A320
                  obtain rfl := Option.some.inj H
                  go_enter Try.func7, Try.ntmps7
                  go_wp2_with (first | ((with_reducible refine gate_callee (f := 20) rfl ?_); refine goesL_ (some 12) rfl rfl Try.func20 (by kernel_rfl) rfl #[.string a0] rfl (by (try simp only [List.map_toArray, List.map_cons, List.map_nil]); first | done | rfl | (simp only [List.length_drop, List.length_take]; rfl)) ?_; (with_reducible refine (policy_Parse.calls a0 t497 t500 t501 t502 _ A5.out).mono ?_); rintro e w33 ⟨v498, rfl, ho0, hb⟩; refine ⟨_, rfl, ?_⟩; have n0_ := Aside0.mk (Kd.S_lower ho0 (below_size (by repeat (first | (with_reducible first | exact HB.out | apply below_alloc | apply pw_below_drewN | apply below_drew1) | exact HB.out)))); have n1_ := Aside0.mk (below_step (by repeat (first | (with_reducible first | exact HB.out | apply below_alloc | apply pw_below_drewN | apply below_drew1) | exact HB.out)) hb); clear HB; have HO499 := n0_; have HB := n1_; clear n0_ n1_; (try clear hb); (try clear hb2); (try clear hk); (try clear hi); (try clear ho0)) | ((with_reducible refine gate_dst (N := 3) rfl ?_); (try (refine gate_guard (by rfl) ?_; dsimp only)); refine box_event ?hg (N := 3) ?hd (cs := #[.slice none 0 0, .int .u32 0]) (t := 25) ?hr ?_; (case hd => rfl); (case hg => rfl); (case hr => first | (go_simp; done) | (go_simp; rfl)); intro gb503 hg w34 hbox hb; have n0_ := Aside0.mk (Kd.S_below (by (with_reducible repeat (first | apply Kd.S_alloc | apply Kd.S_drewN | apply Kd.S_drew)); exact HO499.out) hb); have n1_ := Aside0.mk (below_step (by repeat (first | (with_reducible first | exact HB.out | apply below_alloc | apply pw_below_drewN | apply below_drew1) | exact HB.out)) hb); have n2_ := Aside0.mk (hbox); have n3_ := Aside0.mk ((by rw [hg]; exact (below_size (by repeat (first | (with_reducible first | exact HB.out | apply below_alloc | apply pw_below_drewN | apply below_drew1) | exact HB.out))) : w.heap.size ≤ gb503)); have n4_ := Aside0.mk ((by rw [hg]; exact (below_size (by repeat (first | (with_reducible first | exact HB.out | apply below_alloc | apply pw_below_drewN | apply below_drew1) | exact HB.out))) : w.heap.size ≤ gb503)); clear HO499; clear HB; have HO499 := n0_; have HB := n1_; have BK503 := n2_; have GW503 := n3_; have GE503 := n4_; clear n0_ n1_ n2_ n3_ n4_; clear hb hbox hg; obtain ⟨Ao35, co35, eo35⟩ := Kd.S_slice HO499.out; subst eo35; have hcz36_0 : w34.cell? ⟨gb503, 0, none⟩ = some (.slice none 0 0) := (blk_cell BK503.out 0).trans rfl; have hcz36_1 : w34.cell? ⟨gb503, 1, none⟩ = some (.int .u32 0) := (blk_cell BK503.out 1).trans rfl; have hfz36_0 := blk_frozen BK503.out 0; have hfz36_1 := blk_frozen BK503.out 1; have p30 : 0 ≤ ((ji27) : Int) := of_decide_eq_true (by first | (with_reducible assumption) | assumption); have q30 : (ji27) < (a0.size : Int) := of_decide_eq_true (by first | (with_reducible assumption) | assumption); have hx30 := bt_at a0 (ji27); replace p30 := eq_true p30; replace q30 := eq_true q30) | (go_at_call 15; (with_reducible refine (hurdlelaw10_knows.calls k  t506 _ A32.out).mono ?_); rintro e w37 ⟨rfl, hb⟩; have n0_ := Aside0.mk (Kd.S_below (by (with_reducible repeat (first | apply Kd.S_alloc | apply Kd.S_drewN | apply Kd.S_drew)); exact (Kd.S_mono (Kd.S_far (p := ⟨gb503, 1, none⟩) (Kd.S_far (p := ⟨gb503, 0, none⟩) (Kd.S_types HO499.out BK503.out (by decide)) (fun _ hk => hk.2) (.slice Ao35 t497.length co35)) (fun _ hk => hk.2) (.int .u32 t500)) (fun _ h_ => h_.1))) hb); have n1_ := Aside0.mk (blk_below (g := gb503) (o := .cells #[.slice Ao35 t497.length co35, .int .u32 t500] 25 (0, 0)) (by (with_reducible repeat (first | refine blk_drewN ?_ _ | refine blk_drew ?_ | refine blk_alloc ?_ _)); refine blk_put (cs := #[.slice Ao35 t497.length co35, .int .u32 0]) ?_ 1 _ rfl; (with_reducible repeat (first | refine blk_drewN ?_ _ | refine blk_drew ?_ | refine blk_alloc ?_ _)); refine blk_put (cs := #[.slice none 0 0, .int .u32 0]) ?_ 0 _ rfl; (with_reducible repeat (first | refine blk_drewN ?_ _ | refine blk_drew ?_ | refine blk_alloc ?_ _)); exact BK503.out) hb); have n2_ := Aside0.mk (below_step (by repeat (first | (with_reducible first | exact HB.out | apply below_alloc | apply pw_below_drewN | apply below_drew1 | refine below_set ?_ GE503.out) | exact HB.out)) hb); clear HO499; clear BK503; clear HB; have HO499 := n0_; have BK503 := n1_; have HB := n2_; clear n0_ n1_ n2_; (try clear hb); (try clear hb2); (try clear hk); (try clear hi)))
                  go_ret
                  exact ⟨by first | rfl | (simp [errW_none, errW_some] <;> rfl) | (simp only [← hji27]; first | rfl | (simp [errW_none, errW_some] <;> rfl)) | (simp [*, errW_none, errW_some] <;> rfl), by repeat (first | (with_reducible first | exact HB.out | apply below_alloc | apply pw_below_drewN | apply below_drew1 | refine below_set ?_ GE503.out) | exact HB.out)⟩
                · rw [if_neg c31] at H
                  have c31b0 : ((bt a0 (ji27)) == 10) = false := beq_eq_false_iff_ne.mpr c31
                  have c31b1 : ((bt a0 (ji27)) != 10) = true := bne_iff_ne.mpr c31
                  by_cases c38 : t501 = (a0.size : Int)
                  · rw [if_pos c38] at H
                    have c38b0 : (t501 == (a0.size : Int)) = true := beq_iff_eq.mpr c38
                    have c38b1 : (t501 != (a0.size : Int)) = false := bne_eq_false_iff_eq.mpr c38
                    clear c38
                    replace H := Option.bind_eq_some_iff.mp H
                    obtain ⟨t507, A390, H⟩ := H
                    replace H : (some t507) = some r := H
                    have A39 := Aside0.mk A390
                    clear A390
                    obtain rfl := Option.some.inj H
                    go_enter Try.func7, Try.ntmps7
                    go_wp2_with (first | ((with_reducible refine gate_callee (f := 20) rfl ?_); refine goesL_ (some 12) rfl rfl Try.func20 (by kernel_rfl) rfl #[.string a0] rfl (by (try simp only [List.map_toArray, List.map_cons, List.map_nil]); first | done | rfl | (simp only [List.length_drop, List.length_take]; rfl)) ?_; (with_reducible refine (policy_Parse.calls a0 t497 t500 t501 t502 _ A5.out).mono ?_); rintro e w40 ⟨v498, rfl, ho0, hb⟩; refine ⟨_, rfl, ?_⟩; have n0_ := Aside0.mk (Kd.S_lower ho0 (below_size (by repeat (first | (with_reducible first | exact HB.out | apply below_alloc | apply pw_below_drewN | apply below_drew1) | exact HB.out)))); have n1_ := Aside0.mk (below_step (by repeat (first | (with_reducible first | exact HB.out | apply below_alloc | apply pw_below_drewN | apply below_drew1) | exact HB.out)) hb); clear HB; have HO499 := n0_; have HB := n1_; clear n0_ n1_; (try clear hb); (try clear hb2); (try clear hk); (try clear hi); (try clear ho0)) | ((with_reducible refine gate_dst (N := 3) rfl ?_); (try (refine gate_guard (by rfl) ?_; dsimp only)); refine box_event ?hg (N := 3) ?hd (cs := #[.slice none 0 0, .int .u32 0]) (t := 25) ?hr ?_; (case hd => rfl); (case hg => rfl); (case hr => first | (go_simp; done) | (go_simp; rfl)); intro gb503 hg w41 hbox hb; have n0_ := Aside0.mk (Kd.S_below (by (with_reducible repeat (first | apply Kd.S_alloc | apply Kd.S_drewN | apply Kd.S_drew)); exact HO499.out) hb); have n1_ := Aside0.mk (below_step (by repeat (first | (with_reducible first | exact HB.out | apply below_alloc | apply pw_below_drewN | apply below_drew1) | exact HB.out)) hb); have n2_ := Aside0.mk (hbox); have n3_ := Aside0.mk ((by rw [hg]; exact (below_size (by repeat (first | (with_reducible first | exact HB.out | apply below_alloc | apply pw_below_drewN | apply below_drew1) | exact HB.out))) : w.heap.size ≤ gb503)); have n4_ := Aside0.mk ((by rw [hg]; exact (below_size (by repeat (first | (with_reducible first | exact HB.out | apply below_alloc | apply pw_below_drewN | apply below_drew1) | exact HB.out))) : w.heap.size ≤ gb503)); clear HO499; clear HB; have HO499 := n0_; have HB := n1_; have BK503 := n2_; have GW503 := n3_; have GE503 := n4_; clear n0_ n1_ n2_ n3_ n4_; clear hb hbox hg; obtain ⟨Ao42, co42, eo42⟩ := Kd.S_slice HO499.out; subst eo42; have hcz43_0 : w41.cell? ⟨gb503, 0, none⟩ = some (.slice none 0 0) := (blk_cell BK503.out 0).trans rfl; have hcz43_1 : w41.cell? ⟨gb503, 1, none⟩ = some (.int .u32 0) := (blk_cell BK503.out 1).trans rfl; have hfz43_0 := blk_frozen BK503.out 0; have hfz43_1 := blk_frozen BK503.out 1; have p30 : 0 ≤ ((ji27) : Int) := of_decide_eq_true (by first | (with_reducible assumption) | assumption); have q30 : (ji27) < (a0.size : Int) := of_decide_eq_true (by first | (with_reducible assumption) | assumption); have hx30 := bt_at a0 (ji27); replace p30 := eq_true p30; replace q30 := eq_true q30) | (go_at_call 15; (with_reducible refine (hurdlelaw10_knows.calls k  t507 _ A39.out).mono ?_); rintro e w44 ⟨rfl, hb⟩; have n0_ := Aside0.mk (Kd.S_below (by (with_reducible repeat (first | apply Kd.S_alloc | apply Kd.S_drewN | apply Kd.S_drew)); exact (Kd.S_mono (Kd.S_far (p := ⟨gb503, 1, none⟩) (Kd.S_far (p := ⟨gb503, 0, none⟩) (Kd.S_types HO499.out BK503.out (by decide)) (fun _ hk => hk.2) (.slice Ao42 t497.length co42)) (fun _ hk => hk.2) (.int .u32 t500)) (fun _ h_ => h_.1))) hb); have n1_ := Aside0.mk (blk_below (g := gb503) (o := .cells #[.slice Ao42 t497.length co42, .int .u32 t500] 25 (0, 0)) (by (with_reducible repeat (first | refine blk_drewN ?_ _ | refine blk_drew ?_ | refine blk_alloc ?_ _)); refine blk_put (cs := #[.slice Ao42 t497.length co42, .int .u32 0]) ?_ 1 _ rfl; (with_reducible repeat (first | refine blk_drewN ?_ _ | refine blk_drew ?_ | refine blk_alloc ?_ _)); refine blk_put (cs := #[.slice none 0 0, .int .u32 0]) ?_ 0 _ rfl; (with_reducible repeat (first | refine blk_drewN ?_ _ | refine blk_drew ?_ | refine blk_alloc ?_ _)); exact BK503.out) hb); have n2_ := Aside0.mk (below_step (by repeat (first | (with_reducible first | exact HB.out | apply below_alloc | apply pw_below_drewN | apply below_drew1 | refine below_set ?_ GE503.out) | exact HB.out)) hb); clear HO499; clear BK503; clear HB; have HO499 := n0_; have BK503 := n1_; have HB := n2_; clear n0_ n1_ n2_; (try clear hb); (try clear hb2); (try clear hk); (try clear hi)))
                    go_ret
                    exact ⟨by first | rfl | (simp [errW_none, errW_some] <;> rfl) | (simp only [← hji27]; first | rfl | (simp [errW_none, errW_some] <;> rfl)) | (simp [*, errW_none, errW_some] <;> rfl), by repeat (first | (with_reducible first | exact HB.out | apply below_alloc | apply pw_below_drewN | apply below_drew1 | refine below_set ?_ GE503.out) | exact HB.out)⟩
                  · rw [if_neg c38] at H
                    have c38b0 : (t501 == (a0.size : Int)) = false := beq_eq_false_iff_ne.mpr c38
                    have c38b1 : (t501 != (a0.size : Int)) = true := bne_iff_ne.mpr c38
                    obtain rfl := Option.some.inj H
                    go_enter Try.func7, Try.ntmps7
                    go_wp2_with (first | ((with_reducible refine gate_callee (f := 20) rfl ?_); refine goesL_ (some 12) rfl rfl Try.func20 (by kernel_rfl) rfl #[.string a0] rfl (by (try simp only [List.map_toArray, List.map_cons, List.map_nil]); first | done | rfl | (simp only [List.length_drop, List.length_take]; rfl)) ?_; (with_reducible refine (policy_Parse.calls a0 t497 t500 t501 t502 _ A5.out).mono ?_); rintro e w45 ⟨v498, rfl, ho0, hb⟩; refine ⟨_, rfl, ?_⟩; have n0_ := Aside0.mk (Kd.S_lower ho0 (below_size (by repeat (first | (with_reducible first | exact HB.out | apply below_alloc | apply pw_below_drewN | apply below_drew1) | exact HB.out)))); have n1_ := Aside0.mk (below_step (by repeat (first | (with_reducible first | exact HB.out | apply below_alloc | apply pw_below_drewN | apply below_drew1) | exact HB.out)) hb); clear HB; have HO499 := n0_; have HB := n1_; clear n0_ n1_; (try clear hb); (try clear hb2); (try clear hk); (try clear hi); (try clear ho0)) | ((with_reducible refine gate_dst (N := 3) rfl ?_); (try (refine gate_guard (by rfl) ?_; dsimp only)); refine box_event ?hg (N := 3) ?hd (cs := #[.slice none 0 0, .int .u32 0]) (t := 25) ?hr ?_; (case hd => rfl); (case hg => rfl); (case hr => first | (go_simp; done) | (go_simp; rfl)); intro gb503 hg w46 hbox hb; have n0_ := Aside0.mk (Kd.S_below (by (with_reducible repeat (first | apply Kd.S_alloc | apply Kd.S_drewN | apply Kd.S_drew)); exact HO499.out) hb); have n1_ := Aside0.mk (below_step (by repeat (first | (with_reducible first | exact HB.out | apply below_alloc | apply pw_below_drewN | apply below_drew1) | exact HB.out)) hb); have n2_ := Aside0.mk (hbox); have n3_ := Aside0.mk ((by rw [hg]; exact (below_size (by repeat (first | (with_reducible first | exact HB.out | apply below_alloc | apply pw_below_drewN | apply below_drew1) | exact HB.out))) : w.heap.size ≤ gb503)); have n4_ := Aside0.mk ((by rw [hg]; exact (below_size (by repeat (first | (with_reducible first | exact HB.out | apply below_alloc | apply pw_below_drewN | apply below_drew1) | exact HB.out))) : w.heap.size ≤ gb503)); clear HO499; clear HB; have HO499 := n0_; have HB := n1_; have BK503 := n2_; have GW503 := n3_; have GE503 := n4_; clear n0_ n1_ n2_ n3_ n4_; clear hb hbox hg; obtain ⟨Ao47, co47, eo47⟩ := Kd.S_slice HO499.out; subst eo47; have hcz48_0 : w46.cell? ⟨gb503, 0, none⟩ = some (.slice none 0 0) := (blk_cell BK503.out 0).trans rfl; have hcz48_1 : w46.cell? ⟨gb503, 1, none⟩ = some (.int .u32 0) := (blk_cell BK503.out 1).trans rfl; have hfz48_0 := blk_frozen BK503.out 0; have hfz48_1 := blk_frozen BK503.out 1; have p30 : 0 ≤ ((ji27) : Int) := of_decide_eq_true (by first | (with_reducible assumption) | assumption); have q30 : (ji27) < (a0.size : Int) := of_decide_eq_true (by first | (with_reducible assumption) | assumption); have hx30 := bt_at a0 (ji27); replace p30 := eq_true p30; replace q30 := eq_true q30))
                    go_ret
                    exact ⟨by first | rfl | (simp [errW_none, errW_some] <;> rfl) | (simp only [← hji27]; first | rfl | (simp [errW_none, errW_some] <;> rfl)) | (simp [*, errW_none, errW_some] <;> rfl), by repeat (first | (with_reducible first | exact HB.out | apply below_alloc | apply pw_below_drewN | apply below_drew1 | refine below_set ?_ GE503.out) | exact HB.out)⟩
              · rw [if_neg c29] at H
                exact absurd H (by simp)
            · rw [if_neg c28] at H
              exact absurd H (by simp)
        · rw [if_neg c19] at H
          have c19b0 : decide (t501 ≤ (a0.size : Int)) = false := decide_eq_false c19
          clear c19
          obtain rfl := Option.some.inj H
          go_enter Try.func7, Try.ntmps7
          go_wp2_with (first | ((with_reducible refine gate_callee (f := 20) rfl ?_); refine goesL_ (some 12) rfl rfl Try.func20 (by kernel_rfl) rfl #[.string a0] rfl (by (try simp only [List.map_toArray, List.map_cons, List.map_nil]); first | done | rfl | (simp only [List.length_drop, List.length_take]; rfl)) ?_; (with_reducible refine (policy_Parse.calls a0 t497 t500 t501 t502 _ A5.out).mono ?_); rintro e w49 ⟨v498, rfl, ho0, hb⟩; refine ⟨_, rfl, ?_⟩; have n0_ := Aside0.mk (Kd.S_lower ho0 (below_size (by repeat (first | (with_reducible first | exact HB.out | apply below_alloc | apply pw_below_drewN | apply below_drew1) | exact HB.out)))); have n1_ := Aside0.mk (below_step (by repeat (first | (with_reducible first | exact HB.out | apply below_alloc | apply pw_below_drewN | apply below_drew1) | exact HB.out)) hb); clear HB; have HO499 := n0_; have HB := n1_; clear n0_ n1_; (try clear hb); (try clear hb2); (try clear hk); (try clear hi); (try clear ho0)) | ((with_reducible refine gate_dst (N := 3) rfl ?_); (try (refine gate_guard (by rfl) ?_; dsimp only)); refine box_event ?hg (N := 3) ?hd (cs := #[.slice none 0 0, .int .u32 0]) (t := 25) ?hr ?_; (case hd => rfl); (case hg => rfl); (case hr => first | (go_simp; done) | (go_simp; rfl)); intro gb503 hg w50 hbox hb; have n0_ := Aside0.mk (Kd.S_below (by (with_reducible repeat (first | apply Kd.S_alloc | apply Kd.S_drewN | apply Kd.S_drew)); exact HO499.out) hb); have n1_ := Aside0.mk (below_step (by repeat (first | (with_reducible first | exact HB.out | apply below_alloc | apply pw_below_drewN | apply below_drew1) | exact HB.out)) hb); have n2_ := Aside0.mk (hbox); have n3_ := Aside0.mk ((by rw [hg]; exact (below_size (by repeat (first | (with_reducible first | exact HB.out | apply below_alloc | apply pw_below_drewN | apply below_drew1) | exact HB.out))) : w.heap.size ≤ gb503)); have n4_ := Aside0.mk ((by rw [hg]; exact (below_size (by repeat (first | (with_reducible first | exact HB.out | apply below_alloc | apply pw_below_drewN | apply below_drew1) | exact HB.out))) : w.heap.size ≤ gb503)); clear HO499; clear HB; have HO499 := n0_; have HB := n1_; have BK503 := n2_; have GW503 := n3_; have GE503 := n4_; clear n0_ n1_ n2_ n3_ n4_; clear hb hbox hg; obtain ⟨Ao51, co51, eo51⟩ := Kd.S_slice HO499.out; subst eo51; have hcz52_0 : w50.cell? ⟨gb503, 0, none⟩ = some (.slice none 0 0) := (blk_cell BK503.out 0).trans rfl; have hcz52_1 : w50.cell? ⟨gb503, 1, none⟩ = some (.int .u32 0) := (blk_cell BK503.out 1).trans rfl; have hfz52_0 := blk_frozen BK503.out 0; have hfz52_1 := blk_frozen BK503.out 1))
          go_ret
          exact ⟨by first | rfl | (simp [errW_none, errW_some] <;> rfl) | (simp [*, errW_none, errW_some] <;> rfl), by repeat (first | (with_reducible first | exact HB.out | apply below_alloc | apply pw_below_drewN | apply below_drew1 | refine below_set ?_ GE503.out) | exact HB.out)⟩
      · rw [if_neg c18] at H
        have c18b0 : decide (0 ≤ t501) = false := decide_eq_false c18
        clear c18
        obtain rfl := Option.some.inj H
        go_enter Try.func7, Try.ntmps7
        go_wp2_with (first | ((with_reducible refine gate_callee (f := 20) rfl ?_); refine goesL_ (some 12) rfl rfl Try.func20 (by kernel_rfl) rfl #[.string a0] rfl (by (try simp only [List.map_toArray, List.map_cons, List.map_nil]); first | done | rfl | (simp only [List.length_drop, List.length_take]; rfl)) ?_; (with_reducible refine (policy_Parse.calls a0 t497 t500 t501 t502 _ A5.out).mono ?_); rintro e w53 ⟨v498, rfl, ho0, hb⟩; refine ⟨_, rfl, ?_⟩; have n0_ := Aside0.mk (Kd.S_lower ho0 (below_size (by repeat (first | (with_reducible first | exact HB.out | apply below_alloc | apply pw_below_drewN | apply below_drew1) | exact HB.out)))); have n1_ := Aside0.mk (below_step (by repeat (first | (with_reducible first | exact HB.out | apply below_alloc | apply pw_below_drewN | apply below_drew1) | exact HB.out)) hb); clear HB; have HO499 := n0_; have HB := n1_; clear n0_ n1_; (try clear hb); (try clear hb2); (try clear hk); (try clear hi); (try clear ho0)) | ((with_reducible refine gate_dst (N := 3) rfl ?_); (try (refine gate_guard (by rfl) ?_; dsimp only)); refine box_event ?hg (N := 3) ?hd (cs := #[.slice none 0 0, .int .u32 0]) (t := 25) ?hr ?_; (case hd => rfl); (case hg => rfl); (case hr => first | (go_simp; done) | (go_simp; rfl)); intro gb503 hg w54 hbox hb; have n0_ := Aside0.mk (Kd.S_below (by (with_reducible repeat (first | apply Kd.S_alloc | apply Kd.S_drewN | apply Kd.S_drew)); exact HO499.out) hb); have n1_ := Aside0.mk (below_step (by repeat (first | (with_reducible first | exact HB.out | apply below_alloc | apply pw_below_drewN | apply below_drew1) | exact HB.out)) hb); have n2_ := Aside0.mk (hbox); have n3_ := Aside0.mk ((by rw [hg]; exact (below_size (by repeat (first | (with_reducible first | exact HB.out | apply below_alloc | apply pw_below_drewN | apply below_drew1) | exact HB.out))) : w.heap.size ≤ gb503)); have n4_ := Aside0.mk ((by rw [hg]; exact (below_size (by repeat (first | (with_reducible first | exact HB.out | apply below_alloc | apply pw_below_drewN | apply below_drew1) | exact HB.out))) : w.heap.size ≤ gb503)); clear HO499; clear HB; have HO499 := n0_; have HB := n1_; have BK503 := n2_; have GW503 := n3_; have GE503 := n4_; clear n0_ n1_ n2_ n3_ n4_; clear hb hbox hg; obtain ⟨Ao55, co55, eo55⟩ := Kd.S_slice HO499.out; subst eo55; have hcz56_0 : w54.cell? ⟨gb503, 0, none⟩ = some (.slice none 0 0) := (blk_cell BK503.out 0).trans rfl; have hcz56_1 : w54.cell? ⟨gb503, 1, none⟩ = some (.int .u32 0) := (blk_cell BK503.out 1).trans rfl; have hfz56_0 := blk_frozen BK503.out 0; have hfz56_1 := blk_frozen BK503.out 1))
        go_ret
        exact ⟨by first | rfl | (simp [errW_none, errW_some] <;> rfl) | (simp [*, errW_none, errW_some] <;> rfl), by repeat (first | (with_reducible first | exact HB.out | apply below_alloc | apply pw_below_drewN | apply below_drew1 | refine below_set ?_ GE503.out) | exact HB.out)⟩
def hurdlelaw10_PolicyPlaces.Pure : Prop := ∀ (a0 : ByteArray), a0.size ≤ 140737488351232 → ∃ k, hurdlelaw10_PolicyPlaces.f k a0 = some true
theorem hurdlelaw10_PolicyPlaces.walk (P : hurdlelaw10_PolicyPlaces.Pure) (a0 : ByteArray) (w : World) (w0 : a0.size ≤ 140737488351232) :
    Calls Try.prog 7 #[.string a0] w fun e w' => e = .returned (.bool true) ∧ Below w.heap.size w w' := by
  obtain ⟨k, h⟩ := P a0 w0
  refine (hurdlelaw10_PolicyPlaces.calls k a0 true w h).mono ?_
  rintro e w' ⟨rfl, hd⟩
  exact ⟨rfl, hd⟩
end Go.Proofs.Ytekpbgmmogpbdaa.P
set_option linter.unusedVariables false
set_option linter.unusedSimpArgs false
set_option maxRecDepth 100000
namespace Go.Proofs.Ytekpbgmmogpbdaa.Pure
open Go.RowKit Go.Proofs.Ytekpbgmmogpbdaa.P Go.Proofs.Ytekpbgmmogpbdaa.H Go.Proofs.YtekpbgmmogpbdaaW.PrintWords Go.Proofs.YtekpbgmmogpbdaaW.PrintLast
theorem kn_bindP : Ev (fun k => (hurdlelaw10_knows.f k).bind fun t => some t) true := Ev.bind knows_ev (Ev.now _)
theorem PolicyPlaces : hurdlelaw10_PolicyPlaces.Pure := by
  intro a0 h0
  refine Ev.rounds (g := fun k => hurdlelaw10_PolicyPlaces.f k a0) ?_
  unfold hurdlelaw10_PolicyPlaces.f
  by_cases hb : (a0.size : Int) > 25000
  · exact Ev.congr (fun k => if_pos hb) kn_bindP
  · simp only [if_neg hb, parse_f a0 h0, Option.bind_some]
    have hp := parse_place a0.data.toList
    obtain ⟨L, df, i, e, hr⟩ : ∃ L df i e, parseV a0.data.toList = (L, df, i, e) := ⟨_, _, _, _, rfl⟩
    rw [hr] at hp ⊢
    simp only [] at hp ⊢
    by_cases he : e = 0
    · simp only [if_pos he, if_pos (hp.1 he)]
      exact kn_bindP
    · simp only [if_neg he]
      obtain ⟨p1, p2, p3⟩ := hp.2.1 he
      have hsz : (a0.data.toList.length : Int) = (a0.size : Int) := by rw [size_list]
      rw [hsz] at p2 p3
      simp only [if_pos (show i ≥ 0 from p1), if_pos p2]
      by_cases hi : i = 0
      · simp only [if_pos hi]; exact kn_bindP
      · simp only [if_neg hi]
        have hw : wrap64 (i - 1) = i - 1 := by unfold wrap64; omega
        simp only [hw, if_pos (show 0 ≤ i - 1 by omega), if_pos (show i - 1 < (a0.size : Int) by omega)]
        by_cases h10 : bt a0 (i - 1) = 10
        · simp only [if_pos h10]; exact kn_bindP
        · simp only [if_neg h10]
          rcases p3 with h | h | h
          · exact absurd h hi
          · exfalso
            obtain ⟨n, rfl⟩ : ∃ n : Nat, i = ((n + 1 : Nat) : Int) := ⟨i.toNat - 1, by omega⟩
            rw [show ((n + 1 : Nat) : Int).toNat - 1 = n by omega] at h
            apply h10
            rw [show ((n + 1 : Nat) : Int) - 1 = (n : Int) by omega]
            obtain ⟨c, hc, hd⟩ := bt_drop a0 n (by omega)
            rw [hc]
            have : a0.data.toList[n]? = some c := by
              have h2 := congrArg (·[0]?) hd
              simpa using h2
            rw [h] at this
            injection this with this
            subst this
            rfl
          · simp only [if_pos h]; exact kn_bindP
end Go.Proofs.Ytekpbgmmogpbdaa.Pure
namespace Go.Proofs.Ytekpbgmmogpbdaa.policyPlaces
open Go.ChangeShapes Go.WideShapes Go.ChangeAt Go.RowKit
open Go.ChangeMaps (open_string shut_string)
set_option linter.unusedVariables false
theorem own : ownKnob Try.prog.godebug = none := by kernel_rfl
set_option maxRecDepth 100000 in
theorem lifted (os : Os) (started : os.Started) (H : Type) (enc : TypeId × Value → H) :
    ReturnsInHanded {} Try.checked os 7 .any (Rows.policyPlacesSpec.pre6 enc Try.prog Try.f7 Rows.policyPlacesRow.domain false) (Rows.policyPlacesSpec.post enc Try.prog Try.f7 false true false false) := by
  refine returnsInHanded_of_change_sized (C := Try.checked) own started (by kernel_rfl) Try.func7
    (ChangeSpec.witness6 (enc := enc) (C := Try.checked) false ⟨#[], #[.string ByteArray.empty], []⟩ 8 (by kernel_rfl) (by kernel_rfl) (by kernel_rfl) (by kernel_rfl)) ?_
  intro W base args ds gs before hval0 hW hcnd hsz0 _
  have hsz : (DataW.weightsEach Try.prog (Try.f7.params.toList ++ Rows.policyPlacesSpec.plain.varTypes Try.prog) (ds ++ gs)).all (· ≤ reachBytes) = true := hsz0
  have hval : ∀ (j : Nat) t v, Try.f7.params[j]? = some t → args[j]? = some v → Value.okWide Try.prog W .any base t v := hval0
  have hW' := hW
  obtain ⟨p, q, hA0, hV, rfl, hfz, hnd⟩ := hW
  have hA : DataW.TrodAll enc Try.prog W 0 (fun _ => true) true Try.f7.params.toList args.toList ds p := hA0
  rw [Try.params7] at hA hval hsz
  obtain ⟨v0, vs0, d0, ds0, p0, q0, hargs, rfl, rfl, h0, r0⟩ := trodAll_cons hA
  obtain ⟨rfl, rfl, rfl⟩ := trodAll_nil r0
  obtain rfl : args = #[v0] := by cases args; simp_all
  obtain ⟨rfl, rfl⟩ := trodVars_none hV
  obtain ⟨a0, rfl, rfl, rfl, y0⟩ := open_string Try.underlying9 (hval 0 9 v0 rfl rfl) h0
  have w0 : a0.size ≤ 140737488351232 := by
    have z := sized_string hsz (j := 0) (t := 9) rfl rfl
    rw [Array.length_toList] at z
    exact z
  clear hA0 hval0 hsz0 hsz
  refine (P.hurdlelaw10_PolicyPlaces.walk Pure.PolicyPlaces a0 W w0).mono fun e W' ⟨he, bel⟩ => ?_
  subst he
  exact ⟨_, rfl, _, _, _, [], _, [], hW', trodAll_mk1 (shut_bool Try.underlying4 _), (trodAll_cons_mk (shut_string Try.underlying9 y0) trodAll_mk0), rfl, bel.frame _, fun h => by cases h⟩
theorem over : Rows.policyPlacesRow.holds Try.pinned (OpenSpec.ofChange Rows.policyPlacesSpec) :=
  OpenClaim.holds_of_wide 7 Try.f7 rfl rfl rfl rfl rfl rfl rfl ⟨rfl, rfl, rfl, rfl, rfl⟩ rfl rfl rfl rfl rfl (by kernel_rfl) Try.func7 (by kernel_rfl)
    (of_decide_eq_true (by kernel_rfl)) (by unfold Func.isWrapper; first | (rw [if_pos (by decide +kernel)]; kernel_rfl) | (rw [if_neg (by decide +kernel)]; exact ⟨rfl, rfl⟩))
    (fun os started H enc _ => lifted os started H enc)
theorem proved : Rows.PolicyPlacesSaid := over
#print axioms proved
end Go.Proofs.Ytekpbgmmogpbdaa.policyPlaces
namespace Go.Proofs.Ytekpbgmmogpbdaa
theorem policyPlaces_holds : Rows.PolicyPlacesSaid := policyPlaces.proved
end Go.Proofs.Ytekpbgmmogpbdaa
