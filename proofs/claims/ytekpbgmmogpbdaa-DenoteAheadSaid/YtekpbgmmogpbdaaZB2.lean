/- Lemmas for this claim: Package policy, plainly: texts of many lines: parseV reads a policy's text as it, and what it reads has just that text; places of errors; texts cut or made longer. (Some lines were printed for this seat by the kit's print.sh; wip/pack.py has put the needed ones together.) -/
import Derived.Test.YtekpbgmmogpbdaaZB1
namespace Go.Proofs.Ytekpbgmmogpbdaa.P
open Go.RowKit Go.Proofs.Ytekpbgmmogpbdaa.H Go.Proofs.YtekpbgmmogpbdaaW.PrintWords Go.Proofs.YtekpbgmmogpbdaaW.PrintLast Go.Proofs.YtekpbgmmogpbdaaW.PrintMore
attribute [local go_sem] max2_int min2_int max_two min_two max_three min_three max_four min_four
set_option linter.unusedVariables false
set_option linter.unusedSimpArgs false
def policy_rule.l0 : Nat → ByteArray → ByteArray → List (S61) → Int → Int → Option (ByteArray)
  | 0, _, _, _, _, _ => none
  | k + 1, x5, x6, x32, x33, x34 => if x34 < x33 then (if 0 ≤ x34 then (if x34 < (x32.length : Int) then ((cond_Print.f ((rd_T61 x32 x34).f0) ((rd_T61 x32 x34).f1) ((rd_T61 x32 x34).f2) ((rd_T61 x32 x34).f3)).bind fun bt123 => (if x6.size + bt123.1.size ≤ 9223372036854775807 then (if x5.size + (x6 ++ bt123.1).size ≤ 9223372036854775807 then (policy_rule.l0 k (x5 ++ (x6 ++ bt123.1)) (⟨#[32, 97, 110, 100, 32]⟩ : ByteArray) x32 x33 (wrap64 (x34 + 1))) else (none)) else (none))) else (none)) else (none)) else (some x5)
def policy_rule.f (k : Nat) (a0_0 : Int) (a0_1 : Int) (l0_2 : List (S61)) (a0_3 : Int) : Option (ByteArray) := (names_Action.f a0_3).bind fun bt117 => ((names_Machine.f a0_0).bind fun t119 => (if 3 + t119.size ≤ 9223372036854775807 then (if ((⟨#[111, 110, 32]⟩ : ByteArray) ++ t119).size + 1 ≤ 9223372036854775807 then ((names_Call.f a0_0 a0_1).bind fun t120 => (if (((⟨#[111, 110, 32]⟩ : ByteArray) ++ t119) ++ (⟨#[32]⟩ : ByteArray)).size + t120.size ≤ 9223372036854775807 then (if ((((⟨#[111, 110, 32]⟩ : ByteArray) ++ t119) ++ (⟨#[32]⟩ : ByteArray)) ++ t120).size + 1 ≤ 9223372036854775807 then (if (((((⟨#[111, 110, 32]⟩ : ByteArray) ++ t119) ++ (⟨#[32]⟩ : ByteArray)) ++ t120) ++ (⟨#[32]⟩ : ByteArray)).size + bt117.1.size ≤ 9223372036854775807 then (policy_rule.l0 k ((((((⟨#[111, 110, 32]⟩ : ByteArray) ++ t119) ++ (⟨#[32]⟩ : ByteArray)) ++ t120) ++ (⟨#[32]⟩ : ByteArray)) ++ bt117.1) (⟨#[32, 105, 102, 32]⟩ : ByteArray) l0_2 (l0_2.length : Int) 0) else (none)) else (none)) else (none))) else (none)) else (none)))
def policy_rule.T2 : Bool × List (List Nat × List Nat) := (true, [([], []), ([0], [0]), ([1], [1]), ([2], [2]), ([3], [3]), ([], []), ([5], [5]), ([], []), ([7], [7]), ([6, 8, 2], [6, 8]), ([4, 9], [4, 9]), ([10], [10]), ([], []), ([11, 12], [11, 12]), ([13, 9, 0, 1, 2, 3, 4, 5, 6, 7, 8, 9, 10, 11, 12, 13], [13])])
def policy_rule.B2 : List Nat := [0, 1, 3, 7, 15, 0, 32, 0, 128, 487, 1023, 2047, 0, 8191, 16383]
theorem policy_rule.tab2 : rtab .any (opsOf Try.f31 2) = policy_rule.T2 := by kernel_rfl
theorem policy_rule.bits2 : waitsOk policy_rule.T2.2 policy_rule.B2 = true := by kernel_rfl
set_option maxHeartbeats 8000000 in
set_option maxRecDepth 100000 in
theorem policy_rule.calls (k : Nat) (a0_0 : Int) (a0_1 : Int) (A0_2 : Option Addr) (c0_2 : Nat) (l0_2 : List (S61)) (a0_3 : Int) (r : ByteArray) (w : World) (hr0_2 : Kd.C k61 w A0_2 l0_2.length l0_2) (hc0_2 : l0_2.length ≤ c0_2) (h : policy_rule.f k a0_0 a0_1 l0_2 a0_3 = some r) :
    Calls Try.prog 31 #[.agg #[.int .u32 a0_0, .int .u32 a0_1, .slice A0_2 l0_2.length c0_2, .int .u32 a0_3]] w fun e w' => e = .returned (.string r) ∧ Below w.heap.size w w' := by
  have hu40 := Try.underlying40
  have hu61 := Try.underlying61
  have HR0_2 := Aside0.mk hr0_2
  have HC0_2 := Aside0.mk hc0_2
  clear hr0_2 hc0_2
  have HB := Aside0.mk (Below.refl w.heap.size w)
  have H : ((names_Action.f a0_3).bind fun bt117 => ((names_Machine.f a0_0).bind fun t119 => (if 3 + t119.size ≤ 9223372036854775807 then (if ((⟨#[111, 110, 32]⟩ : ByteArray) ++ t119).size + 1 ≤ 9223372036854775807 then ((names_Call.f a0_0 a0_1).bind fun t120 => (if (((⟨#[111, 110, 32]⟩ : ByteArray) ++ t119) ++ (⟨#[32]⟩ : ByteArray)).size + t120.size ≤ 9223372036854775807 then (if ((((⟨#[111, 110, 32]⟩ : ByteArray) ++ t119) ++ (⟨#[32]⟩ : ByteArray)) ++ t120).size + 1 ≤ 9223372036854775807 then (if (((((⟨#[111, 110, 32]⟩ : ByteArray) ++ t119) ++ (⟨#[32]⟩ : ByteArray)) ++ t120) ++ (⟨#[32]⟩ : ByteArray)).size + bt117.1.size ≤ 9223372036854775807 then (policy_rule.l0 k ((((((⟨#[111, 110, 32]⟩ : ByteArray) ++ t119) ++ (⟨#[32]⟩ : ByteArray)) ++ t120) ++ (⟨#[32]⟩ : ByteArray)) ++ bt117.1) (⟨#[32, 105, 102, 32]⟩ : ByteArray) l0_2 (l0_2.length : Int) 0) else (none)) else (none)) else (none))) else (none)) else (none)))) = some r := h
  clear h
  replace H := Option.bind_eq_some_iff.mp H
  obtain ⟨⟨t117, t118⟩, A20, H⟩ := H
  replace H : ((names_Machine.f a0_0).bind fun t119 => (if 3 + t119.size ≤ 9223372036854775807 then (if ((⟨#[111, 110, 32]⟩ : ByteArray) ++ t119).size + 1 ≤ 9223372036854775807 then ((names_Call.f a0_0 a0_1).bind fun t120 => (if (((⟨#[111, 110, 32]⟩ : ByteArray) ++ t119) ++ (⟨#[32]⟩ : ByteArray)).size + t120.size ≤ 9223372036854775807 then (if ((((⟨#[111, 110, 32]⟩ : ByteArray) ++ t119) ++ (⟨#[32]⟩ : ByteArray)) ++ t120).size + 1 ≤ 9223372036854775807 then (if (((((⟨#[111, 110, 32]⟩ : ByteArray) ++ t119) ++ (⟨#[32]⟩ : ByteArray)) ++ t120) ++ (⟨#[32]⟩ : ByteArray)).size + t117.size ≤ 9223372036854775807 then (policy_rule.l0 k ((((((⟨#[111, 110, 32]⟩ : ByteArray) ++ t119) ++ (⟨#[32]⟩ : ByteArray)) ++ t120) ++ (⟨#[32]⟩ : ByteArray)) ++ t117) (⟨#[32, 105, 102, 32]⟩ : ByteArray) l0_2 (l0_2.length : Int) 0) else (none)) else (none)) else (none))) else (none)) else (none))) = some r := H
  have A2 := Aside0.mk A20
  clear A20
  replace H := Option.bind_eq_some_iff.mp H
  obtain ⟨t119, A30, H⟩ := H
  replace H : (if 3 + t119.size ≤ 9223372036854775807 then (if ((⟨#[111, 110, 32]⟩ : ByteArray) ++ t119).size + 1 ≤ 9223372036854775807 then ((names_Call.f a0_0 a0_1).bind fun t120 => (if (((⟨#[111, 110, 32]⟩ : ByteArray) ++ t119) ++ (⟨#[32]⟩ : ByteArray)).size + t120.size ≤ 9223372036854775807 then (if ((((⟨#[111, 110, 32]⟩ : ByteArray) ++ t119) ++ (⟨#[32]⟩ : ByteArray)) ++ t120).size + 1 ≤ 9223372036854775807 then (if (((((⟨#[111, 110, 32]⟩ : ByteArray) ++ t119) ++ (⟨#[32]⟩ : ByteArray)) ++ t120) ++ (⟨#[32]⟩ : ByteArray)).size + t117.size ≤ 9223372036854775807 then (policy_rule.l0 k ((((((⟨#[111, 110, 32]⟩ : ByteArray) ++ t119) ++ (⟨#[32]⟩ : ByteArray)) ++ t120) ++ (⟨#[32]⟩ : ByteArray)) ++ t117) (⟨#[32, 105, 102, 32]⟩ : ByteArray) l0_2 (l0_2.length : Int) 0) else (none)) else (none)) else (none))) else (none)) else (none)) = some r := H
  have A3 := Aside0.mk A30
  clear A30
  by_cases c4 : 3 + t119.size ≤ 9223372036854775807
  · rw [if_pos c4] at H
    have c4b0 := eq_true c4
    have c4b1 : decide (3 + t119.size ≤ 9223372036854775807) = true := decide_eq_true c4
    try have c4b2 : (9223372036854775807 < 3 + t119.size) = False := eq_false (Nat.not_lt.2 c4)
    by_cases c5 : ((⟨#[111, 110, 32]⟩ : ByteArray) ++ t119).size + 1 ≤ 9223372036854775807
    · rw [if_pos c5] at H
      have c5b0 := eq_true c5
      have c5b1 : decide (((⟨#[111, 110, 32]⟩ : ByteArray) ++ t119).size + 1 ≤ 9223372036854775807) = true := decide_eq_true c5
      try have c5b2 : (9223372036854775807 < ((⟨#[111, 110, 32]⟩ : ByteArray) ++ t119).size + 1) = False := eq_false (Nat.not_lt.2 c5)
      try have c5b3 : (9223372036854775807 < 3 + t119.size + 1) = False := by have h := c5b2; simp only [ByteArray.size_append] at h; exact h
      replace H := Option.bind_eq_some_iff.mp H
      obtain ⟨t120, A60, H⟩ := H
      replace H : (if (((⟨#[111, 110, 32]⟩ : ByteArray) ++ t119) ++ (⟨#[32]⟩ : ByteArray)).size + t120.size ≤ 9223372036854775807 then (if ((((⟨#[111, 110, 32]⟩ : ByteArray) ++ t119) ++ (⟨#[32]⟩ : ByteArray)) ++ t120).size + 1 ≤ 9223372036854775807 then (if (((((⟨#[111, 110, 32]⟩ : ByteArray) ++ t119) ++ (⟨#[32]⟩ : ByteArray)) ++ t120) ++ (⟨#[32]⟩ : ByteArray)).size + t117.size ≤ 9223372036854775807 then (policy_rule.l0 k ((((((⟨#[111, 110, 32]⟩ : ByteArray) ++ t119) ++ (⟨#[32]⟩ : ByteArray)) ++ t120) ++ (⟨#[32]⟩ : ByteArray)) ++ t117) (⟨#[32, 105, 102, 32]⟩ : ByteArray) l0_2 (l0_2.length : Int) 0) else (none)) else (none)) else (none)) = some r := H
      have A6 := Aside0.mk A60
      clear A60
      by_cases c7 : (((⟨#[111, 110, 32]⟩ : ByteArray) ++ t119) ++ (⟨#[32]⟩ : ByteArray)).size + t120.size ≤ 9223372036854775807
      · rw [if_pos c7] at H
        have c7b0 := eq_true c7
        have c7b1 : decide ((((⟨#[111, 110, 32]⟩ : ByteArray) ++ t119) ++ (⟨#[32]⟩ : ByteArray)).size + t120.size ≤ 9223372036854775807) = true := decide_eq_true c7
        try have c7b2 : (9223372036854775807 < (((⟨#[111, 110, 32]⟩ : ByteArray) ++ t119) ++ (⟨#[32]⟩ : ByteArray)).size + t120.size) = False := eq_false (Nat.not_lt.2 c7)
        try have c7b3 : (9223372036854775807 < 3 + t119.size + 1 + t120.size) = False := by have h := c7b2; simp only [ByteArray.size_append] at h; exact h
        by_cases c8 : ((((⟨#[111, 110, 32]⟩ : ByteArray) ++ t119) ++ (⟨#[32]⟩ : ByteArray)) ++ t120).size + 1 ≤ 9223372036854775807
        · rw [if_pos c8] at H
          have c8b0 := eq_true c8
          have c8b1 : decide (((((⟨#[111, 110, 32]⟩ : ByteArray) ++ t119) ++ (⟨#[32]⟩ : ByteArray)) ++ t120).size + 1 ≤ 9223372036854775807) = true := decide_eq_true c8
          try have c8b2 : (9223372036854775807 < ((((⟨#[111, 110, 32]⟩ : ByteArray) ++ t119) ++ (⟨#[32]⟩ : ByteArray)) ++ t120).size + 1) = False := eq_false (Nat.not_lt.2 c8)
          try have c8b3 : (9223372036854775807 < 3 + t119.size + 1 + t120.size + 1) = False := by have h := c8b2; simp only [ByteArray.size_append] at h; exact h
          by_cases c9 : (((((⟨#[111, 110, 32]⟩ : ByteArray) ++ t119) ++ (⟨#[32]⟩ : ByteArray)) ++ t120) ++ (⟨#[32]⟩ : ByteArray)).size + t117.size ≤ 9223372036854775807
          · rw [if_pos c9] at H
            have c9b0 := eq_true c9
            have c9b1 : decide ((((((⟨#[111, 110, 32]⟩ : ByteArray) ++ t119) ++ (⟨#[32]⟩ : ByteArray)) ++ t120) ++ (⟨#[32]⟩ : ByteArray)).size + t117.size ≤ 9223372036854775807) = true := decide_eq_true c9
            try have c9b2 : (9223372036854775807 < (((((⟨#[111, 110, 32]⟩ : ByteArray) ++ t119) ++ (⟨#[32]⟩ : ByteArray)) ++ t120) ++ (⟨#[32]⟩ : ByteArray)).size + t117.size) = False := eq_false (Nat.not_lt.2 c9)
            try have c9b3 : (9223372036854775807 < 3 + t119.size + 1 + t120.size + 1 + t117.size) = False := by have h := c9b2; simp only [ByteArray.size_append] at h; exact h
            have H' := Aside0.mk H
            clear H
            go_enter Try.func31, Try.ntmps31
            try go_wp2_with (first | ((with_reducible refine gate_dst (N := 1) rfl ?_); refine box_event ?hg (N := 1) ?hd (cs := #[.int .u32 a0_0, .int .u32 a0_1, .slice A0_2 l0_2.length c0_2, .int .u32 a0_3]) (t := 40) ?hr ?_; (case hd => rfl); (case hg => rfl); (case hr => first | (go_simp; done) | (go_simp; rfl)); intro gb116 hg w10 hbox hb; have n0_ := Aside0.mk (below_step (by repeat (first | (with_reducible first | exact HB.out | apply below_alloc | apply pw_below_drewN | apply below_drew1) | exact HB.out)) hb); have n1_ := Aside0.mk (hbox); have n2_ := Aside0.mk ((by rw [hg]; exact (below_size (by repeat (first | (with_reducible first | exact HB.out | apply below_alloc | apply pw_below_drewN | apply below_drew1) | exact HB.out))) : w.heap.size ≤ gb116)); have n3_ := Aside0.mk ((by rw [hg]; exact (below_size (by repeat (first | (with_reducible first | exact HB.out | apply below_alloc | apply pw_below_drewN | apply below_drew1) | exact HB.out))) : w.heap.size ≤ gb116)); clear HB; have HB := n0_; have BK116 := n1_; have GW116 := n2_; have GE116 := n3_; clear n0_ n1_ n2_ n3_; clear hb hbox hg; have hcz11_0 : w10.cell? ⟨gb116, 0, none⟩ = some (.int .u32 a0_0) := (blk_cell BK116.out 0).trans rfl; have hcz11_1 : w10.cell? ⟨gb116, 1, none⟩ = some (.int .u32 a0_1) := (blk_cell BK116.out 1).trans rfl; have hcz11_2 : w10.cell? ⟨gb116, 2, none⟩ = some (.slice A0_2 l0_2.length c0_2) := (blk_cell BK116.out 2).trans rfl; have hcz11_3 : w10.cell? ⟨gb116, 3, none⟩ = some (.int .u32 a0_3) := (blk_cell BK116.out 3).trans rfl; have hfz11_0 := blk_frozen BK116.out 0; have hfz11_1 := blk_frozen BK116.out 1; have hfz11_2 := blk_frozen BK116.out 2; have hfz11_3 := blk_frozen BK116.out 3) | ((with_reducible refine gate_callee (f := 32) rfl ?_); refine goesL_ (some 14) rfl rfl Try.func32 (by kernel_rfl) rfl #[.int .u32 a0_3] rfl (by (try simp only [List.map_toArray, List.map_cons, List.map_nil]); first | done | rfl | (simp only [List.length_drop, List.length_take]; rfl)) ?_; (with_reducible refine (names_Action.calls a0_3 t117 t118 _ A2.out).mono ?_); rintro e w12 ⟨rfl, hb⟩; refine ⟨_, rfl, ?_⟩; have n0_ := Aside0.mk (blk_below (g := gb116) (o := .cells #[.int .u32 a0_0, .int .u32 a0_1, .slice A0_2 l0_2.length c0_2, .int .u32 a0_3] 40 (0, 0)) (by (with_reducible repeat (first | refine blk_drewN ?_ _ | refine blk_drew ?_ | refine blk_alloc ?_ _)); exact BK116.out) hb); have n1_ := Aside0.mk (below_step (by repeat (first | (with_reducible first | exact HB.out | apply below_alloc | apply pw_below_drewN | apply below_drew1 | refine below_set ?_ GE116.out) | exact HB.out)) hb); clear BK116; clear HB; have BK116 := n0_; have HB := n1_; clear n0_ n1_; (try clear hb); (try clear hb2); (try clear hk); (try clear hi)))
            have n0_ := Aside0.mk (blk_drew BK116.out)
            have n1_ := Aside0.mk (below_drew1 HB.out)
            clear BK116
            clear HB
            have BK116 := n0_
            have HB := n1_
            clear n0_ n1_
            refine start_ (n := 15) (S := fun w' => w'.cell? ⟨gb116, 0, none⟩ = some (.int .u32 a0_0) ∧ w'.cell? ⟨gb116, 1, none⟩ = some (.int .u32 a0_1) ∧ w'.cell? ⟨gb116, 2, none⟩ = some (.slice A0_2 l0_2.length c0_2) ∧ w'.cell? ⟨gb116, 3, none⟩ = some (.int .u32 a0_3)) (ds := []) #[false, false, false, false, false, false, false, false, false, false, false, false, false, false, false] (by kernel_rfl) rfl rfl ⟨(blk_cell BK116.out 0).trans rfl, (blk_cell BK116.out 1).trans rfl, (blk_cell BK116.out 2).trans rfl, (blk_cell BK116.out 3).trans rfl⟩ (fun hHeld => ?_); refine with_tabW policy_rule.tab2 policy_rule.bits2 (fun HT_ HW_ => ?_)
            generalize w12.drew = w13 at BK116 HB hHeld ⊢
            refine pure_ (i := 0) (N := some 17) (v := ?_) (a' := ?_) #[true, false, false, false, false, false, false, false, false, false, false, false, false, false, false] rfl rfl (any_of HT_.out (by kernel_rfl)) (fun _ _ _ h => h) (Or.inl ⟨by rfl, ?_⟩) ?_ ?_
            rotate_left
            · intro w'
              go_simp
              with_reducible rfl
            rotate_left
            · simp only [Act.put, List.setIfInBounds_toArray, List.set_cons_zero, List.set_cons_succ, i64_w, i32_w]
              rfl
            refine pure_ (i := 5) (N := some 22) (v := ?_) (a' := ?_) #[true, false, false, false, false, true, false, false, false, false, false, false, false, false, false] rfl rfl (any_of HT_.out (by kernel_rfl)) (fun _ _ _ h => h) (Or.inl ⟨by rfl, ?_⟩) ?_ ?_
            rotate_left
            · intro w'
              go_simp
              with_reducible rfl
            rotate_left
            · simp only [Act.put, List.setIfInBounds_toArray, List.set_cons_zero, List.set_cons_succ, i64_w, i32_w]
              rfl
            refine pure_ (i := 7) (N := some 24) (v := ?_) (a' := ?_) #[true, false, false, false, false, true, false, true, false, false, false, false, false, false, false] rfl rfl (any_of HT_.out (by kernel_rfl)) (fun _ _ _ h => h) (Or.inl ⟨by rfl, ?_⟩) ?_ ?_
            rotate_left
            · intro w'
              go_simp
              with_reducible rfl
            rotate_left
            · simp only [Act.put, List.setIfInBounds_toArray, List.set_cons_zero, List.set_cons_succ, i64_w, i32_w]
              rfl
            refine pure_ (i := 12) (N := some 29) (v := ?_) (a' := ?_) #[true, false, false, false, false, true, false, true, false, false, false, false, true, false, false] rfl rfl (any_of HT_.out (by kernel_rfl)) (fun _ _ _ h => h) (Or.inl ⟨by rfl, ?_⟩) ?_ ?_
            rotate_left
            · intro w'
              go_simp
              with_reducible rfl
            rotate_left
            · simp only [Act.put, List.setIfInBounds_toArray, List.set_cons_zero, List.set_cons_succ, i64_w, i32_w]
              rfl
            refine take_ (i := 1) (N := some 18) (v := ?_) (a' := ?_) #[true, true, false, false, false, true, false, true, false, false, false, false, true, false, false] rfl rfl (take_ofW HT_.out HW_.out (by kernel_rfl)) (fun _ _ _ h => h) (Or.inl ⟨by rfl, ?_⟩) hHeld ?_ ?_
            rotate_left
            · rintro w' ⟨s0, s1, s2, s3⟩
              go_simp
              with_reducible rfl
            rotate_left
            · simp only [Act.put, List.setIfInBounds_toArray, List.set_cons_zero, List.set_cons_succ, i64_w, i32_w]
              rfl
            refine take_ (i := 6) (N := some 23) (v := ?_) (a' := ?_) #[true, true, false, false, false, true, true, true, false, false, false, false, true, false, false] rfl rfl (take_ofW HT_.out HW_.out (by kernel_rfl)) (fun _ _ _ h => h) (Or.inl ⟨by rfl, ?_⟩) hHeld ?_ ?_
            rotate_left
            · rintro w' ⟨s0, s1, s2, s3⟩
              go_simp
              with_reducible rfl
            rotate_left
            · simp only [Act.put, List.setIfInBounds_toArray, List.set_cons_zero, List.set_cons_succ, i64_w, i32_w]
              rfl
            refine take_ (i := 8) (N := some 25) (v := ?_) (a' := ?_) #[true, true, false, false, false, true, true, true, true, false, false, false, true, false, false] rfl rfl (take_ofW HT_.out HW_.out (by kernel_rfl)) (fun _ _ _ h => h) (Or.inl ⟨by rfl, ?_⟩) hHeld ?_ ?_
            rotate_left
            · rintro w' ⟨s0, s1, s2, s3⟩
              go_simp
              with_reducible rfl
            rotate_left
            · simp only [Act.put, List.setIfInBounds_toArray, List.set_cons_zero, List.set_cons_succ, i64_w, i32_w]
              rfl
            refine one_ (i := 2) (N := some 19) #[true, true, true, false, false, true, true, true, true, false, false, false, true, false, false] rfl rfl (one_of HT_.out (by kernel_rfl)) (by decide) (fun K hK => ?_)
            refine goes_ Try.func48 (by kernel_rfl) rfl #[.int .u32 a0_0] (by rfl) rfl rfl (by (try simp only [List.map_toArray, List.map_cons, List.map_nil]); first | done | rfl | (simp only [List.length_drop, List.length_take]; rfl)) ?_
            with_reducible refine (names_Machine.calls a0_0 t119 _ A3.out).mono ?_
            rintro e w14 ⟨rfl, hb⟩
            refine ⟨_, rfl, ?_⟩
            have n0_ := Aside0.mk (blk_below (g := gb116) (o := .cells #[.int .u32 a0_0, .int .u32 a0_1, .slice A0_2 l0_2.length c0_2, .int .u32 a0_3] 40 (0, 0)) (by (with_reducible repeat (first | refine blk_drewN ?_ _ | refine blk_drew ?_ | refine blk_alloc ?_ _)); exact BK116.out) hb)
            have n1_ := Aside0.mk (below_step (by repeat (first | (with_reducible first | exact HB.out | apply below_alloc | apply pw_below_drewN | apply below_drew1 | refine below_set ?_ GE116.out) | exact HB.out)) hb)
            clear BK116
            clear HB
            have BK116 := n0_
            have HB := n1_
            clear n0_ n1_
            (try clear hb)
            (try clear hb2)
            (try clear hk)
            (try clear hi)
            refine hK.out _ _ ⟨(blk_cell BK116.out 0).trans rfl, (blk_cell BK116.out 1).trans rfl, (blk_cell BK116.out 2).trans rfl, (blk_cell BK116.out 3).trans rfl⟩ (fun hHeld => ?_)
            clear hK K
            refine norm_ (a' := ?_) ?_ ?_
            rotate_left
            · show Act.put _ (some 19) _ = _
              simp only [Act.put, List.setIfInBounds_toArray, List.set_cons_zero, List.set_cons_succ, i64_w, i32_w]
              rfl
            refine pure_ (i := 3) (N := some 20) (v := ?_) (a' := ?_) #[true, true, true, true, false, true, true, true, true, false, false, false, true, false, false] rfl rfl (any_of HT_.out (by kernel_rfl)) (fun _ _ _ h => h) (Or.inl ⟨by rfl, ?_⟩) ?_ ?_
            rotate_left
            · intro w'
              go_simp
              with_reducible rfl
            rotate_left
            · simp only [Act.put, List.setIfInBounds_toArray, List.set_cons_zero, List.set_cons_succ, i64_w, i32_w]
              rfl
            refine pure_ (i := 4) (N := some 21) (v := ?_) (a' := ?_) #[true, true, true, true, true, true, true, true, true, false, false, false, true, false, false] rfl rfl (any_of HT_.out (by kernel_rfl)) (fun _ _ _ h => h) (Or.inl ⟨by rfl, ?_⟩) ?_ ?_
            rotate_left
            · intro w'
              go_simp
              with_reducible rfl
            rotate_left
            · simp only [Act.put, List.setIfInBounds_toArray, List.set_cons_zero, List.set_cons_succ, i64_w, i32_w]
              rfl
            refine one_ (i := 9) (N := some 26) #[true, true, true, true, true, true, true, true, true, true, false, false, true, false, false] rfl rfl (one_of HT_.out (by kernel_rfl)) (by decide) (fun K hK => ?_)
            refine goes_ Try.func49 (by kernel_rfl) rfl #[.int .u32 a0_0, .int .u32 a0_1] (by rfl) rfl rfl (by (try simp only [List.map_toArray, List.map_cons, List.map_nil]); first | done | rfl | (simp only [List.length_drop, List.length_take]; rfl)) ?_
            with_reducible refine (names_Call.calls a0_0 a0_1 t120 _ A6.out).mono ?_
            rintro e w15 ⟨rfl, hb⟩
            refine ⟨_, rfl, ?_⟩
            have n0_ := Aside0.mk (blk_below (g := gb116) (o := .cells #[.int .u32 a0_0, .int .u32 a0_1, .slice A0_2 l0_2.length c0_2, .int .u32 a0_3] 40 (0, 0)) (by (with_reducible repeat (first | refine blk_drewN ?_ _ | refine blk_drew ?_ | refine blk_alloc ?_ _)); exact BK116.out) hb)
            have n1_ := Aside0.mk (below_step (by repeat (first | (with_reducible first | exact HB.out | apply below_alloc | apply pw_below_drewN | apply below_drew1 | refine below_set ?_ GE116.out) | exact HB.out)) hb)
            clear BK116
            clear HB
            have BK116 := n0_
            have HB := n1_
            clear n0_ n1_
            (try clear hb)
            (try clear hb2)
            (try clear hk)
            (try clear hi)
            refine hK.out _ _ ⟨(blk_cell BK116.out 0).trans rfl, (blk_cell BK116.out 1).trans rfl, (blk_cell BK116.out 2).trans rfl, (blk_cell BK116.out 3).trans rfl⟩ (fun hHeld => ?_)
            clear hK K
            refine norm_ (a' := ?_) ?_ ?_
            rotate_left
            · show Act.put _ (some 26) _ = _
              simp only [Act.put, List.setIfInBounds_toArray, List.set_cons_zero, List.set_cons_succ, i64_w, i32_w]
              rfl
            refine pure_ (i := 10) (N := some 27) (v := ?_) (a' := ?_) #[true, true, true, true, true, true, true, true, true, true, true, false, true, false, false] rfl rfl (any_of HT_.out (by kernel_rfl)) (fun _ _ _ h => h) (Or.inl ⟨by rfl, ?_⟩) ?_ ?_
            rotate_left
            · intro w'
              go_simp
              with_reducible rfl
            rotate_left
            · simp only [Act.put, List.setIfInBounds_toArray, List.set_cons_zero, List.set_cons_succ, i64_w, i32_w]
              rfl
            refine pure_ (i := 11) (N := some 28) (v := ?_) (a' := ?_) #[true, true, true, true, true, true, true, true, true, true, true, true, true, false, false] rfl rfl (any_of HT_.out (by kernel_rfl)) (fun _ _ _ h => h) (Or.inl ⟨by rfl, ?_⟩) ?_ ?_
            rotate_left
            · intro w'
              go_simp
              with_reducible rfl
            rotate_left
            · simp only [Act.put, List.setIfInBounds_toArray, List.set_cons_zero, List.set_cons_succ, i64_w, i32_w]
              rfl
            refine pure_ (i := 13) (N := some 30) (v := ?_) (a' := ?_) #[true, true, true, true, true, true, true, true, true, true, true, true, true, true, false] rfl rfl (any_of HT_.out (by kernel_rfl)) (fun _ _ _ h => h) (Or.inl ⟨by rfl, ?_⟩) ?_ ?_
            rotate_left
            · intro w'
              go_simp
              with_reducible rfl
            rotate_left
            · simp only [Act.put, List.setIfInBounds_toArray, List.set_cons_zero, List.set_cons_succ, i64_w, i32_w]
              rfl
            refine pure_ (i := 14) (N := some 5) (v := ?_) (a' := ?_) #[true, true, true, true, true, true, true, true, true, true, true, true, true, true, true] rfl rfl (any_of HT_.out (by kernel_rfl)) (fun _ _ _ h => h) (Or.inl ⟨by rfl, ?_⟩) ?_ ?_
            rotate_left
            · intro w'
              go_simp
              with_reducible rfl
            rotate_left
            · simp only [Act.put, List.setIfInBounds_toArray, List.set_cons_zero, List.set_cons_succ, i64_w, i32_w]
              rfl
            refine done_ (done_of HT_.out (by kernel_rfl)) ?_
            have hcz16_0 : w15.cell? ⟨gb116, 0, none⟩ = some (.int .u32 a0_0) := (blk_cell BK116.out 0).trans rfl
            have hcz16_1 : w15.cell? ⟨gb116, 1, none⟩ = some (.int .u32 a0_1) := (blk_cell BK116.out 1).trans rfl
            have hcz16_2 : w15.cell? ⟨gb116, 2, none⟩ = some (.slice A0_2 l0_2.length c0_2) := (blk_cell BK116.out 2).trans rfl
            have hcz16_3 : w15.cell? ⟨gb116, 3, none⟩ = some (.int .u32 a0_3) := (blk_cell BK116.out 3).trans rfl
            have hfz16_0 := blk_frozen BK116.out 0
            have hfz16_1 := blk_frozen BK116.out 1
            have hfz16_2 := blk_frozen BK116.out 2
            have hfz16_3 := blk_frozen BK116.out 3
            try go_wp2
            go_loopg [5, 6, 34] k (fun kq v5 v6 v34 w' => ∃ (x5_1 : ByteArray) (x6_1 : ByteArray) (x34_1 : Int), v5 = .string x5_1 ∧ v6 = .string x6_1 ∧ v34 = .int .i64 x34_1 ∧ Aside0 (policy_rule.l0 kq x5_1 x6_1 l0_2 (l0_2.length : Int) x34_1 = some r) ∧ Aside0 (kq ≤ k) ∧ Aside0 (w'.heap[gb116]? = some (.cells #[.int .u32 a0_0, .int .u32 a0_1, (.slice A0_2 l0_2.length c0_2), .int .u32 a0_3] 40 (0, 0))) ∧ Aside0 (Below w.heap.size w w'))
            case atStart => exact ⟨((((((⟨#[111, 110, 32]⟩ : ByteArray) ++ t119) ++ (⟨#[32]⟩ : ByteArray)) ++ t120) ++ (⟨#[32]⟩ : ByteArray)) ++ t117), ((⟨#[32, 105, 102, 32]⟩ : ByteArray)), (0), (by first | rfl | (simp; done) | (simp [*]; done)), (by first | rfl | (simp; done) | (simp [*]; done)), (by first | rfl | (simp; done) | (simp [*]; done)), H', ⟨Nat.le_refl _⟩, ⟨by (with_reducible repeat (first | refine blk_drewN ?_ _ | refine blk_drew ?_ | refine blk_alloc ?_ _)); exact BK116.out⟩, ⟨by repeat (first | (with_reducible first | exact HB.out | apply below_alloc | apply pw_below_drewN | apply below_drew1 | refine below_set ?_ GE116.out) | exact HB.out)⟩⟩
            case round =>
              clear H'
              try clear p2
              try clear c3
              try clear c4
              try clear c4b0
              try clear c4b1
              try clear c4b2
              try clear c5
              try clear c5b0
              try clear c5b1
              try clear c5b2
              try clear c7
              try clear c7b0
              try clear c7b1
              try clear c7b2
              try clear c8
              try clear c8b0
              try clear c8b1
              try clear c8b2
              try clear c9
              try clear c9b0
              try clear c9b1
              try clear c9b2
              try clear hcz11_0
              try clear hcz11_1
              try clear hcz11_2
              try clear hcz11_3
              try clear hcz16_0
              try clear hcz16_1
              try clear hcz16_2
              try clear hcz16_3
              try clear hfz11_0
              try clear hfz11_1
              try clear hfz11_2
              try clear hfz11_3
              try clear hfz16_0
              try clear hfz16_1
              try clear hfz16_2
              try clear hfz16_3
              obtain ⟨x5_1, x6_1, x34_1, rfl, rfl, rfl, HA, HK1, BK116, HB⟩ := hrel
              cases gk with
              | zero => exact absurd HA.out (by simp [policy_rule.l0])
              | succ k1 =>
                have H := HA.out
                clear HA
                simp only [policy_rule.l0] at H
                by_cases c17 : x34_1 < (l0_2.length : Int)
                · rw [if_pos c17] at H
                  have c17b0 : decide (x34_1 < (l0_2.length : Int)) = true := decide_eq_true c17
                  clear c17
                  by_cases c18 : 0 ≤ x34_1
                  · rw [if_pos c18] at H
                    have c18b0 : decide (0 ≤ x34_1) = true := decide_eq_true c18
                    clear c18
                    by_cases c19 : x34_1 < (l0_2.length : Int)
                    · rw [if_pos c19] at H
                      have c19b0 : decide (x34_1 < (l0_2.length : Int)) = true := decide_eq_true c19
                      clear c19
                      replace H := Option.bind_eq_some_iff.mp H
                      obtain ⟨⟨t123, t124⟩, A200, H⟩ := H
                      replace H : (if x6_1.size + t123.size ≤ 9223372036854775807 then (if x5_1.size + (x6_1 ++ t123).size ≤ 9223372036854775807 then (policy_rule.l0 k1 (x5_1 ++ (x6_1 ++ t123)) (⟨#[32, 97, 110, 100, 32]⟩ : ByteArray) l0_2 (l0_2.length : Int) (wrap64 (x34_1 + 1))) else (none)) else (none)) = some r := H
                      have A20 := Aside0.mk A200
                      clear A200
                      by_cases c21 : x6_1.size + t123.size ≤ 9223372036854775807
                      · rw [if_pos c21] at H
                        have c21b0 := eq_true c21
                        have c21b1 : decide (x6_1.size + t123.size ≤ 9223372036854775807) = true := decide_eq_true c21
                        try have c21b2 : (9223372036854775807 < x6_1.size + t123.size) = False := eq_false (Nat.not_lt.2 c21)
                        by_cases c22 : x5_1.size + (x6_1 ++ t123).size ≤ 9223372036854775807
                        · rw [if_pos c22] at H
                          have c22b0 := eq_true c22
                          have c22b1 : decide (x5_1.size + (x6_1 ++ t123).size ≤ 9223372036854775807) = true := decide_eq_true c22
                          try have c22b2 : (9223372036854775807 < x5_1.size + (x6_1 ++ t123).size) = False := eq_false (Nat.not_lt.2 c22)
                          try have c22b3 : (9223372036854775807 < x5_1.size + x6_1.size + t123.size) = False := by have h := c22b2; simp only [ByteArray.size_append] at h; exact h
                          have H' := Aside0.mk H
                          clear H
                          have p121 : 0 ≤ (x34_1 : Int) := of_decide_eq_true (by first | (with_reducible assumption) | assumption)
                          have q121 : x34_1 < (l0_2.length : Int) := of_decide_eq_true (by first | (with_reducible assumption) | assumption)
                          obtain ⟨ad121, e121, hx121_0, hx121_1, hx121_2, hx121_3⟩ := at_T61 HR0_2.out x34_1 p121 q121
                          cases e121
                          replace hx121_0 := (HB.out.cell (World.block_lt_of_cell? w _ hx121_0)).trans hx121_0
                          replace hx121_1 := (HB.out.cell (World.block_lt_of_cell? w _ hx121_1)).trans hx121_1
                          replace hx121_2 := (HB.out.cell (World.block_lt_of_cell? w _ hx121_2)).trans hx121_2
                          replace hx121_3 := (HB.out.cell (World.block_lt_of_cell? w _ hx121_3)).trans hx121_3
                          replace p121 := eq_true p121
                          replace q121 := eq_true q121
                          go_wp2_with (first | ((with_reducible refine gate_dst (N := 8) rfl ?_); refine box_event ?hg (N := 8) ?hd (cs := #[.int .i64 0, .int .i64 0, .int .u64 0, .int .u64 0]) (t := 61) ?hr ?_; (case hd => rfl); (case hg => rfl); (case hr => first | (go_simp; done) | (go_simp; rfl)); intro gb122 hg w23 hbox hb; have n0_ := Aside0.mk (blk_below (g := gb116) (o := .cells #[.int .u32 a0_0, .int .u32 a0_1, .slice (some ad121) l0_2.length c0_2, .int .u32 a0_3] 40 (0, 0)) (by (with_reducible repeat (first | refine blk_drewN ?_ _ | refine blk_drew ?_ | refine blk_alloc ?_ _)); exact BK116.out) hb); have n1_ := Aside0.mk (below_step (by repeat (first | (with_reducible first | exact HB.out | apply below_alloc | apply pw_below_drewN | apply below_drew1 | refine below_set ?_ GE116.out) | exact HB.out)) hb); have n2_ := Aside0.mk (hbox); have n3_ := Aside0.mk ((by rw [hg]; exact (below_size (by repeat (first | (with_reducible first | exact HB.out | apply below_alloc | apply pw_below_drewN | apply below_drew1 | refine below_set ?_ GE116.out) | exact HB.out))) : w.heap.size ≤ gb122)); have n4_ := Aside0.mk ((by rw [hg]; exact (below_size (by repeat (first | (with_reducible first | exact HB.out | apply below_alloc | apply pw_below_drewN | apply below_drew1 | refine below_set ?_ GE116.out) | exact HB.out))) : w.heap.size ≤ gb122)); have n5_ := Aside0.mk ((by rw [hg]; exact Nat.ne_of_lt (blk_lt (g := gb116) (o := .cells #[.int .u32 a0_0, .int .u32 a0_1, .slice (some ad121) l0_2.length c0_2, .int .u32 a0_3] 40 (0, 0)) (by (with_reducible repeat (first | refine blk_drewN ?_ _ | refine blk_drew ?_ | refine blk_alloc ?_ _)); exact BK116.out)) : gb116 ≠ gb122)); have n6_ := Aside0.mk ((by rw [hg]; exact Nat.ne_of_gt (blk_lt (g := gb116) (o := .cells #[.int .u32 a0_0, .int .u32 a0_1, .slice (some ad121) l0_2.length c0_2, .int .u32 a0_3] 40 (0, 0)) (by (with_reducible repeat (first | refine blk_drewN ?_ _ | refine blk_drew ?_ | refine blk_alloc ?_ _)); exact BK116.out)) : gb122 ≠ gb116)); clear BK116; clear HB; have BK116 := n0_; have HB := n1_; have BK122 := n2_; have GW122 := n3_; have GE122 := n4_; have NB116_122 := n5_; have NB122_116 := n6_; clear n0_ n1_ n2_ n3_ n4_ n5_ n6_; clear hb hbox hg; have hnb24 := NB122_116.out; have hnc24 := NB116_122.out; have hcz25_0 : w23.cell? ⟨gb122, 0, none⟩ = some (.int .i64 0) := (blk_cell BK122.out 0).trans rfl; have hcz25_1 : w23.cell? ⟨gb122, 1, none⟩ = some (.int .i64 0) := (blk_cell BK122.out 1).trans rfl; have hcz25_2 : w23.cell? ⟨gb122, 2, none⟩ = some (.int .u64 0) := (blk_cell BK122.out 2).trans rfl; have hcz25_3 : w23.cell? ⟨gb122, 3, none⟩ = some (.int .u64 0) := (blk_cell BK122.out 3).trans rfl; have hfz25_0 := blk_frozen BK122.out 0; have hfz25_1 := blk_frozen BK122.out 1; have hfz25_2 := blk_frozen BK122.out 2; have hfz25_3 := blk_frozen BK122.out 3) | ((with_reducible refine gate_callee (f := 50) rfl ?_); refine goesL_ (some 40) rfl rfl Try.func50 (by kernel_rfl) rfl #[.agg #[.int .i64 ((rd_T61 l0_2 x34_1).f0), .int .i64 ((rd_T61 l0_2 x34_1).f1), .int .u64 ((rd_T61 l0_2 x34_1).f2), .int .u64 ((rd_T61 l0_2 x34_1).f3)]] rfl (by (try simp only [List.map_toArray, List.map_cons, List.map_nil]); first | done | rfl | (simp only [List.length_drop, List.length_take]; rfl)) ?_; (with_reducible refine (cond_Print.calls ((rd_T61 l0_2 x34_1).f0) ((rd_T61 l0_2 x34_1).f1) ((rd_T61 l0_2 x34_1).f2) ((rd_T61 l0_2 x34_1).f3) t123 t124 _ A20.out).mono ?_); rintro e w26 ⟨rfl, hb⟩; refine ⟨_, rfl, ?_⟩; have n0_ := Aside0.mk (blk_below (g := gb116) (o := .cells #[.int .u32 a0_0, .int .u32 a0_1, .slice (some ad121) l0_2.length c0_2, .int .u32 a0_3] 40 (0, 0)) (by (with_reducible repeat (first | refine blk_drewN ?_ _ | refine blk_drew ?_ | refine blk_alloc ?_ _)); refine blk_far ?_ NB116_122.out _; (with_reducible repeat (first | refine blk_drewN ?_ _ | refine blk_drew ?_ | refine blk_alloc ?_ _)); refine blk_far ?_ NB116_122.out _; (with_reducible repeat (first | refine blk_drewN ?_ _ | refine blk_drew ?_ | refine blk_alloc ?_ _)); refine blk_far ?_ NB116_122.out _; (with_reducible repeat (first | refine blk_drewN ?_ _ | refine blk_drew ?_ | refine blk_alloc ?_ _)); refine blk_far ?_ NB116_122.out _; (with_reducible repeat (first | refine blk_drewN ?_ _ | refine blk_drew ?_ | refine blk_alloc ?_ _)); exact BK116.out) hb); have n1_ := Aside0.mk (blk_below (g := gb122) (o := .cells #[.int .i64 ((rd_T61 l0_2 x34_1).f0), .int .i64 ((rd_T61 l0_2 x34_1).f1), .int .u64 ((rd_T61 l0_2 x34_1).f2), .int .u64 ((rd_T61 l0_2 x34_1).f3)] 61 (0, 0)) (by (with_reducible repeat (first | refine blk_drewN ?_ _ | refine blk_drew ?_ | refine blk_alloc ?_ _)); refine blk_put (cs := #[.int .i64 ((rd_T61 l0_2 x34_1).f0), .int .i64 ((rd_T61 l0_2 x34_1).f1), .int .u64 ((rd_T61 l0_2 x34_1).f2), .int .u64 0]) ?_ 3 _ rfl; (with_reducible repeat (first | refine blk_drewN ?_ _ | refine blk_drew ?_ | refine blk_alloc ?_ _)); refine blk_put (cs := #[.int .i64 ((rd_T61 l0_2 x34_1).f0), .int .i64 ((rd_T61 l0_2 x34_1).f1), .int .u64 0, .int .u64 0]) ?_ 2 _ rfl; (with_reducible repeat (first | refine blk_drewN ?_ _ | refine blk_drew ?_ | refine blk_alloc ?_ _)); refine blk_put (cs := #[.int .i64 ((rd_T61 l0_2 x34_1).f0), .int .i64 0, .int .u64 0, .int .u64 0]) ?_ 1 _ rfl; (with_reducible repeat (first | refine blk_drewN ?_ _ | refine blk_drew ?_ | refine blk_alloc ?_ _)); refine blk_put (cs := #[.int .i64 0, .int .i64 0, .int .u64 0, .int .u64 0]) ?_ 0 _ rfl; (with_reducible repeat (first | refine blk_drewN ?_ _ | refine blk_drew ?_ | refine blk_alloc ?_ _)); exact BK122.out) hb); have n2_ := Aside0.mk (below_step (by repeat (first | (with_reducible first | exact HB.out | apply below_alloc | apply pw_below_drewN | apply below_drew1 | refine below_set ?_ GE116.out | refine below_set ?_ GE122.out) | exact HB.out)) hb); clear BK116; clear BK122; clear HB; have BK116 := n0_; have BK122 := n1_; have HB := n2_; clear n0_ n1_ n2_; (try clear hb); (try clear hb2); (try clear hk); (try clear hi)))
                          go_roundg k1
                          case measure => have := HK1.out; omega
                          case rel => exact ⟨(x5_1 ++ (x6_1 ++ t123)), ((⟨#[32, 97, 110, 100, 32]⟩ : ByteArray)), (wrap64 (x34_1 + 1)), (by first | rfl | (simp; done) | (simp [*]; done)), (by first | rfl | (simp; done) | (simp [*]; done)), (by first | rfl | (simp; done) | (simp [*]; done)), H', ⟨by have := HK1.out; omega⟩, ⟨by (with_reducible repeat (first | refine blk_drewN ?_ _ | refine blk_drew ?_ | refine blk_alloc ?_ _)); exact BK116.out⟩, ⟨by repeat (first | (with_reducible first | exact HB.out | apply below_alloc | apply pw_below_drewN | apply below_drew1 | refine below_set ?_ GE116.out | refine below_set ?_ GE122.out) | exact HB.out)⟩⟩
                        · rw [if_neg c22] at H
                          exact absurd H (by simp)
                      · rw [if_neg c21] at H
                        exact absurd H (by simp)
                    · rw [if_neg c19] at H
                      exact absurd H (by simp)
                  · rw [if_neg c18] at H
                    exact absurd H (by simp)
                · rw [if_neg c17] at H
                  have c17b0 : decide (x34_1 < (l0_2.length : Int)) = false := decide_eq_false c17
                  clear c17
                  obtain rfl := Option.some.inj H
                  go_wp2
                  go_ret
                  exact ⟨by first | rfl | (simp [errW_none, errW_some] <;> rfl) | (simp [*, errW_none, errW_some] <;> rfl), by repeat (first | (with_reducible first | exact HB.out | apply below_alloc | apply pw_below_drewN | apply below_drew1 | refine below_set ?_ GE116.out) | exact HB.out)⟩
          · rw [if_neg c9] at H
            exact absurd H (by simp)
        · rw [if_neg c8] at H
          exact absurd H (by simp)
      · rw [if_neg c7] at H
        exact absurd H (by simp)
    · rw [if_neg c5] at H
      exact absurd H (by simp)
  · rw [if_neg c4] at H
    exact absurd H (by simp)
def policy_Print.l0 : Nat → ByteArray → List (S40) → Int → Int → List (S40) → Int → Option (ByteArray × Int)
  | 0, _, _, _, _, _, _ => none
  | k + 1, x4, x13, x14, x15, x126000, x126001 => if x15 < x14 then (if 0 ≤ x15 then (if x15 < (x13.length : Int) then ((policy_rule.f k ((rd_T40 x13 x15).f0) ((rd_T40 x13 x15).f1) ((rd_T40 x13 x15).f2) ((rd_T40 x13 x15).f3)).bind fun t129 => (if t129.size + 1 ≤ 9223372036854775807 then (if x4.size + (t129 ++ (⟨#[10]⟩ : ByteArray)).size ≤ 9223372036854775807 then (policy_Print.l0 k (x4 ++ (t129 ++ (⟨#[10]⟩ : ByteArray))) x13 x14 (wrap64 (x15 + 1)) x126000 x126001) else (none)) else (none))) else (none)) else (none)) else ((names_Action.f x126001).bind fun bt130 => (if x4.size + 8 ≤ 9223372036854775807 then (if (x4 ++ (⟨#[100, 101, 102, 97, 117, 108, 116, 32]⟩ : ByteArray)).size + bt130.1.size ≤ 9223372036854775807 then (if ((x4 ++ (⟨#[100, 101, 102, 97, 117, 108, 116, 32]⟩ : ByteArray)) ++ bt130.1).size + 1 ≤ 9223372036854775807 then (some (((x4 ++ (⟨#[100, 101, 102, 97, 117, 108, 116, 32]⟩ : ByteArray)) ++ bt130.1) ++ (⟨#[10]⟩ : ByteArray), 0)) else (none)) else (none)) else (none)))
def policy_Print.f (k : Nat) (l0_0 : List (S40)) (a0_1 : Int) : Option (ByteArray × Int) := (policy_Right.f k l0_0 a0_1).bind fun t126 => (if t126 = true then (policy_Print.l0 k (⟨#[]⟩ : ByteArray) l0_0 (l0_0.length : Int) 0 l0_0 a0_1) else (some ((⟨#[]⟩ : ByteArray), 1)))
set_option maxHeartbeats 8000000 in
set_option maxRecDepth 100000 in
theorem policy_Print.calls (k : Nat) (A0_0 : Option Addr) (c0_0 : Nat) (l0_0 : List (S40)) (a0_1 : Int) (r1 : ByteArray) (r2 : Int) (w : World) (hr0_0 : Kd.C k40 w A0_0 l0_0.length l0_0) (hc0_0 : l0_0.length ≤ c0_0) (h : policy_Print.f k l0_0 a0_1 = some (r1, r2)) :
    Calls Try.prog 16 #[.agg #[.slice A0_0 l0_0.length c0_0, .int .u32 a0_1]] w fun e w' => e = .returned (.tuple #[.string r1, .int .i64 r2]) ∧ Below w.heap.size w w' := by
  have hu25 := Try.underlying25
  have hu40 := Try.underlying40
  have HR0_0 := Aside0.mk hr0_0
  have HC0_0 := Aside0.mk hc0_0
  clear hr0_0 hc0_0
  have HB := Aside0.mk (Below.refl w.heap.size w)
  have H : ((policy_Right.f k l0_0 a0_1).bind fun t126 => (if t126 = true then (policy_Print.l0 k (⟨#[]⟩ : ByteArray) l0_0 (l0_0.length : Int) 0 l0_0 a0_1) else (some ((⟨#[]⟩ : ByteArray), 1)))) = some (r1, r2) := h
  clear h
  replace H := Option.bind_eq_some_iff.mp H
  obtain ⟨t126, A20, H⟩ := H
  replace H : (if t126 = true then (policy_Print.l0 k (⟨#[]⟩ : ByteArray) l0_0 (l0_0.length : Int) 0 l0_0 a0_1) else (some ((⟨#[]⟩ : ByteArray), 1))) = some (r1, r2) := H
  have A2 := Aside0.mk A20
  clear A20
  by_cases c3 : t126 = true
  · subst c3
    have H1 : (policy_Print.l0 k (⟨#[]⟩ : ByteArray) l0_0 (l0_0.length : Int) 0 l0_0 a0_1) = some (r1, r2) := by rw [if_pos rfl] at H; exact H
    clear H
    have H := H1
    clear H1
    have H' := Aside0.mk H
    clear H
    go_enter Try.func16, Try.ntmps16
    go_wp2_with (first | ((with_reducible refine gate_dst (N := 1) rfl ?_); refine box_event ?hg (N := 1) ?hd (cs := #[.slice A0_0 l0_0.length c0_0, .int .u32 a0_1]) (t := 25) ?hr ?_; (case hd => rfl); (case hg => rfl); (case hr => first | (go_simp; done) | (go_simp; rfl)); intro gb125 hg w4 hbox hb; have n0_ := Aside0.mk (below_step (by repeat (first | (with_reducible first | exact HB.out | apply below_alloc | apply pw_below_drewN | apply below_drew1) | exact HB.out)) hb); have n1_ := Aside0.mk (hbox); have n2_ := Aside0.mk ((by rw [hg]; exact (below_size (by repeat (first | (with_reducible first | exact HB.out | apply below_alloc | apply pw_below_drewN | apply below_drew1) | exact HB.out))) : w.heap.size ≤ gb125)); have n3_ := Aside0.mk ((by rw [hg]; exact (below_size (by repeat (first | (with_reducible first | exact HB.out | apply below_alloc | apply pw_below_drewN | apply below_drew1) | exact HB.out))) : w.heap.size ≤ gb125)); clear HB; have HB := n0_; have BK125 := n1_; have GW125 := n2_; have GE125 := n3_; clear n0_ n1_ n2_ n3_; clear hb hbox hg; have hcz5_0 : w4.cell? ⟨gb125, 0, none⟩ = some (.slice A0_0 l0_0.length c0_0) := (blk_cell BK125.out 0).trans rfl; have hcz5_1 : w4.cell? ⟨gb125, 1, none⟩ = some (.int .u32 a0_1) := (blk_cell BK125.out 1).trans rfl; have hfz5_0 := blk_frozen BK125.out 0; have hfz5_1 := blk_frozen BK125.out 1) | ((with_reducible refine gate_callee (f := 18) rfl ?_); refine goesL_ (some 10) rfl rfl Try.func18 (by kernel_rfl) rfl #[.agg #[.slice A0_0 l0_0.length c0_0, .int .u32 a0_1]] rfl (by (try simp only [List.map_toArray, List.map_cons, List.map_nil]); first | done | rfl | (simp only [List.length_drop, List.length_take]; rfl)) ?_; (with_reducible refine (policy_Right.calls k _ _ l0_0 a0_1 true _ ?side1 ?side2 A2.out).mono ?_); (case side1 => repeat (first | exact (Kd.C_below HR0_0.out HB.out) | (with_reducible refine Kd.C_alloc ?_ _) | (with_reducible refine Kd.C_drewN ?_ _) | (with_reducible refine Kd.C_drew ?_))); (case side2 => exact HC0_0.out); rintro e w6 ⟨rfl, hb⟩; refine ⟨_, rfl, ?_⟩; have n0_ := Aside0.mk (blk_below (g := gb125) (o := .cells #[.slice A0_0 l0_0.length c0_0, .int .u32 a0_1] 25 (0, 0)) (by (with_reducible repeat (first | refine blk_drewN ?_ _ | refine blk_drew ?_ | refine blk_alloc ?_ _)); exact BK125.out) hb); have n1_ := Aside0.mk (below_step (by repeat (first | (with_reducible first | exact HB.out | apply below_alloc | apply pw_below_drewN | apply below_drew1 | refine below_set ?_ GE125.out) | exact HB.out)) hb); clear BK125; clear HB; have BK125 := n0_; have HB := n1_; clear n0_ n1_; (try clear hb); (try clear hb2); (try clear hk); (try clear hi); have hcz7_0 : w6.cell? ⟨gb125, 0, none⟩ = some (.slice A0_0 l0_0.length c0_0) := (blk_cell BK125.out 0).trans rfl; have hcz7_1 : w6.cell? ⟨gb125, 1, none⟩ = some (.int .u32 a0_1) := (blk_cell BK125.out 1).trans rfl; have hfz7_0 := blk_frozen BK125.out 0; have hfz7_1 := blk_frozen BK125.out 1))
    go_loopg [4, 15] k (fun kq v4 v15 w' => ∃ (x4_1 : ByteArray) (x15_1 : Int), v4 = .string x4_1 ∧ v15 = .int .i64 x15_1 ∧ Aside0 (policy_Print.l0 kq x4_1 l0_0 (l0_0.length : Int) x15_1 l0_0 a0_1 = some (r1, r2)) ∧ Aside0 (kq ≤ k) ∧ Aside0 (w'.heap[gb125]? = some (.cells #[(.slice A0_0 l0_0.length c0_0), .int .u32 a0_1] 25 (0, 0))) ∧ Aside0 (Below w.heap.size w w'))
    case atStart => exact ⟨((⟨#[]⟩ : ByteArray)), (0), (by first | rfl | (simp; done) | (simp [*]; done)), (by first | rfl | (simp; done) | (simp [*]; done)), H', ⟨Nat.le_refl _⟩, ⟨by (with_reducible repeat (first | refine blk_drewN ?_ _ | refine blk_drew ?_ | refine blk_alloc ?_ _)); exact BK125.out⟩, ⟨by repeat (first | (with_reducible first | exact HB.out | apply below_alloc | apply pw_below_drewN | apply below_drew1 | refine below_set ?_ GE125.out) | exact HB.out)⟩⟩
    case round =>
      clear H'
      try clear c1
      try clear p2
      try clear c3
      try clear hcz5_0
      try clear hcz5_1
      try clear hcz7_0
      try clear hcz7_1
      try clear hfz5_0
      try clear hfz5_1
      try clear hfz7_0
      try clear hfz7_1
      obtain ⟨x4_1, x15_1, rfl, rfl, HA, HK1, BK125, HB⟩ := hrel
      cases gk with
      | zero => exact absurd HA.out (by simp [policy_Print.l0])
      | succ k1 =>
        have H := HA.out
        clear HA
        simp only [policy_Print.l0] at H
        by_cases c8 : x15_1 < (l0_0.length : Int)
        · rw [if_pos c8] at H
          have c8b0 : decide (x15_1 < (l0_0.length : Int)) = true := decide_eq_true c8
          clear c8
          by_cases c9 : 0 ≤ x15_1
          · rw [if_pos c9] at H
            have c9b0 : decide (0 ≤ x15_1) = true := decide_eq_true c9
            clear c9
            by_cases c10 : x15_1 < (l0_0.length : Int)
            · rw [if_pos c10] at H
              have c10b0 : decide (x15_1 < (l0_0.length : Int)) = true := decide_eq_true c10
              clear c10
              replace H := Option.bind_eq_some_iff.mp H
              obtain ⟨t129, A110, H⟩ := H
              replace H : (if t129.size + 1 ≤ 9223372036854775807 then (if x4_1.size + (t129 ++ (⟨#[10]⟩ : ByteArray)).size ≤ 9223372036854775807 then (policy_Print.l0 k1 (x4_1 ++ (t129 ++ (⟨#[10]⟩ : ByteArray))) l0_0 (l0_0.length : Int) (wrap64 (x15_1 + 1)) l0_0 a0_1) else (none)) else (none)) = some (r1, r2) := H
              have A11 := Aside0.mk A110
              clear A110
              by_cases c12 : t129.size + 1 ≤ 9223372036854775807
              · rw [if_pos c12] at H
                have c12b0 := eq_true c12
                have c12b1 : decide (t129.size + 1 ≤ 9223372036854775807) = true := decide_eq_true c12
                try have c12b2 : (9223372036854775807 < t129.size + 1) = False := eq_false (Nat.not_lt.2 c12)
                by_cases c13 : x4_1.size + (t129 ++ (⟨#[10]⟩ : ByteArray)).size ≤ 9223372036854775807
                · rw [if_pos c13] at H
                  have c13b0 := eq_true c13
                  have c13b1 : decide (x4_1.size + (t129 ++ (⟨#[10]⟩ : ByteArray)).size ≤ 9223372036854775807) = true := decide_eq_true c13
                  try have c13b2 : (9223372036854775807 < x4_1.size + (t129 ++ (⟨#[10]⟩ : ByteArray)).size) = False := eq_false (Nat.not_lt.2 c13)
                  try have c13b3 : (9223372036854775807 < x4_1.size + t129.size + 1) = False := by have h := c13b2; simp only [ByteArray.size_append] at h; exact h
                  have H' := Aside0.mk H
                  clear H
                  have p127 : 0 ≤ (x15_1 : Int) := of_decide_eq_true (by first | (with_reducible assumption) | assumption)
                  have q127 : x15_1 < (l0_0.length : Int) := of_decide_eq_true (by first | (with_reducible assumption) | assumption)
                  obtain ⟨ad127, A127_2, c127_2, e127, hx127_0, hx127_1, hx127_2, hx127_3, hl127_2, hi127_2⟩ := at_T40 HR0_0.out x15_1 p127 q127
                  cases e127
                  replace hx127_0 := (HB.out.cell (World.block_lt_of_cell? w _ hx127_0)).trans hx127_0
                  replace hx127_1 := (HB.out.cell (World.block_lt_of_cell? w _ hx127_1)).trans hx127_1
                  replace hx127_2 := (HB.out.cell (World.block_lt_of_cell? w _ hx127_2)).trans hx127_2
                  replace hx127_3 := (HB.out.cell (World.block_lt_of_cell? w _ hx127_3)).trans hx127_3
                  have HR127_2 := Aside0.mk hi127_2
                  have HC127_2 := Aside0.mk hl127_2
                  clear hi127_2 hl127_2
                  replace p127 := eq_true p127
                  replace q127 := eq_true q127
                  go_wp2_with (first | ((with_reducible refine gate_dst (N := 6) rfl ?_); refine box_event ?hg (N := 6) ?hd (cs := #[.int .u32 0, .int .u32 0, .slice none 0 0, .int .u32 0]) (t := 40) ?hr ?_; (case hd => rfl); (case hg => rfl); (case hr => first | (go_simp; done) | (go_simp; rfl)); intro gb128 hg w14 hbox hb; have n0_ := Aside0.mk (blk_below (g := gb125) (o := .cells #[.slice (some ad127) l0_0.length c0_0, .int .u32 a0_1] 25 (0, 0)) (by (with_reducible repeat (first | refine blk_drewN ?_ _ | refine blk_drew ?_ | refine blk_alloc ?_ _)); exact BK125.out) hb); have n1_ := Aside0.mk (below_step (by repeat (first | (with_reducible first | exact HB.out | apply below_alloc | apply pw_below_drewN | apply below_drew1 | refine below_set ?_ GE125.out) | exact HB.out)) hb); have n2_ := Aside0.mk (hbox); have n3_ := Aside0.mk ((by rw [hg]; exact (below_size (by repeat (first | (with_reducible first | exact HB.out | apply below_alloc | apply pw_below_drewN | apply below_drew1 | refine below_set ?_ GE125.out) | exact HB.out))) : w.heap.size ≤ gb128)); have n4_ := Aside0.mk ((by rw [hg]; exact (below_size (by repeat (first | (with_reducible first | exact HB.out | apply below_alloc | apply pw_below_drewN | apply below_drew1 | refine below_set ?_ GE125.out) | exact HB.out))) : w.heap.size ≤ gb128)); have n5_ := Aside0.mk ((by rw [hg]; exact Nat.ne_of_lt (blk_lt (g := gb125) (o := .cells #[.slice (some ad127) l0_0.length c0_0, .int .u32 a0_1] 25 (0, 0)) (by (with_reducible repeat (first | refine blk_drewN ?_ _ | refine blk_drew ?_ | refine blk_alloc ?_ _)); exact BK125.out)) : gb125 ≠ gb128)); have n6_ := Aside0.mk ((by rw [hg]; exact Nat.ne_of_gt (blk_lt (g := gb125) (o := .cells #[.slice (some ad127) l0_0.length c0_0, .int .u32 a0_1] 25 (0, 0)) (by (with_reducible repeat (first | refine blk_drewN ?_ _ | refine blk_drew ?_ | refine blk_alloc ?_ _)); exact BK125.out)) : gb128 ≠ gb125)); clear BK125; clear HB; have BK125 := n0_; have HB := n1_; have BK128 := n2_; have GW128 := n3_; have GE128 := n4_; have NB125_128 := n5_; have NB128_125 := n6_; clear n0_ n1_ n2_ n3_ n4_ n5_ n6_; clear hb hbox hg; have hnb15 := NB128_125.out; have hnc15 := NB125_128.out; have hcz16_0 : w14.cell? ⟨gb128, 0, none⟩ = some (.int .u32 0) := (blk_cell BK128.out 0).trans rfl; have hcz16_1 : w14.cell? ⟨gb128, 1, none⟩ = some (.int .u32 0) := (blk_cell BK128.out 1).trans rfl; have hcz16_2 : w14.cell? ⟨gb128, 2, none⟩ = some (.slice none 0 0) := (blk_cell BK128.out 2).trans rfl; have hcz16_3 : w14.cell? ⟨gb128, 3, none⟩ = some (.int .u32 0) := (blk_cell BK128.out 3).trans rfl; have hfz16_0 := blk_frozen BK128.out 0; have hfz16_1 := blk_frozen BK128.out 1; have hfz16_2 := blk_frozen BK128.out 2; have hfz16_3 := blk_frozen BK128.out 3) | ((with_reducible refine gate_callee (f := 31) rfl ?_); refine goesL_ (some 21) rfl rfl Try.func31 (by kernel_rfl) rfl #[.agg #[.int .u32 ((rd_T40 l0_0 x15_1).f0), .int .u32 ((rd_T40 l0_0 x15_1).f1), .slice A127_2 ((rd_T40 l0_0 x15_1).f2).length c127_2, .int .u32 ((rd_T40 l0_0 x15_1).f3)]] rfl (by (try simp only [List.map_toArray, List.map_cons, List.map_nil]); first | done | rfl | (simp only [List.length_drop, List.length_take]; rfl)) ?_; (with_reducible refine (policy_rule.calls k1 ((rd_T40 l0_0 x15_1).f0) ((rd_T40 l0_0 x15_1).f1) _ _ ((rd_T40 l0_0 x15_1).f2) ((rd_T40 l0_0 x15_1).f3) t129 _ ?side1 ?side2 A11.out).mono ?_); (case side1 => exact Kd.C_below HR127_2.out (by repeat (first | (with_reducible first | exact HB.out | apply below_alloc | apply pw_below_drewN | apply below_drew1 | refine below_set ?_ GE125.out | refine below_set ?_ GE128.out) | exact HB.out))); (case side2 => exact HC127_2.out); rintro e w17 ⟨rfl, hb⟩; refine ⟨_, rfl, ?_⟩; have n0_ := Aside0.mk (blk_below (g := gb125) (o := .cells #[.slice (some ad127) l0_0.length c0_0, .int .u32 a0_1] 25 (0, 0)) (by (with_reducible repeat (first | refine blk_drewN ?_ _ | refine blk_drew ?_ | refine blk_alloc ?_ _)); refine blk_far ?_ NB125_128.out _; (with_reducible repeat (first | refine blk_drewN ?_ _ | refine blk_drew ?_ | refine blk_alloc ?_ _)); refine blk_far ?_ NB125_128.out _; (with_reducible repeat (first | refine blk_drewN ?_ _ | refine blk_drew ?_ | refine blk_alloc ?_ _)); refine blk_far ?_ NB125_128.out _; (with_reducible repeat (first | refine blk_drewN ?_ _ | refine blk_drew ?_ | refine blk_alloc ?_ _)); refine blk_far ?_ NB125_128.out _; (with_reducible repeat (first | refine blk_drewN ?_ _ | refine blk_drew ?_ | refine blk_alloc ?_ _)); exact BK125.out) hb); have n1_ := Aside0.mk (blk_below (g := gb128) (o := .cells #[.int .u32 ((rd_T40 l0_0 x15_1).f0), .int .u32 ((rd_T40 l0_0 x15_1).f1), .slice A127_2 ((rd_T40 l0_0 x15_1).f2).length c127_2, .int .u32 ((rd_T40 l0_0 x15_1).f3)] 40 (0, 0)) (by (with_reducible repeat (first | refine blk_drewN ?_ _ | refine blk_drew ?_ | refine blk_alloc ?_ _)); refine blk_put (cs := #[.int .u32 ((rd_T40 l0_0 x15_1).f0), .int .u32 ((rd_T40 l0_0 x15_1).f1), .slice A127_2 ((rd_T40 l0_0 x15_1).f2).length c127_2, .int .u32 0]) ?_ 3 _ rfl; (with_reducible repeat (first | refine blk_drewN ?_ _ | refine blk_drew ?_ | refine blk_alloc ?_ _)); refine blk_put (cs := #[.int .u32 ((rd_T40 l0_0 x15_1).f0), .int .u32 ((rd_T40 l0_0 x15_1).f1), .slice none 0 0, .int .u32 0]) ?_ 2 _ rfl; (with_reducible repeat (first | refine blk_drewN ?_ _ | refine blk_drew ?_ | refine blk_alloc ?_ _)); refine blk_put (cs := #[.int .u32 ((rd_T40 l0_0 x15_1).f0), .int .u32 0, .slice none 0 0, .int .u32 0]) ?_ 1 _ rfl; (with_reducible repeat (first | refine blk_drewN ?_ _ | refine blk_drew ?_ | refine blk_alloc ?_ _)); refine blk_put (cs := #[.int .u32 0, .int .u32 0, .slice none 0 0, .int .u32 0]) ?_ 0 _ rfl; (with_reducible repeat (first | refine blk_drewN ?_ _ | refine blk_drew ?_ | refine blk_alloc ?_ _)); exact BK128.out) hb); have n2_ := Aside0.mk (below_step (by repeat (first | (with_reducible first | exact HB.out | apply below_alloc | apply pw_below_drewN | apply below_drew1 | refine below_set ?_ GE125.out | refine below_set ?_ GE128.out) | exact HB.out)) hb); clear BK125; clear BK128; clear HB; have BK125 := n0_; have BK128 := n1_; have HB := n2_; clear n0_ n1_ n2_; (try clear hb); (try clear hb2); (try clear hk); (try clear hi)))
                  go_roundg k1
                  case measure => have := HK1.out; omega
                  case rel => exact ⟨(x4_1 ++ (t129 ++ (⟨#[10]⟩ : ByteArray))), (wrap64 (x15_1 + 1)), (by first | rfl | (simp; done) | (simp [*]; done)), (by first | rfl | (simp; done) | (simp [*]; done)), H', ⟨by have := HK1.out; omega⟩, ⟨by (with_reducible repeat (first | refine blk_drewN ?_ _ | refine blk_drew ?_ | refine blk_alloc ?_ _)); exact BK125.out⟩, ⟨by repeat (first | (with_reducible first | exact HB.out | apply below_alloc | apply pw_below_drewN | apply below_drew1 | refine below_set ?_ GE125.out | refine below_set ?_ GE128.out) | exact HB.out)⟩⟩
                · rw [if_neg c13] at H
                  exact absurd H (by simp)
              · rw [if_neg c12] at H
                exact absurd H (by simp)
            · rw [if_neg c10] at H
              exact absurd H (by simp)
          · rw [if_neg c9] at H
            exact absurd H (by simp)
        · rw [if_neg c8] at H
          have c8b0 : decide (x15_1 < (l0_0.length : Int)) = false := decide_eq_false c8
          clear c8
          replace H := Option.bind_eq_some_iff.mp H
          obtain ⟨⟨t130, t131⟩, A180, H⟩ := H
          replace H : (if x4_1.size + 8 ≤ 9223372036854775807 then (if (x4_1 ++ (⟨#[100, 101, 102, 97, 117, 108, 116, 32]⟩ : ByteArray)).size + t130.size ≤ 9223372036854775807 then (if ((x4_1 ++ (⟨#[100, 101, 102, 97, 117, 108, 116, 32]⟩ : ByteArray)) ++ t130).size + 1 ≤ 9223372036854775807 then (some (((x4_1 ++ (⟨#[100, 101, 102, 97, 117, 108, 116, 32]⟩ : ByteArray)) ++ t130) ++ (⟨#[10]⟩ : ByteArray), 0)) else (none)) else (none)) else (none)) = some (r1, r2) := H
          have A18 := Aside0.mk A180
          clear A180
          by_cases c19 : x4_1.size + 8 ≤ 9223372036854775807
          · rw [if_pos c19] at H
            have c19b0 := eq_true c19
            have c19b1 : decide (x4_1.size + 8 ≤ 9223372036854775807) = true := decide_eq_true c19
            try have c19b2 : (9223372036854775807 < x4_1.size + 8) = False := eq_false (Nat.not_lt.2 c19)
            by_cases c20 : (x4_1 ++ (⟨#[100, 101, 102, 97, 117, 108, 116, 32]⟩ : ByteArray)).size + t130.size ≤ 9223372036854775807
            · rw [if_pos c20] at H
              have c20b0 := eq_true c20
              have c20b1 : decide ((x4_1 ++ (⟨#[100, 101, 102, 97, 117, 108, 116, 32]⟩ : ByteArray)).size + t130.size ≤ 9223372036854775807) = true := decide_eq_true c20
              try have c20b2 : (9223372036854775807 < (x4_1 ++ (⟨#[100, 101, 102, 97, 117, 108, 116, 32]⟩ : ByteArray)).size + t130.size) = False := eq_false (Nat.not_lt.2 c20)
              try have c20b3 : (9223372036854775807 < x4_1.size + 8 + t130.size) = False := by have h := c20b2; simp only [ByteArray.size_append] at h; exact h
              by_cases c21 : ((x4_1 ++ (⟨#[100, 101, 102, 97, 117, 108, 116, 32]⟩ : ByteArray)) ++ t130).size + 1 ≤ 9223372036854775807
              · rw [if_pos c21] at H
                have c21b0 := eq_true c21
                have c21b1 : decide (((x4_1 ++ (⟨#[100, 101, 102, 97, 117, 108, 116, 32]⟩ : ByteArray)) ++ t130).size + 1 ≤ 9223372036854775807) = true := decide_eq_true c21
                try have c21b2 : (9223372036854775807 < ((x4_1 ++ (⟨#[100, 101, 102, 97, 117, 108, 116, 32]⟩ : ByteArray)) ++ t130).size + 1) = False := eq_false (Nat.not_lt.2 c21)
                try have c21b3 : (9223372036854775807 < x4_1.size + 8 + t130.size + 1) = False := by have h := c21b2; simp only [ByteArray.size_append] at h; exact h
                simp only [Option.some.injEq, Prod.mk.injEq] at H
                obtain ⟨rfl, rfl⟩ := H
                have hcz22_0 : wr.cell? ⟨gb125, 0, none⟩ = some (.slice A0_0 l0_0.length c0_0) := (blk_cell BK125.out 0).trans rfl
                have hcz22_1 : wr.cell? ⟨gb125, 1, none⟩ = some (.int .u32 a0_1) := (blk_cell BK125.out 1).trans rfl
                have hfz22_0 := blk_frozen BK125.out 0
                have hfz22_1 := blk_frozen BK125.out 1
                go_wp2_with (first | ((with_reducible refine gate_callee (f := 32) rfl ?_); refine goesL_ (some 28) rfl rfl Try.func32 (by kernel_rfl) rfl #[.int .u32 a0_1] rfl (by (try simp only [List.map_toArray, List.map_cons, List.map_nil]); first | done | rfl | (simp only [List.length_drop, List.length_take]; rfl)) ?_; (with_reducible refine (names_Action.calls a0_1 t130 t131 _ A18.out).mono ?_); rintro e w23 ⟨rfl, hb⟩; refine ⟨_, rfl, ?_⟩; have n0_ := Aside0.mk (blk_below (g := gb125) (o := .cells #[.slice A0_0 l0_0.length c0_0, .int .u32 a0_1] 25 (0, 0)) (by (with_reducible repeat (first | refine blk_drewN ?_ _ | refine blk_drew ?_ | refine blk_alloc ?_ _)); exact BK125.out) hb); have n1_ := Aside0.mk (below_step (by repeat (first | (with_reducible first | exact HB.out | apply below_alloc | apply pw_below_drewN | apply below_drew1 | refine below_set ?_ GE125.out) | exact HB.out)) hb); clear BK125; clear HB; have BK125 := n0_; have HB := n1_; clear n0_ n1_; (try clear hb); (try clear hb2); (try clear hk); (try clear hi)))
                go_ret2
                exact ⟨by first | rfl | (simp [errW_none, errW_some] <;> rfl) | (simp [*, errW_none, errW_some] <;> rfl), by repeat (first | (with_reducible first | exact HB.out | apply below_alloc | apply pw_below_drewN | apply below_drew1 | refine below_set ?_ GE125.out) | exact HB.out)⟩
              · rw [if_neg c21] at H
                exact absurd H (by simp)
            · rw [if_neg c20] at H
              exact absurd H (by simp)
          · rw [if_neg c19] at H
            exact absurd H (by simp)
  · replace c3 := Bool.eq_false_iff.mpr c3
    subst c3
    have H1 : (some ((⟨#[]⟩ : ByteArray), 1)) = some (r1, r2) := by rw [if_neg (show ¬ (false = true) by decide)] at H; exact H
    clear H
    have H := H1
    clear H1
    simp only [Option.some.injEq, Prod.mk.injEq] at H
    obtain ⟨rfl, rfl⟩ := H
    go_enter Try.func16, Try.ntmps16
    go_wp2_with (first | ((with_reducible refine gate_dst (N := 1) rfl ?_); refine box_event ?hg (N := 1) ?hd (cs := #[.slice A0_0 l0_0.length c0_0, .int .u32 a0_1]) (t := 25) ?hr ?_; (case hd => rfl); (case hg => rfl); (case hr => first | (go_simp; done) | (go_simp; rfl)); intro gb125 hg w24 hbox hb; have n0_ := Aside0.mk (below_step (by repeat (first | (with_reducible first | exact HB.out | apply below_alloc | apply pw_below_drewN | apply below_drew1) | exact HB.out)) hb); have n1_ := Aside0.mk (hbox); have n2_ := Aside0.mk ((by rw [hg]; exact (below_size (by repeat (first | (with_reducible first | exact HB.out | apply below_alloc | apply pw_below_drewN | apply below_drew1) | exact HB.out))) : w.heap.size ≤ gb125)); have n3_ := Aside0.mk ((by rw [hg]; exact (below_size (by repeat (first | (with_reducible first | exact HB.out | apply below_alloc | apply pw_below_drewN | apply below_drew1) | exact HB.out))) : w.heap.size ≤ gb125)); clear HB; have HB := n0_; have BK125 := n1_; have GW125 := n2_; have GE125 := n3_; clear n0_ n1_ n2_ n3_; clear hb hbox hg; have hcz25_0 : w24.cell? ⟨gb125, 0, none⟩ = some (.slice A0_0 l0_0.length c0_0) := (blk_cell BK125.out 0).trans rfl; have hcz25_1 : w24.cell? ⟨gb125, 1, none⟩ = some (.int .u32 a0_1) := (blk_cell BK125.out 1).trans rfl; have hfz25_0 := blk_frozen BK125.out 0; have hfz25_1 := blk_frozen BK125.out 1) | ((with_reducible refine gate_callee (f := 18) rfl ?_); refine goesL_ (some 10) rfl rfl Try.func18 (by kernel_rfl) rfl #[.agg #[.slice A0_0 l0_0.length c0_0, .int .u32 a0_1]] rfl (by (try simp only [List.map_toArray, List.map_cons, List.map_nil]); first | done | rfl | (simp only [List.length_drop, List.length_take]; rfl)) ?_; (with_reducible refine (policy_Right.calls k _ _ l0_0 a0_1 false _ ?side1 ?side2 A2.out).mono ?_); (case side1 => repeat (first | exact (Kd.C_below HR0_0.out HB.out) | (with_reducible refine Kd.C_alloc ?_ _) | (with_reducible refine Kd.C_drewN ?_ _) | (with_reducible refine Kd.C_drew ?_))); (case side2 => exact HC0_0.out); rintro e w26 ⟨rfl, hb⟩; refine ⟨_, rfl, ?_⟩; have n0_ := Aside0.mk (blk_below (g := gb125) (o := .cells #[.slice A0_0 l0_0.length c0_0, .int .u32 a0_1] 25 (0, 0)) (by (with_reducible repeat (first | refine blk_drewN ?_ _ | refine blk_drew ?_ | refine blk_alloc ?_ _)); exact BK125.out) hb); have n1_ := Aside0.mk (below_step (by repeat (first | (with_reducible first | exact HB.out | apply below_alloc | apply pw_below_drewN | apply below_drew1 | refine below_set ?_ GE125.out) | exact HB.out)) hb); clear BK125; clear HB; have BK125 := n0_; have HB := n1_; clear n0_ n1_; (try clear hb); (try clear hb2); (try clear hk); (try clear hi)))
    go_ret2
    exact ⟨by first | rfl | (simp [errW_none, errW_some] <;> rfl) | (simp [*, errW_none, errW_some] <;> rfl), by repeat (first | (with_reducible first | exact HB.out | apply below_alloc | apply pw_below_drewN | apply below_drew1 | refine below_set ?_ GE125.out) | exact HB.out)⟩
def IsS65 (w0 W : World) (g : Nat) (f0 : ByteArray) (f1 : Bool) (f2 : Bool) : Prop := W.heap[g]? = some (.cells #[.string f0, .bool f1, .bool f2] 65 (0, 0)) ∧ w0.heap.size ≤ g
theorem IsS65.grown {w0 W : World} {g : Nat} {f0 : ByteArray} {f1 : Bool} {f2 : Bool} {W1 : World} {row : Option Nat} (h : IsS65 w0 W g f0 f1 f2) (hw : W.grownBy W1 row) (hne : some g ≠ row) : IsS65 w0 W1 g f0 f1 f2 := by
  obtain ⟨hb, hg⟩ := h
  exact ⟨blk_grown hb hw hne, hg⟩
theorem IsS65.kept {w0 W : World} {g : Nat} {f0 : ByteArray} {f1 : Bool} {f2 : Bool} {W1 : World} {S : Nat → Prop} (h : IsS65 w0 W g f0 f1 f2) (hk : Kept W W1 S) (hne : ¬ S g) : IsS65 w0 W1 g f0 f1 f2 := by
  obtain ⟨hb, hg⟩ := h
  exact ⟨blk_kept hb hk hne, hg⟩
theorem IsS65.below {w0 W : World} {g : Nat} {f0 : ByteArray} {f1 : Bool} {f2 : Bool} {W1 : World} (h : IsS65 w0 W g f0 f1 f2) (hw : Below W.heap.size W W1) : IsS65 w0 W1 g f0 f1 f2 := h.grown (grown_of_below hw none) (by simp)
theorem IsS65.alloc {w0 W : World} {g : Nat} {f0 : ByteArray} {f1 : Bool} {f2 : Bool} (h : IsS65 w0 W g f0 f1 f2) (o : Obj) : IsS65 w0 (W.alloc o) g f0 f1 f2 := h.below (below_alloc (Below.refl _ _) o)
theorem IsS65.drewN {w0 W : World} {g : Nat} {f0 : ByteArray} {f1 : Bool} {f2 : Bool} (h : IsS65 w0 W g f0 f1 f2) (m : Nat) : IsS65 w0 (W.drewN m) g f0 f1 f2 := h
theorem IsS65.drew {w0 W : World} {g : Nat} {f0 : ByteArray} {f1 : Bool} {f2 : Bool} (h : IsS65 w0 W g f0 f1 f2) : IsS65 w0 W.drew g f0 f1 f2 := h
theorem IsS65.at_ {w0 W : World} {g : Nat} {f0 : ByteArray} {f1 : Bool} {f2 : Bool} {w' : World} {m : Nat} (hq : W.drewN m = w') (h : IsS65 w0 W g f0 f1 f2) : IsS65 w0 w' g f0 f1 f2 := by subst hq; exact IsS65.drewN h m
theorem IsS65.apart {w0 W : World} {g : Nat} {f0 : ByteArray} {f1 : Bool} {f2 : Bool} {α : Type} {d : Kd α} {e : Nat} {base : Nat} {ok : Nat → Prop} {v : Value} {xs : List α} (h : IsS65 w0 W g f0 f1 f2) (ho : d.R e W base ok v xs) (ht : ∀ q, q ∈ e :: d.E → q ≠ 65) : d.R e W base (fun k => ok k ∧ k ≠ g) v xs := by
  obtain ⟨hb, hg⟩ := h
  exact Kd.R_types ho hb ht
theorem IsS65.own_ne {w0 W : World} {g : Nat} {f0 : ByteArray} {f1 : Bool} {f2 : Bool} {α : Type} {d : Kd α} {e : Nat} {base : Nat} {ok : Nat → Prop} {v : Value} {xs : List α} (h : IsS65 w0 W g f0 f1 f2) (ho : d.R e W base ok v xs) (ht : e ≠ 65) : some g ≠ v.ownBlock := by
  obtain ⟨hb, hg⟩ := h
  exact Kd.R_ne ho hb ht
theorem IsS65.own_neS {w0 W : World} {g : Nat} {f0 : ByteArray} {f1 : Bool} {f2 : Bool} {α : Type} {d : Kd α} {e : Nat} {base : Nat} {ok : Nat → Prop} {v : Value} {xs : List α} (h : IsS65 w0 W g f0 f1 f2) (ho : d.S e W base ok v xs) (ht : e ≠ 65) : some g ≠ v.ownBlock := by
  obtain ⟨hb, hg⟩ := h
  exact Kd.S_ne ho hb ht
theorem IsS65.lt {w0 W : World} {g : Nat} {f0 : ByteArray} {f1 : Bool} {f2 : Bool} (h : IsS65 w0 W g f0 f1 f2) : g < W.heap.size := by
  obtain ⟨hb, hg⟩ := h
  exact blk_lt hb
theorem IsS65.ge {w0 W : World} {g : Nat} {f0 : ByteArray} {f1 : Bool} {f2 : Bool} (h : IsS65 w0 W g f0 f1 f2) : w0.heap.size ≤ g := by
  obtain ⟨hb, hg⟩ := h
  exact hg
theorem IsS65.far {w0 W : World} {g : Nat} {f0 : ByteArray} {f1 : Bool} {f2 : Bool} {p : Addr} (h : IsS65 w0 W g f0 f1 f2) (hne : g ≠ p.block) (u : Value) : IsS65 w0 (W.setCell p u) g f0 f1 f2 := by
  obtain ⟨hb, hg⟩ := h
  exact ⟨blk_far hb hne u, hg⟩
theorem cellS65_0 {W : World} {g : Nat} {f0 : ByteArray} {f1 : Bool} {f2 : Bool} (h : W.heap[g]? = some (.cells #[.string f0, .bool f1, .bool f2] 65 (0, 0))) : W.cell? ⟨g, 0, none⟩ = some (.string f0) := (blk_cell h 0).trans rfl
theorem IsS65.set_0 {w0 W : World} {g : Nat} {f0 : ByteArray} {f1 : Bool} {f2 : Bool} (h : IsS65 w0 W g f0 f1 f2) (x : ByteArray) : IsS65 w0 (W.setCell ⟨g, 0, none⟩ (.string x)) g x f1 f2 := by
  obtain ⟨hb, hg⟩ := h
  exact ⟨by simpa using blk_set hb 0 (.string x), hg⟩
theorem cellS65_1 {W : World} {g : Nat} {f0 : ByteArray} {f1 : Bool} {f2 : Bool} (h : W.heap[g]? = some (.cells #[.string f0, .bool f1, .bool f2] 65 (0, 0))) : W.cell? ⟨g, 1, none⟩ = some (.bool f1) := (blk_cell h 1).trans rfl
theorem IsS65.set_1 {w0 W : World} {g : Nat} {f0 : ByteArray} {f1 : Bool} {f2 : Bool} (h : IsS65 w0 W g f0 f1 f2) (x : Bool) : IsS65 w0 (W.setCell ⟨g, 1, none⟩ (.bool x)) g f0 x f2 := by
  obtain ⟨hb, hg⟩ := h
  exact ⟨by simpa using blk_set hb 1 (.bool x), hg⟩
theorem cellS65_2 {W : World} {g : Nat} {f0 : ByteArray} {f1 : Bool} {f2 : Bool} (h : W.heap[g]? = some (.cells #[.string f0, .bool f1, .bool f2] 65 (0, 0))) : W.cell? ⟨g, 2, none⟩ = some (.bool f2) := (blk_cell h 2).trans rfl
theorem IsS65.set_2 {w0 W : World} {g : Nat} {f0 : ByteArray} {f1 : Bool} {f2 : Bool} (h : IsS65 w0 W g f0 f1 f2) (x : Bool) : IsS65 w0 (W.setCell ⟨g, 2, none⟩ (.bool x)) g f0 f1 x := by
  obtain ⟨hb, hg⟩ := h
  exact ⟨by simpa using blk_set hb 2 (.bool x), hg⟩
def policy_reader_must.f (s0_0 : ByteArray) (s0_1 : Bool) (s0_2 : Bool) (a1 : Int) : Option (ByteArray × Bool × Bool) := if s0_2 = true then (some (s0_0, s0_1, true)) else (some (s0_0, s0_1, (a1 != 0)))
set_option maxHeartbeats 8000000 in
set_option maxRecDepth 100000 in
theorem policy_reader_must.calls (g : Nat) (s0_0 : ByteArray) (s0_1 : Bool) (s0_2 : Bool) (a1 : Int) (r1 : ByteArray) (r2 : Bool) (r3 : Bool) (w0 w : World) (hI : IsS65 w0 w g s0_0 s0_1 s0_2) (hB : Below w0.heap.size w0 w) (h : policy_reader_must.f s0_0 s0_1 s0_2 a1 = some (r1, r2, r3)) :
    Calls Try.prog 40 #[.pointer (some ⟨g, 0, none⟩), .int .i64 a1] w fun e w' => e = .returned (.tuple #[]) ∧ IsS65 w0 w' g r1 r2 r3 ∧ Below w0.heap.size w0 w' ∧ KeepBut w w' g none := by
  have HI0 := Aside0.mk hI
  have HK := Aside0.mk (KeepBut.refl w g none)
  have HL := Aside0.mk hB.size
  clear hI
  have HW0 := Aside0.mk hB.size
  have HB := Aside0.mk hB
  clear hB
  have H : (if s0_2 = true then (some (s0_0, s0_1, true)) else (some (s0_0, s0_1, (a1 != 0)))) = some (r1, r2, r3) := h
  clear h
  by_cases c3 : s0_2 = true
  · subst c3
    have H1 : (some (s0_0, s0_1, true)) = some (r1, r2, r3) := by rw [if_pos rfl] at H; exact H
    clear H
    have H := H1
    clear H1
    simp only [Option.some.injEq, Prod.mk.injEq] at H
    obtain ⟨rfl, rfl, rfl⟩ := H
    obtain ⟨HGz4, hgz4⟩ := HI0.out
    have hcz4_0 := cellS65_0 HGz4
    have hcz4_1 := cellS65_1 HGz4
    have hcz4_2 := cellS65_2 HGz4
    have hfz4_0 := blk_frozen HGz4 0
    have hfz4_1 := blk_frozen HGz4 1
    have hfz4_2 := blk_frozen HGz4 2
    clear HGz4 hgz4
    go_enter Try.func40, Try.ntmps40
    go_wp2
    first | go_end0 | ((try simp only [Exit.inBlock, Exit.then]); refine bodyPost_ret (results_none rfl _ _ _) rfl ?_)
    exact ⟨by first | rfl | (simp [errW_none, errW_some] <;> rfl) | (simp [*, errW_none, errW_some] <;> rfl), by repeat (first | (with_reducible first | exact HI0.out | apply IsS65.alloc | apply IsS65.drewN | apply IsS65.drew | apply IsS65.set_0 | apply IsS65.set_1 | apply IsS65.set_2) | exact HI0.out), by repeat (first | (with_reducible first | exact HB.out | apply below_alloc | apply pw_below_drewN | apply below_drew1 | refine below_set ?_ (IsS65.ge HI0.out)) | exact HB.out), by repeat (first | (with_reducible first | exact HK.out | apply KeepBut.set_ | apply keep_drewN | apply keep_drew | apply keep_alloc) | exact HK.out)⟩
  · replace c3 := Bool.eq_false_iff.mpr c3
    subst c3
    have H1 : (some (s0_0, s0_1, (a1 != 0))) = some (r1, r2, r3) := by rw [if_neg (show ¬ (false = true) by decide)] at H; exact H
    clear H
    have H := H1
    clear H1
    simp only [Option.some.injEq, Prod.mk.injEq] at H
    obtain ⟨rfl, rfl, rfl⟩ := H
    obtain ⟨HGz5, hgz5⟩ := HI0.out
    have hcz5_0 := cellS65_0 HGz5
    have hcz5_1 := cellS65_1 HGz5
    have hcz5_2 := cellS65_2 HGz5
    have hfz5_0 := blk_frozen HGz5 0
    have hfz5_1 := blk_frozen HGz5 1
    have hfz5_2 := blk_frozen HGz5 2
    clear HGz5 hgz5
    go_enter Try.func40, Try.ntmps40
    go_wp2
    first | go_end0 | ((try simp only [Exit.inBlock, Exit.then]); refine bodyPost_ret (results_none rfl _ _ _) rfl ?_)
    exact ⟨by first | rfl | (simp [errW_none, errW_some] <;> rfl) | (simp [*, errW_none, errW_some] <;> rfl), by repeat (first | (with_reducible first | exact HI0.out | apply IsS65.alloc | apply IsS65.drewN | apply IsS65.drew | apply IsS65.set_0 | apply IsS65.set_1 | apply IsS65.set_2) | exact HI0.out), by repeat (first | (with_reducible first | exact HB.out | apply below_alloc | apply pw_below_drewN | apply below_drew1 | refine below_set ?_ (IsS65.ge HI0.out)) | exact HB.out), by repeat (first | (with_reducible first | exact HK.out | apply KeepBut.set_ | apply keep_drewN | apply keep_drew | apply keep_alloc) | exact HK.out)⟩
end Go.Proofs.Ytekpbgmmogpbdaa.P
set_option linter.unusedVariables false
set_option linter.unusedSimpArgs false
set_option maxRecDepth 100000
namespace Go.Proofs.Ytekpbgmmogpbdaa.H
open Go.RowKit Go.Proofs.YtekpbgmmogpbdaaW.PrintWords
def wordF (s : ByteArray) (e b : Bool) : ByteArray × ByteArray × Bool × Bool :=
  if e = true then (⟨#[]⟩, s, true, true) else if (32 : UInt8) ∈ s.data.toList then (ofBytes (cutL s.data.toList).1, ofBytes (cutL s.data.toList).2, false, b) else (s, s, true, b)
def RdRow (W : World) (g : Nat) (s : ByteArray) (e b : Bool) : Prop := W.heap[g]? = some (.cells #[.string s, .bool e, .bool b] 65 (0, 0))
theorem below_far {g j : Nat} {w w1 : World} (h : Below g w w1) (u : Value) : Below g w (w1.setCell ⟨g, j, none⟩ u) :=
  h.trans ⟨rfl, rfl, rfl, by simp [World.setCell], fun q hq => heap_setCell_other _ _ _ _ (by simp; omega)⟩
def WordEnd (g : Nat) (w : World) (r s : ByteArray) (e b : Bool) (en : Ending) (w' : World) : Prop := en = .returned (.string r) ∧ RdRow w' g s e b ∧ KeepBut w w' g none ∧ Below g w w'
set_option maxHeartbeats 2000000 in
theorem word_end (g : Nat) (s : ByteArray) (b : Bool) (w : World) (hg : RdRow w g s true b) :
    Calls Try.prog 37 #[.pointer (some ⟨g, 0, none⟩)] w (WordEnd g w ⟨#[]⟩ s true true) := by
  unfold RdRow at hg
  have c0 := (blk_cell hg 0 : w.cell? ⟨g, 0, none⟩ = _)
  have c1 := (blk_cell hg 1 : w.cell? ⟨g, 1, none⟩ = _)
  have c2 := (blk_cell hg 2 : w.cell? ⟨g, 2, none⟩ = _)
  have f2 : w.frozen? ⟨g, 2, none⟩ = false := blk_frozen hg 2
  have HG := Lib.hid hg
  clear hg
  go_enter Try.func37, Try.ntmps37
  go_wp2
  go_ret
  exact ⟨rfl, blk_set HG.out 2 _, (KeepBut.refl w g none).set_ 2 _, below_far (Below.refl _ _) _⟩
theorem mem32 (s : ByteArray) (pos : Nat) (h : pos < s.size) (h32 : (s[pos]'h).toNat = 32) : (32 : UInt8) ∈ s.data.toList := by
  have := ba_get s pos h
  have e : s[pos]'h = 32 := UInt8.toNat_inj.1 h32
  rw [e] at this
  exact List.mem_of_getElem? this
theorem not_mem32 (s : ByteArray) (hb : ∀ j (hj : j < s.size), (s[j]'hj).toNat ≠ 32) : (32 : UInt8) ∉ s.data.toList := by
  intro hm
  obtain ⟨j, hj⟩ := List.mem_iff_getElem?.1 hm
  by_cases h : j < s.size
  · rw [ba_get s j h] at hj
    injection hj with hj
    exact hb j h (by rw [hj]; rfl)
  · rw [List.getElem?_eq_none (by simp; omega)] at hj
    simp at hj
set_option maxHeartbeats 2000000 in
theorem word_go (g : Nat) (s : ByteArray) (b : Bool) (hsz : s.size ≤ 140737488351232) (w : World) (hg : RdRow w g s false b) :
    Calls Try.prog 37 #[.pointer (some ⟨g, 0, none⟩)] w (WordEnd g w (wordF s false b).1 (wordF s false b).2.1 (wordF s false b).2.2.1 (wordF s false b).2.2.2) := by
  obtain ⟨r1, hr1⟩ : ∃ r, ofBytes (cutL s.data.toList).1 = r := ⟨_, rfl⟩
  obtain ⟨r2, hr2⟩ : ∃ r, ofBytes (cutL s.data.toList).2 = r := ⟨_, rfl⟩
  have HF := Lib.hid (fun pos h h32 hb => hr1 ▸ hr2 ▸ cut_found s pos h h32 hb)
  have HW := Lib.hid (show (32 : UInt8) ∈ s.data.toList → wordF s false b = (r1, r2, false, b) from fun h => by unfold wordF; rw [if_neg (by decide), if_pos h, hr1, hr2])
  have HV := Lib.hid (show (32 : UInt8) ∉ s.data.toList → wordF s false b = (s, s, true, b) from fun h => by unfold wordF; rw [if_neg (by decide), if_neg h])
  generalize wordF s false b = wf at *
  clear hr1 hr2
  unfold RdRow at hg
  have c0 := (blk_cell hg 0 : w.cell? ⟨g, 0, none⟩ = _)
  have c1 := (blk_cell hg 1 : w.cell? ⟨g, 1, none⟩ = _)
  have c2 := (blk_cell hg 2 : w.cell? ⟨g, 2, none⟩ = _)
  have HG := Lib.hid hg
  clear hg
  go_enter Try.func37, Try.ntmps37
  go_wp2_with fail
  clear c0 c1 c2
  go_loopw [3, 4] (fun _ _ wr => CutRel w s wr) (fun _ _ wr => s.size - wr.iterPos w.heap.size)
  case atStart => exact ⟨0, rfl, by omega, fun j hj h => by omega⟩
  case round =>
    obtain ⟨pos, rfl, hp, hbef⟩ := hrel
    have HBF := Lib.hid hbef
    clear hbef
    by_cases hlt : pos < s.size
    · by_cases ha : (s[pos]'hlt).toNat < 128
      · have hnx : ∀ ty, (Instr.next (.pointer (some ⟨w.heap.size, 0, none⟩)) true ty).run Try.prog (w.iter s pos) = _ := fun ty => run_next_ascii w s pos ty hlt ha
        obtain ⟨c, hc⟩ : ∃ c, (s[pos]'hlt).toNat = c := ⟨_, rfl⟩
        rw [hc] at hnx
        have HC := Lib.hid hc
        clear hc ha
        by_cases h32 : c = 32
        · subst h32
          have HF2 := Lib.hid (HF.out pos hlt HC.out HBF.out)
          have hm := mem32 s pos hlt HC.out
          have HWF := Lib.hid (HW.out hm)
          clear hm
          have hpi : (0 : Int) ≤ (pos : Int) ∧ (pos : Int) ≤ (s.size : Int) ∧ (pos : Int) + 1 ≤ (s.size : Int) := by omega
          obtain ⟨hp1, hp2, hp3⟩ := hpi
          have hb2 := iter_below w s (pos + 1)
          have hg2 := blk_below HG.out hb2
          have HB2 := Lib.hid hb2
          have HG2 := Lib.hid hg2
          have d0 := (blk_cell hg2 0 : (w.iter s (pos + 1)).cell? ⟨g, 0, none⟩ = _)
          have f0 : (w.iter s (pos + 1)).frozen? ⟨g, 0, none⟩ = false := blk_frozen hg2 0
          clear hb2 hg2
          go_wp2_with fail
          have hlt2 := Lib.hid (blk_lt HG.out)
          go_ret
          rw [HWF.out]
          exact ⟨by show _ = Ending.returned (Value.string r1); rw [← HF2.out.1]; rfl, by unfold RdRow; rw [← HF2.out.2]; exact blk_set HG2.out 0 _, (KeepBut.of_below HB2.out g none).set_ 0 _, below_far (HB2.out.mono (Nat.le_of_lt hlt2.out)) _⟩
        · have h32' : ((c : Int) == 32) = false := by simp; omega
          go_wp2_with fail
          go_roundw
          case rel => exact ⟨pos + 1, rfl, by omega, fun j hj h => by
            by_cases e : j = pos
            · subst e; rw [HC.out]; exact h32
            · exact HBF.out j hj (by omega)⟩
          case measure => simp; omega
      · have hnx : ∀ ty, (Instr.next (.pointer (some ⟨w.heap.size, 0, none⟩)) true ty).run Try.prog (w.iter s pos) = _ := fun ty => run_next_any w s pos ty hlt
        have hb := decode_high s pos hlt (by omega)
        have hle := decode_le s pos
        have HS := Lib.hid (decode_span s pos hlt (by omega))
        clear ha
        generalize (Utf8.decode s pos).1 = c at *
        generalize (Utf8.decode s pos).2 = p2 at *
        have h32' : ((c : Int) == 32) = false := by simp; omega
        go_wp2_with fail
        go_roundw
        case rel => exact ⟨pos + p2, rfl, HS.out.2.1, fun j hj h => by
          by_cases e : j < pos
          · exact HBF.out j hj e
          · have := HS.out.2.2 j hj (by omega) h; omega⟩
        case measure => have := HS.out.2.1; have := HS.out.1; simp; omega
    · have hnx : ∀ ty, (Instr.next (.pointer (some ⟨w.heap.size, 0, none⟩)) true ty).run Try.prog (w.iter s pos) = _ := fun ty => run_next_end w s pos ty hlt
      have HWF := Lib.hid (HV.out (not_mem32 s (fun j hj => HBF.out j hj (by omega))))
      have hb2 := iter_below w s pos
      have hg2 := blk_below HG.out hb2
      have HB2 := Lib.hid hb2
      have HG2 := Lib.hid hg2
      have d0 := (blk_cell hg2 0 : (w.iter s pos).cell? ⟨g, 0, none⟩ = _)
      have d1 := (blk_cell hg2 1 : (w.iter s pos).cell? ⟨g, 1, none⟩ = _)
      have f1 : (w.iter s pos).frozen? ⟨g, 1, none⟩ = false := blk_frozen hg2 1
      have hlt2 := Lib.hid (blk_lt HG.out)
      clear hb2 hg2
      go_wp2
      go_ret
      rw [HWF.out]
      exact ⟨rfl, blk_set HG2.out 1 _, (KeepBut.of_below HB2.out g none).set_ 1 _, below_far (HB2.out.mono (Nat.le_of_lt hlt2.out)) _⟩
theorem word_walk (g : Nat) (s : ByteArray) (e b : Bool) (hsz : s.size ≤ 140737488351232) (w : World) (hg : RdRow w g s e b) :
    Calls Try.prog 37 #[.pointer (some ⟨g, 0, none⟩)] w (WordEnd g w (wordF s e b).1 (wordF s e b).2.1 (wordF s e b).2.2.1 (wordF s e b).2.2.2) := by
  cases e with
  | true => exact word_end g s b w hg
  | false => exact word_go g s b hsz w hg
end Go.Proofs.Ytekpbgmmogpbdaa.H
set_option linter.unusedVariables false
set_option linter.unusedSimpArgs false
set_option maxRecDepth 100000
namespace Go.Proofs.Ytekpbgmmogpbdaa.H
open Go.RowKit Go.Proofs.YtekpbgmmogpbdaaW.PrintWords
def policy_reader_word.f (s : ByteArray) (e b : Bool) : Option (ByteArray × ByteArray × Bool × Bool) := if s.size ≤ 140737488351232 then some (wordF s e b) else none
theorem policy_reader_word.calls (g : Nat) (s0_0 : ByteArray) (s0_1 : Bool) (s0_2 : Bool) (r1 : ByteArray) (r2 : ByteArray) (r3 : Bool) (r4 : Bool) (w0 w : World) (hI : P.IsS65 w0 w g s0_0 s0_1 s0_2) (hB : Below w0.heap.size w0 w) (h : policy_reader_word.f s0_0 s0_1 s0_2 = some (r1, r2, r3, r4)) :
    Calls Try.prog 37 #[.pointer (some ⟨g, 0, none⟩)] w fun e w' => e = .returned (.string r1) ∧ P.IsS65 w0 w' g r2 r3 r4 ∧ Below w0.heap.size w0 w' ∧ KeepBut w w' g none := by
  unfold policy_reader_word.f at h
  split at h
  · rename_i hs
    have hw := Option.some.inj h
    refine (word_walk g s0_0 s0_1 s0_2 hs w hI.1).mono ?_
    rintro e w' ⟨h1, h2, h3, h4⟩
    rw [hw] at h1 h2
    exact ⟨h1, ⟨h2, hI.2⟩, hB.trans (h4.mono hI.2), h3⟩
  · simp at h
end Go.Proofs.Ytekpbgmmogpbdaa.H
namespace Go.Proofs.Ytekpbgmmogpbdaa.P
open Go.RowKit Go.Proofs.Ytekpbgmmogpbdaa.H Go.Proofs.YtekpbgmmogpbdaaW.PrintWords Go.Proofs.YtekpbgmmogpbdaaW.PrintLast Go.Proofs.YtekpbgmmogpbdaaW.PrintMore
attribute [local go_sem] max2_int min2_int max_two min_two max_three min_three max_four min_four
set_option linter.unusedVariables false
set_option linter.unusedSimpArgs false
def policy_reader_condition.f (s0_0 : ByteArray) (s0_1 : Bool) (s0_2 : Bool) : Option (Int × Int × Int × Int × ByteArray × Bool × Bool) := (policy_reader_word.f s0_0 s0_1 s0_2).bind fun bt133 => (if bt133.1.size + 1 ≤ 9223372036854775807 then ((policy_reader_word.f bt133.2.1 bt133.2.2.1 bt133.2.2.2).bind fun bt137 => (if (bt133.1 ++ (⟨#[32]⟩ : ByteArray)).size + bt137.1.size ≤ 9223372036854775807 then (if ((bt133.1 ++ (⟨#[32]⟩ : ByteArray)) ++ bt137.1).size + 1 ≤ 9223372036854775807 then ((policy_reader_word.f bt137.2.1 bt137.2.2.1 bt137.2.2.2).bind fun bt141 => (if (((bt133.1 ++ (⟨#[32]⟩ : ByteArray)) ++ bt137.1) ++ (⟨#[32]⟩ : ByteArray)).size + bt141.1.size ≤ 9223372036854775807 then (if ((((bt133.1 ++ (⟨#[32]⟩ : ByteArray)) ++ bt137.1) ++ (⟨#[32]⟩ : ByteArray)) ++ bt141.1).size + 1 ≤ 9223372036854775807 then ((policy_reader_word.f bt141.2.1 bt141.2.2.1 bt141.2.2.2).bind fun bt145 => (if (((((bt133.1 ++ (⟨#[32]⟩ : ByteArray)) ++ bt137.1) ++ (⟨#[32]⟩ : ByteArray)) ++ bt141.1) ++ (⟨#[32]⟩ : ByteArray)).size + bt145.1.size ≤ 9223372036854775807 then ((cond_Parse.f ((((((bt133.1 ++ (⟨#[32]⟩ : ByteArray)) ++ bt137.1) ++ (⟨#[32]⟩ : ByteArray)) ++ bt141.1) ++ (⟨#[32]⟩ : ByteArray)) ++ bt145.1)).bind fun bt149 => ((policy_reader_must.f bt145.2.1 bt145.2.2.1 bt145.2.2.2 bt149.2.2.2.2).bind fun bt155 => (some (bt149.1, bt149.2.1, bt149.2.2.1, bt149.2.2.2.1, bt155.1, bt155.2.1, bt155.2.2)))) else (none))) else (none)) else (none))) else (none)) else (none))) else (none))
set_option maxHeartbeats 8000000 in
set_option maxRecDepth 100000 in
theorem policy_reader_condition.calls (g : Nat) (s0_0 : ByteArray) (s0_1 : Bool) (s0_2 : Bool) (r1 : Int) (r2 : Int) (r3 : Int) (r4 : Int) (r5 : ByteArray) (r6 : Bool) (r7 : Bool) (w0 w : World) (hI : IsS65 w0 w g s0_0 s0_1 s0_2) (hB : Below w0.heap.size w0 w) (h : policy_reader_condition.f s0_0 s0_1 s0_2 = some (r1, r2, r3, r4, r5, r6, r7)) :
    Calls Try.prog 61 #[.pointer (some ⟨g, 0, none⟩)] w fun e w' => e = .returned (.agg #[.int .i64 r1, .int .i64 r2, .int .u64 r3, .int .u64 r4]) ∧ IsS65 w0 w' g r5 r6 r7 ∧ Below w0.heap.size w0 w' ∧ KeepBut w w' g none := by
  have hu61 := Try.underlying61
  have HI0 := Aside0.mk hI
  have HK := Aside0.mk (KeepBut.refl w g none)
  have HL := Aside0.mk hB.size
  clear hI
  have HW0 := Aside0.mk hB.size
  have HB := Aside0.mk hB
  clear hB
  have H : ((policy_reader_word.f s0_0 s0_1 s0_2).bind fun bt133 => (if bt133.1.size + 1 ≤ 9223372036854775807 then ((policy_reader_word.f bt133.2.1 bt133.2.2.1 bt133.2.2.2).bind fun bt137 => (if (bt133.1 ++ (⟨#[32]⟩ : ByteArray)).size + bt137.1.size ≤ 9223372036854775807 then (if ((bt133.1 ++ (⟨#[32]⟩ : ByteArray)) ++ bt137.1).size + 1 ≤ 9223372036854775807 then ((policy_reader_word.f bt137.2.1 bt137.2.2.1 bt137.2.2.2).bind fun bt141 => (if (((bt133.1 ++ (⟨#[32]⟩ : ByteArray)) ++ bt137.1) ++ (⟨#[32]⟩ : ByteArray)).size + bt141.1.size ≤ 9223372036854775807 then (if ((((bt133.1 ++ (⟨#[32]⟩ : ByteArray)) ++ bt137.1) ++ (⟨#[32]⟩ : ByteArray)) ++ bt141.1).size + 1 ≤ 9223372036854775807 then ((policy_reader_word.f bt141.2.1 bt141.2.2.1 bt141.2.2.2).bind fun bt145 => (if (((((bt133.1 ++ (⟨#[32]⟩ : ByteArray)) ++ bt137.1) ++ (⟨#[32]⟩ : ByteArray)) ++ bt141.1) ++ (⟨#[32]⟩ : ByteArray)).size + bt145.1.size ≤ 9223372036854775807 then ((cond_Parse.f ((((((bt133.1 ++ (⟨#[32]⟩ : ByteArray)) ++ bt137.1) ++ (⟨#[32]⟩ : ByteArray)) ++ bt141.1) ++ (⟨#[32]⟩ : ByteArray)) ++ bt145.1)).bind fun bt149 => ((policy_reader_must.f bt145.2.1 bt145.2.2.1 bt145.2.2.2 bt149.2.2.2.2).bind fun bt155 => (some (bt149.1, bt149.2.1, bt149.2.2.1, bt149.2.2.2.1, bt155.1, bt155.2.1, bt155.2.2)))) else (none))) else (none)) else (none))) else (none)) else (none))) else (none))) = some (r1, r2, r3, r4, r5, r6, r7) := h
  clear h
  replace H := Option.bind_eq_some_iff.mp H
  obtain ⟨⟨t133, t134, t135, t136⟩, A20, H⟩ := H
  replace H : (if t133.size + 1 ≤ 9223372036854775807 then ((policy_reader_word.f t134 t135 t136).bind fun bt137 => (if (t133 ++ (⟨#[32]⟩ : ByteArray)).size + bt137.1.size ≤ 9223372036854775807 then (if ((t133 ++ (⟨#[32]⟩ : ByteArray)) ++ bt137.1).size + 1 ≤ 9223372036854775807 then ((policy_reader_word.f bt137.2.1 bt137.2.2.1 bt137.2.2.2).bind fun bt141 => (if (((t133 ++ (⟨#[32]⟩ : ByteArray)) ++ bt137.1) ++ (⟨#[32]⟩ : ByteArray)).size + bt141.1.size ≤ 9223372036854775807 then (if ((((t133 ++ (⟨#[32]⟩ : ByteArray)) ++ bt137.1) ++ (⟨#[32]⟩ : ByteArray)) ++ bt141.1).size + 1 ≤ 9223372036854775807 then ((policy_reader_word.f bt141.2.1 bt141.2.2.1 bt141.2.2.2).bind fun bt145 => (if (((((t133 ++ (⟨#[32]⟩ : ByteArray)) ++ bt137.1) ++ (⟨#[32]⟩ : ByteArray)) ++ bt141.1) ++ (⟨#[32]⟩ : ByteArray)).size + bt145.1.size ≤ 9223372036854775807 then ((cond_Parse.f ((((((t133 ++ (⟨#[32]⟩ : ByteArray)) ++ bt137.1) ++ (⟨#[32]⟩ : ByteArray)) ++ bt141.1) ++ (⟨#[32]⟩ : ByteArray)) ++ bt145.1)).bind fun bt149 => ((policy_reader_must.f bt145.2.1 bt145.2.2.1 bt145.2.2.2 bt149.2.2.2.2).bind fun bt155 => (some (bt149.1, bt149.2.1, bt149.2.2.1, bt149.2.2.2.1, bt155.1, bt155.2.1, bt155.2.2)))) else (none))) else (none)) else (none))) else (none)) else (none))) else (none)) = some (r1, r2, r3, r4, r5, r6, r7) := H
  have A2 := Aside0.mk A20
  clear A20
  by_cases c3 : t133.size + 1 ≤ 9223372036854775807
  · rw [if_pos c3] at H
    have c3b0 := eq_true c3
    have c3b1 : decide (t133.size + 1 ≤ 9223372036854775807) = true := decide_eq_true c3
    try have c3b2 : (9223372036854775807 < t133.size + 1) = False := eq_false (Nat.not_lt.2 c3)
    replace H := Option.bind_eq_some_iff.mp H
    obtain ⟨⟨t137, t138, t139, t140⟩, A40, H⟩ := H
    replace H : (if (t133 ++ (⟨#[32]⟩ : ByteArray)).size + t137.size ≤ 9223372036854775807 then (if ((t133 ++ (⟨#[32]⟩ : ByteArray)) ++ t137).size + 1 ≤ 9223372036854775807 then ((policy_reader_word.f t138 t139 t140).bind fun bt141 => (if (((t133 ++ (⟨#[32]⟩ : ByteArray)) ++ t137) ++ (⟨#[32]⟩ : ByteArray)).size + bt141.1.size ≤ 9223372036854775807 then (if ((((t133 ++ (⟨#[32]⟩ : ByteArray)) ++ t137) ++ (⟨#[32]⟩ : ByteArray)) ++ bt141.1).size + 1 ≤ 9223372036854775807 then ((policy_reader_word.f bt141.2.1 bt141.2.2.1 bt141.2.2.2).bind fun bt145 => (if (((((t133 ++ (⟨#[32]⟩ : ByteArray)) ++ t137) ++ (⟨#[32]⟩ : ByteArray)) ++ bt141.1) ++ (⟨#[32]⟩ : ByteArray)).size + bt145.1.size ≤ 9223372036854775807 then ((cond_Parse.f ((((((t133 ++ (⟨#[32]⟩ : ByteArray)) ++ t137) ++ (⟨#[32]⟩ : ByteArray)) ++ bt141.1) ++ (⟨#[32]⟩ : ByteArray)) ++ bt145.1)).bind fun bt149 => ((policy_reader_must.f bt145.2.1 bt145.2.2.1 bt145.2.2.2 bt149.2.2.2.2).bind fun bt155 => (some (bt149.1, bt149.2.1, bt149.2.2.1, bt149.2.2.2.1, bt155.1, bt155.2.1, bt155.2.2)))) else (none))) else (none)) else (none))) else (none)) else (none)) = some (r1, r2, r3, r4, r5, r6, r7) := H
    have A4 := Aside0.mk A40
    clear A40
    by_cases c5 : (t133 ++ (⟨#[32]⟩ : ByteArray)).size + t137.size ≤ 9223372036854775807
    · rw [if_pos c5] at H
      have c5b0 := eq_true c5
      have c5b1 : decide ((t133 ++ (⟨#[32]⟩ : ByteArray)).size + t137.size ≤ 9223372036854775807) = true := decide_eq_true c5
      try have c5b2 : (9223372036854775807 < (t133 ++ (⟨#[32]⟩ : ByteArray)).size + t137.size) = False := eq_false (Nat.not_lt.2 c5)
      try have c5b3 : (9223372036854775807 < t133.size + 1 + t137.size) = False := by have h := c5b2; simp only [ByteArray.size_append] at h; exact h
      by_cases c6 : ((t133 ++ (⟨#[32]⟩ : ByteArray)) ++ t137).size + 1 ≤ 9223372036854775807
      · rw [if_pos c6] at H
        have c6b0 := eq_true c6
        have c6b1 : decide (((t133 ++ (⟨#[32]⟩ : ByteArray)) ++ t137).size + 1 ≤ 9223372036854775807) = true := decide_eq_true c6
        try have c6b2 : (9223372036854775807 < ((t133 ++ (⟨#[32]⟩ : ByteArray)) ++ t137).size + 1) = False := eq_false (Nat.not_lt.2 c6)
        try have c6b3 : (9223372036854775807 < t133.size + 1 + t137.size + 1) = False := by have h := c6b2; simp only [ByteArray.size_append] at h; exact h
        replace H := Option.bind_eq_some_iff.mp H
        obtain ⟨⟨t141, t142, t143, t144⟩, A70, H⟩ := H
        replace H : (if (((t133 ++ (⟨#[32]⟩ : ByteArray)) ++ t137) ++ (⟨#[32]⟩ : ByteArray)).size + t141.size ≤ 9223372036854775807 then (if ((((t133 ++ (⟨#[32]⟩ : ByteArray)) ++ t137) ++ (⟨#[32]⟩ : ByteArray)) ++ t141).size + 1 ≤ 9223372036854775807 then ((policy_reader_word.f t142 t143 t144).bind fun bt145 => (if (((((t133 ++ (⟨#[32]⟩ : ByteArray)) ++ t137) ++ (⟨#[32]⟩ : ByteArray)) ++ t141) ++ (⟨#[32]⟩ : ByteArray)).size + bt145.1.size ≤ 9223372036854775807 then ((cond_Parse.f ((((((t133 ++ (⟨#[32]⟩ : ByteArray)) ++ t137) ++ (⟨#[32]⟩ : ByteArray)) ++ t141) ++ (⟨#[32]⟩ : ByteArray)) ++ bt145.1)).bind fun bt149 => ((policy_reader_must.f bt145.2.1 bt145.2.2.1 bt145.2.2.2 bt149.2.2.2.2).bind fun bt155 => (some (bt149.1, bt149.2.1, bt149.2.2.1, bt149.2.2.2.1, bt155.1, bt155.2.1, bt155.2.2)))) else (none))) else (none)) else (none)) = some (r1, r2, r3, r4, r5, r6, r7) := H
        have A7 := Aside0.mk A70
        clear A70
        by_cases c8 : (((t133 ++ (⟨#[32]⟩ : ByteArray)) ++ t137) ++ (⟨#[32]⟩ : ByteArray)).size + t141.size ≤ 9223372036854775807
        · rw [if_pos c8] at H
          have c8b0 := eq_true c8
          have c8b1 : decide ((((t133 ++ (⟨#[32]⟩ : ByteArray)) ++ t137) ++ (⟨#[32]⟩ : ByteArray)).size + t141.size ≤ 9223372036854775807) = true := decide_eq_true c8
          try have c8b2 : (9223372036854775807 < (((t133 ++ (⟨#[32]⟩ : ByteArray)) ++ t137) ++ (⟨#[32]⟩ : ByteArray)).size + t141.size) = False := eq_false (Nat.not_lt.2 c8)
          try have c8b3 : (9223372036854775807 < t133.size + 1 + t137.size + 1 + t141.size) = False := by have h := c8b2; simp only [ByteArray.size_append] at h; exact h
          by_cases c9 : ((((t133 ++ (⟨#[32]⟩ : ByteArray)) ++ t137) ++ (⟨#[32]⟩ : ByteArray)) ++ t141).size + 1 ≤ 9223372036854775807
          · rw [if_pos c9] at H
            have c9b0 := eq_true c9
            have c9b1 : decide (((((t133 ++ (⟨#[32]⟩ : ByteArray)) ++ t137) ++ (⟨#[32]⟩ : ByteArray)) ++ t141).size + 1 ≤ 9223372036854775807) = true := decide_eq_true c9
            try have c9b2 : (9223372036854775807 < ((((t133 ++ (⟨#[32]⟩ : ByteArray)) ++ t137) ++ (⟨#[32]⟩ : ByteArray)) ++ t141).size + 1) = False := eq_false (Nat.not_lt.2 c9)
            try have c9b3 : (9223372036854775807 < t133.size + 1 + t137.size + 1 + t141.size + 1) = False := by have h := c9b2; simp only [ByteArray.size_append] at h; exact h
            replace H := Option.bind_eq_some_iff.mp H
            obtain ⟨⟨t145, t146, t147, t148⟩, A100, H⟩ := H
            replace H : (if (((((t133 ++ (⟨#[32]⟩ : ByteArray)) ++ t137) ++ (⟨#[32]⟩ : ByteArray)) ++ t141) ++ (⟨#[32]⟩ : ByteArray)).size + t145.size ≤ 9223372036854775807 then ((cond_Parse.f ((((((t133 ++ (⟨#[32]⟩ : ByteArray)) ++ t137) ++ (⟨#[32]⟩ : ByteArray)) ++ t141) ++ (⟨#[32]⟩ : ByteArray)) ++ t145)).bind fun bt149 => ((policy_reader_must.f t146 t147 t148 bt149.2.2.2.2).bind fun bt155 => (some (bt149.1, bt149.2.1, bt149.2.2.1, bt149.2.2.2.1, bt155.1, bt155.2.1, bt155.2.2)))) else (none)) = some (r1, r2, r3, r4, r5, r6, r7) := H
            have A10 := Aside0.mk A100
            clear A100
            by_cases c11 : (((((t133 ++ (⟨#[32]⟩ : ByteArray)) ++ t137) ++ (⟨#[32]⟩ : ByteArray)) ++ t141) ++ (⟨#[32]⟩ : ByteArray)).size + t145.size ≤ 9223372036854775807
            · rw [if_pos c11] at H
              have c11b0 := eq_true c11
              have c11b1 : decide ((((((t133 ++ (⟨#[32]⟩ : ByteArray)) ++ t137) ++ (⟨#[32]⟩ : ByteArray)) ++ t141) ++ (⟨#[32]⟩ : ByteArray)).size + t145.size ≤ 9223372036854775807) = true := decide_eq_true c11
              try have c11b2 : (9223372036854775807 < (((((t133 ++ (⟨#[32]⟩ : ByteArray)) ++ t137) ++ (⟨#[32]⟩ : ByteArray)) ++ t141) ++ (⟨#[32]⟩ : ByteArray)).size + t145.size) = False := eq_false (Nat.not_lt.2 c11)
              try have c11b3 : (9223372036854775807 < t133.size + 1 + t137.size + 1 + t141.size + 1 + t145.size) = False := by have h := c11b2; simp only [ByteArray.size_append] at h; exact h
              replace H := Option.bind_eq_some_iff.mp H
              obtain ⟨⟨t149, t150, t151, t152, t153⟩, A120, H⟩ := H
              replace H : ((policy_reader_must.f t146 t147 t148 t153).bind fun bt155 => (some (t149, t150, t151, t152, bt155.1, bt155.2.1, bt155.2.2))) = some (r1, r2, r3, r4, r5, r6, r7) := H
              have A12 := Aside0.mk A120
              clear A120
              replace H := Option.bind_eq_some_iff.mp H
              obtain ⟨⟨t155, t156, t157⟩, A130, H⟩ := H
              replace H : (some (t149, t150, t151, t152, t155, t156, t157)) = some (r1, r2, r3, r4, r5, r6, r7) := H
              have A13 := Aside0.mk A130
              clear A130
              simp only [Option.some.injEq, Prod.mk.injEq] at H
              obtain ⟨rfl, rfl, rfl, rfl, rfl, rfl, rfl⟩ := H
              go_enter Try.func61, Try.ntmps61
              go_wp2_with (first | ((with_reducible refine gate_dst (N := 2) rfl ?_); refine box_event ?hg (N := 2) ?hd (cs := #[.int .i64 0, .int .i64 0, .int .u64 0, .int .u64 0]) (t := 61) ?hr ?_; (case hd => rfl); (case hg => rfl); (case hr => first | (go_simp; done) | (go_simp; rfl)); intro gb132 hg w14 hbox hb; have n0_ := Aside0.mk (IsS65.below (by repeat (first | (with_reducible first | exact HI0.out | apply IsS65.alloc | apply IsS65.drewN | apply IsS65.drew | apply IsS65.set_0 | apply IsS65.set_1 | apply IsS65.set_2) | exact HI0.out)) hb); have n1_ := Aside0.mk (KeepBut.trans (by repeat (first | (with_reducible first | exact HK.out | apply KeepBut.set_ | apply keep_drewN | apply keep_drew | apply keep_alloc) | exact HK.out)) (KeepBut.of_below hb g none) (.inl rfl)); have n2_ := Aside0.mk (below_step (by repeat (first | (with_reducible first | exact HB.out | apply below_alloc | apply pw_below_drewN | apply below_drew1 | refine below_set ?_ (IsS65.ge HI0.out)) | exact HB.out)) hb); have n3_ := Aside0.mk (hbox); have n4_ := Aside0.mk ((by rw [hg]; exact (keep_size (w := w) (g := g) (row := none) (by repeat (first | (with_reducible first | exact HK.out | apply KeepBut.set_ | apply keep_drewN | apply keep_drew | apply keep_alloc) | exact HK.out))) : w.heap.size ≤ gb132)); have n5_ := Aside0.mk ((Nat.le_trans HW0.out (by rw [hg]; exact (keep_size (w := w) (g := g) (row := none) (by repeat (first | (with_reducible first | exact HK.out | apply KeepBut.set_ | apply keep_drewN | apply keep_drew | apply keep_alloc) | exact HK.out))) : w.heap.size ≤ gb132) : w0.heap.size ≤ gb132)); have n6_ := Aside0.mk ((by rw [hg]; exact Nat.ne_of_lt (IsS65.lt (show IsS65 w0 _ g s0_0 s0_1 s0_2 from by repeat (first | (with_reducible first | exact HI0.out | apply IsS65.alloc | apply IsS65.drewN | apply IsS65.drew | apply IsS65.set_0 | apply IsS65.set_1 | apply IsS65.set_2) | exact HI0.out))) : g ≠ gb132)); have n7_ := Aside0.mk ((by rw [hg]; exact Nat.ne_of_gt (IsS65.lt (show IsS65 w0 _ g s0_0 s0_1 s0_2 from by repeat (first | (with_reducible first | exact HI0.out | apply IsS65.alloc | apply IsS65.drewN | apply IsS65.drew | apply IsS65.set_0 | apply IsS65.set_1 | apply IsS65.set_2) | exact HI0.out))) : gb132 ≠ g)); clear HI0; clear HK; clear HB; have HI0 := n0_; have HK := n1_; have HB := n2_; have BK132 := n3_; have GW132 := n4_; have GE132 := n5_; have NB0_132 := n6_; have NB132_0 := n7_; clear n0_ n1_ n2_ n3_ n4_ n5_ n6_ n7_; clear hb hbox hg) | ((with_reducible refine gate_callee (f := 37) rfl ?_); refine goesL_ (some 7) rfl rfl Try.func37 (by kernel_rfl) rfl #[.pointer (some ⟨g, 0, none⟩)] rfl (by (try simp only [List.map_toArray, List.map_cons, List.map_nil]); first | done | rfl | (simp only [List.length_drop, List.length_take]; rfl)) ?_; (with_reducible refine (policy_reader_word.calls g s0_0 s0_1 s0_2 t133 t134 t135 t136 w0 _ ?side1 ?side2 A2.out).mono ?_); (case side1 => repeat (first | (with_reducible first | exact HI0.out | apply IsS65.alloc | apply IsS65.drewN | apply IsS65.drew | apply IsS65.set_0 | apply IsS65.set_1 | apply IsS65.set_2 | refine IsS65.far ?_ NB0_132.out _) | exact HI0.out)); (case side2 => repeat (first | (with_reducible first | exact HB.out | apply below_alloc | apply pw_below_drewN | apply below_drew1 | refine below_set ?_ (IsS65.ge HI0.out) | refine below_set ?_ GE132.out) | exact HB.out)); rintro e w15 ⟨rfl, hi, hb, hk⟩; refine ⟨_, rfl, ?_⟩; have n0_ := Aside0.mk (KeepBut.blk hk (g' := gb132) (o := .cells #[.int .i64 0, .int .i64 0, .int .u64 0, .int .u64 0] 61 (0, 0)) (by (with_reducible repeat (first | refine blk_drewN ?_ _ | refine blk_drew ?_ | refine blk_alloc ?_ _)); exact BK132.out) NB132_0.out (by simp)); have n1_ := Aside0.mk (KeepBut.trans (by repeat (first | (with_reducible first | exact HK.out | apply KeepBut.set_ | apply keep_drewN | apply keep_drew | apply keep_alloc | refine keep_far ?_ GW132.out _) | exact HK.out)) hk (.inl rfl)); have n2_ := Aside0.mk (hb); have n3_ := Aside0.mk (hi); clear BK132; clear HK; clear HB; clear HI0; have BK132 := n0_; have HK := n1_; have HB := n2_; have HI0 := n3_; clear n0_ n1_ n2_ n3_; (try clear hb); (try clear hb2); (try clear hk); (try clear hi)) | ((with_reducible refine gate_callee (f := 37) rfl ?_); refine goesL_ (some 10) rfl rfl Try.func37 (by kernel_rfl) rfl #[.pointer (some ⟨g, 0, none⟩)] rfl (by (try simp only [List.map_toArray, List.map_cons, List.map_nil]); first | done | rfl | (simp only [List.length_drop, List.length_take]; rfl)) ?_; (with_reducible refine (policy_reader_word.calls g t134 t135 t136 t137 t138 t139 t140 w0 _ ?side1 ?side2 A4.out).mono ?_); (case side1 => repeat (first | (with_reducible first | exact HI0.out | apply IsS65.alloc | apply IsS65.drewN | apply IsS65.drew | apply IsS65.set_0 | apply IsS65.set_1 | apply IsS65.set_2 | refine IsS65.far ?_ NB0_132.out _) | exact HI0.out)); (case side2 => repeat (first | (with_reducible first | exact HB.out | apply below_alloc | apply pw_below_drewN | apply below_drew1 | refine below_set ?_ (IsS65.ge HI0.out) | refine below_set ?_ GE132.out) | exact HB.out)); rintro e w16 ⟨rfl, hi, hb, hk⟩; refine ⟨_, rfl, ?_⟩; have n0_ := Aside0.mk (KeepBut.blk hk (g' := gb132) (o := .cells #[.int .i64 0, .int .i64 0, .int .u64 0, .int .u64 0] 61 (0, 0)) (by (with_reducible repeat (first | refine blk_drewN ?_ _ | refine blk_drew ?_ | refine blk_alloc ?_ _)); exact BK132.out) NB132_0.out (by simp)); have n1_ := Aside0.mk (KeepBut.trans (by repeat (first | (with_reducible first | exact HK.out | apply KeepBut.set_ | apply keep_drewN | apply keep_drew | apply keep_alloc | refine keep_far ?_ GW132.out _) | exact HK.out)) hk (.inl rfl)); have n2_ := Aside0.mk (hb); have n3_ := Aside0.mk (hi); clear BK132; clear HK; clear HB; clear HI0; have BK132 := n0_; have HK := n1_; have HB := n2_; have HI0 := n3_; clear n0_ n1_ n2_ n3_; (try clear hb); (try clear hb2); (try clear hk); (try clear hi)) | ((with_reducible refine gate_callee (f := 37) rfl ?_); refine goesL_ (some 14) rfl rfl Try.func37 (by kernel_rfl) rfl #[.pointer (some ⟨g, 0, none⟩)] rfl (by (try simp only [List.map_toArray, List.map_cons, List.map_nil]); first | done | rfl | (simp only [List.length_drop, List.length_take]; rfl)) ?_; (with_reducible refine (policy_reader_word.calls g t138 t139 t140 t141 t142 t143 t144 w0 _ ?side1 ?side2 A7.out).mono ?_); (case side1 => repeat (first | (with_reducible first | exact HI0.out | apply IsS65.alloc | apply IsS65.drewN | apply IsS65.drew | apply IsS65.set_0 | apply IsS65.set_1 | apply IsS65.set_2 | refine IsS65.far ?_ NB0_132.out _) | exact HI0.out)); (case side2 => repeat (first | (with_reducible first | exact HB.out | apply below_alloc | apply pw_below_drewN | apply below_drew1 | refine below_set ?_ (IsS65.ge HI0.out) | refine below_set ?_ GE132.out) | exact HB.out)); rintro e w17 ⟨rfl, hi, hb, hk⟩; refine ⟨_, rfl, ?_⟩; have n0_ := Aside0.mk (KeepBut.blk hk (g' := gb132) (o := .cells #[.int .i64 0, .int .i64 0, .int .u64 0, .int .u64 0] 61 (0, 0)) (by (with_reducible repeat (first | refine blk_drewN ?_ _ | refine blk_drew ?_ | refine blk_alloc ?_ _)); exact BK132.out) NB132_0.out (by simp)); have n1_ := Aside0.mk (KeepBut.trans (by repeat (first | (with_reducible first | exact HK.out | apply KeepBut.set_ | apply keep_drewN | apply keep_drew | apply keep_alloc | refine keep_far ?_ GW132.out _) | exact HK.out)) hk (.inl rfl)); have n2_ := Aside0.mk (hb); have n3_ := Aside0.mk (hi); clear BK132; clear HK; clear HB; clear HI0; have BK132 := n0_; have HK := n1_; have HB := n2_; have HI0 := n3_; clear n0_ n1_ n2_ n3_; (try clear hb); (try clear hb2); (try clear hk); (try clear hi)) | ((with_reducible refine gate_callee (f := 37) rfl ?_); refine goesL_ (some 18) rfl rfl Try.func37 (by kernel_rfl) rfl #[.pointer (some ⟨g, 0, none⟩)] rfl (by (try simp only [List.map_toArray, List.map_cons, List.map_nil]); first | done | rfl | (simp only [List.length_drop, List.length_take]; rfl)) ?_; (with_reducible refine (policy_reader_word.calls g t142 t143 t144 t145 t146 t147 t148 w0 _ ?side1 ?side2 A10.out).mono ?_); (case side1 => repeat (first | (with_reducible first | exact HI0.out | apply IsS65.alloc | apply IsS65.drewN | apply IsS65.drew | apply IsS65.set_0 | apply IsS65.set_1 | apply IsS65.set_2 | refine IsS65.far ?_ NB0_132.out _) | exact HI0.out)); (case side2 => repeat (first | (with_reducible first | exact HB.out | apply below_alloc | apply pw_below_drewN | apply below_drew1 | refine below_set ?_ (IsS65.ge HI0.out) | refine below_set ?_ GE132.out) | exact HB.out)); rintro e w18 ⟨rfl, hi, hb, hk⟩; refine ⟨_, rfl, ?_⟩; have n0_ := Aside0.mk (KeepBut.blk hk (g' := gb132) (o := .cells #[.int .i64 0, .int .i64 0, .int .u64 0, .int .u64 0] 61 (0, 0)) (by (with_reducible repeat (first | refine blk_drewN ?_ _ | refine blk_drew ?_ | refine blk_alloc ?_ _)); exact BK132.out) NB132_0.out (by simp)); have n1_ := Aside0.mk (KeepBut.trans (by repeat (first | (with_reducible first | exact HK.out | apply KeepBut.set_ | apply keep_drewN | apply keep_drew | apply keep_alloc | refine keep_far ?_ GW132.out _) | exact HK.out)) hk (.inl rfl)); have n2_ := Aside0.mk (hb); have n3_ := Aside0.mk (hi); clear BK132; clear HK; clear HB; clear HI0; have BK132 := n0_; have HK := n1_; have HB := n2_; have HI0 := n3_; clear n0_ n1_ n2_ n3_; (try clear hb); (try clear hb2); (try clear hk); (try clear hi)) | ((with_reducible refine gate_callee (f := 77) rfl ?_); refine goesL_ (some 22) rfl rfl Try.func77 (by kernel_rfl) rfl #[.string ((((((t133 ++ (⟨#[32]⟩ : ByteArray)) ++ t137) ++ (⟨#[32]⟩ : ByteArray)) ++ t141) ++ (⟨#[32]⟩ : ByteArray)) ++ t145)] rfl (by (try simp only [List.map_toArray, List.map_cons, List.map_nil]); first | done | rfl | (simp only [List.length_drop, List.length_take]; rfl)) ?_; (with_reducible refine (cond_Parse.calls ((((((t133 ++ (⟨#[32]⟩ : ByteArray)) ++ t137) ++ (⟨#[32]⟩ : ByteArray)) ++ t141) ++ (⟨#[32]⟩ : ByteArray)) ++ t145) t149 t150 t151 t152 t153 _ A12.out).mono ?_); rintro e w19 ⟨rfl, hb⟩; refine ⟨_, rfl, ?_⟩; have n0_ := Aside0.mk (IsS65.below (by repeat (first | (with_reducible first | exact HI0.out | apply IsS65.alloc | apply IsS65.drewN | apply IsS65.drew | apply IsS65.set_0 | apply IsS65.set_1 | apply IsS65.set_2 | refine IsS65.far ?_ NB0_132.out _) | exact HI0.out)) hb); have n1_ := Aside0.mk (blk_below (g := gb132) (o := .cells #[.int .i64 0, .int .i64 0, .int .u64 0, .int .u64 0] 61 (0, 0)) (by (with_reducible repeat (first | refine blk_drewN ?_ _ | refine blk_drew ?_ | refine blk_alloc ?_ _)); exact BK132.out) hb); have n2_ := Aside0.mk (KeepBut.trans (by repeat (first | (with_reducible first | exact HK.out | apply KeepBut.set_ | apply keep_drewN | apply keep_drew | apply keep_alloc | refine keep_far ?_ GW132.out _) | exact HK.out)) (KeepBut.of_below hb g none) (.inl rfl)); have n3_ := Aside0.mk (below_step (by repeat (first | (with_reducible first | exact HB.out | apply below_alloc | apply pw_below_drewN | apply below_drew1 | refine below_set ?_ (IsS65.ge HI0.out) | refine below_set ?_ GE132.out) | exact HB.out)) hb); clear HI0; clear BK132; clear HK; clear HB; have HI0 := n0_; have BK132 := n1_; have HK := n2_; have HB := n3_; clear n0_ n1_ n2_ n3_; (try clear hb); (try clear hb2); (try clear hk); (try clear hi)) | ((with_reducible refine gate_dst (N := 4) rfl ?_); refine box_event ?hg (N := 4) ?hd (cs := #[.int .i64 0, .int .i64 0, .int .u64 0, .int .u64 0]) (t := 61) ?hr ?_; (case hd => rfl); (case hg => rfl); (case hr => first | (go_simp; done) | (go_simp; rfl)); intro gb154 hg w20 hbox hb; have n0_ := Aside0.mk (IsS65.below (by repeat (first | (with_reducible first | exact HI0.out | apply IsS65.alloc | apply IsS65.drewN | apply IsS65.drew | apply IsS65.set_0 | apply IsS65.set_1 | apply IsS65.set_2 | refine IsS65.far ?_ NB0_132.out _) | exact HI0.out)) hb); have n1_ := Aside0.mk (blk_below (g := gb132) (o := .cells #[.int .i64 0, .int .i64 0, .int .u64 0, .int .u64 0] 61 (0, 0)) (by (with_reducible repeat (first | refine blk_drewN ?_ _ | refine blk_drew ?_ | refine blk_alloc ?_ _)); exact BK132.out) hb); have n2_ := Aside0.mk (KeepBut.trans (by repeat (first | (with_reducible first | exact HK.out | apply KeepBut.set_ | apply keep_drewN | apply keep_drew | apply keep_alloc | refine keep_far ?_ GW132.out _) | exact HK.out)) (KeepBut.of_below hb g none) (.inl rfl)); have n3_ := Aside0.mk (below_step (by repeat (first | (with_reducible first | exact HB.out | apply below_alloc | apply pw_below_drewN | apply below_drew1 | refine below_set ?_ (IsS65.ge HI0.out) | refine below_set ?_ GE132.out) | exact HB.out)) hb); have n4_ := Aside0.mk (hbox); have n5_ := Aside0.mk ((by rw [hg]; exact (keep_size (w := w) (g := g) (row := none) (by repeat (first | (with_reducible first | exact HK.out | apply KeepBut.set_ | apply keep_drewN | apply keep_drew | apply keep_alloc | refine keep_far ?_ GW132.out _) | exact HK.out))) : w.heap.size ≤ gb154)); have n6_ := Aside0.mk ((Nat.le_trans HW0.out (by rw [hg]; exact (keep_size (w := w) (g := g) (row := none) (by repeat (first | (with_reducible first | exact HK.out | apply KeepBut.set_ | apply keep_drewN | apply keep_drew | apply keep_alloc | refine keep_far ?_ GW132.out _) | exact HK.out))) : w.heap.size ≤ gb154) : w0.heap.size ≤ gb154)); have n7_ := Aside0.mk ((by rw [hg]; exact Nat.ne_of_lt (blk_lt (g := gb132) (o := .cells #[.int .i64 0, .int .i64 0, .int .u64 0, .int .u64 0] 61 (0, 0)) (by (with_reducible repeat (first | refine blk_drewN ?_ _ | refine blk_drew ?_ | refine blk_alloc ?_ _)); exact BK132.out)) : gb132 ≠ gb154)); have n8_ := Aside0.mk ((by rw [hg]; exact Nat.ne_of_gt (blk_lt (g := gb132) (o := .cells #[.int .i64 0, .int .i64 0, .int .u64 0, .int .u64 0] 61 (0, 0)) (by (with_reducible repeat (first | refine blk_drewN ?_ _ | refine blk_drew ?_ | refine blk_alloc ?_ _)); exact BK132.out)) : gb154 ≠ gb132)); have n9_ := Aside0.mk ((by rw [hg]; exact Nat.ne_of_lt (IsS65.lt (show IsS65 w0 _ g t146 t147 t148 from by repeat (first | (with_reducible first | exact HI0.out | apply IsS65.alloc | apply IsS65.drewN | apply IsS65.drew | apply IsS65.set_0 | apply IsS65.set_1 | apply IsS65.set_2 | refine IsS65.far ?_ NB0_132.out _) | exact HI0.out))) : g ≠ gb154)); have n10_ := Aside0.mk ((by rw [hg]; exact Nat.ne_of_gt (IsS65.lt (show IsS65 w0 _ g t146 t147 t148 from by repeat (first | (with_reducible first | exact HI0.out | apply IsS65.alloc | apply IsS65.drewN | apply IsS65.drew | apply IsS65.set_0 | apply IsS65.set_1 | apply IsS65.set_2 | refine IsS65.far ?_ NB0_132.out _) | exact HI0.out))) : gb154 ≠ g)); clear HI0; clear BK132; clear HK; clear HB; have HI0 := n0_; have BK132 := n1_; have HK := n2_; have HB := n3_; have BK154 := n4_; have GW154 := n5_; have GE154 := n6_; have NB132_154 := n7_; have NB154_132 := n8_; have NB0_154 := n9_; have NB154_0 := n10_; clear n0_ n1_ n2_ n3_ n4_ n5_ n6_ n7_ n8_ n9_ n10_; clear hb hbox hg; have hnb21 := NB154_132.out; have hnc21 := NB132_154.out; have hnb22 := NB154_0.out; have hnc22 := NB0_154.out; have hcz23_0 : w20.cell? ⟨gb154, 0, none⟩ = some (.int .i64 0) := (blk_cell BK154.out 0).trans rfl; have hcz23_1 : w20.cell? ⟨gb154, 1, none⟩ = some (.int .i64 0) := (blk_cell BK154.out 1).trans rfl; have hcz23_2 : w20.cell? ⟨gb154, 2, none⟩ = some (.int .u64 0) := (blk_cell BK154.out 2).trans rfl; have hcz23_3 : w20.cell? ⟨gb154, 3, none⟩ = some (.int .u64 0) := (blk_cell BK154.out 3).trans rfl; have hfz23_0 := blk_frozen BK154.out 0; have hfz23_1 := blk_frozen BK154.out 1; have hfz23_2 := blk_frozen BK154.out 2; have hfz23_3 := blk_frozen BK154.out 3) | ((with_reducible refine gate_callee (f := 40) rfl ?_); refine goesL_ (some 27) rfl rfl Try.func40 (by kernel_rfl) rfl #[.pointer (some ⟨g, 0, none⟩), .int .i64 t153] rfl (by (try simp only [List.map_toArray, List.map_cons, List.map_nil]); first | done | rfl | (simp only [List.length_drop, List.length_take]; rfl)) ?_; (with_reducible refine (policy_reader_must.calls g t146 t147 t148 t153 t155 t156 t157 w0 _ ?side1 ?side2 A13.out).mono ?_); (case side1 => repeat (first | (with_reducible first | exact HI0.out | apply IsS65.alloc | apply IsS65.drewN | apply IsS65.drew | apply IsS65.set_0 | apply IsS65.set_1 | apply IsS65.set_2 | refine IsS65.far ?_ NB0_132.out _ | refine IsS65.far ?_ NB0_154.out _) | exact HI0.out)); (case side2 => repeat (first | (with_reducible first | exact HB.out | apply below_alloc | apply pw_below_drewN | apply below_drew1 | refine below_set ?_ (IsS65.ge HI0.out) | refine below_set ?_ GE132.out | refine below_set ?_ GE154.out) | exact HB.out)); rintro e w24 ⟨rfl, hi, hb, hk⟩; refine ⟨_, rfl, ?_⟩; have n0_ := Aside0.mk (KeepBut.blk hk (g' := gb132) (o := .cells #[.int .i64 0, .int .i64 0, .int .u64 0, .int .u64 0] 61 (0, 0)) (by (with_reducible repeat (first | refine blk_drewN ?_ _ | refine blk_drew ?_ | refine blk_alloc ?_ _)); refine blk_far ?_ NB132_154.out _; (with_reducible repeat (first | refine blk_drewN ?_ _ | refine blk_drew ?_ | refine blk_alloc ?_ _)); refine blk_far ?_ NB132_154.out _; (with_reducible repeat (first | refine blk_drewN ?_ _ | refine blk_drew ?_ | refine blk_alloc ?_ _)); refine blk_far ?_ NB132_154.out _; (with_reducible repeat (first | refine blk_drewN ?_ _ | refine blk_drew ?_ | refine blk_alloc ?_ _)); refine blk_far ?_ NB132_154.out _; (with_reducible repeat (first | refine blk_drewN ?_ _ | refine blk_drew ?_ | refine blk_alloc ?_ _)); exact BK132.out) NB132_0.out (by simp)); have n1_ := Aside0.mk (KeepBut.blk hk (g' := gb154) (o := .cells #[.int .i64 t149, .int .i64 t150, .int .u64 t151, .int .u64 t152] 61 (0, 0)) (by (with_reducible repeat (first | refine blk_drewN ?_ _ | refine blk_drew ?_ | refine blk_alloc ?_ _)); refine blk_put (cs := #[.int .i64 t149, .int .i64 t150, .int .u64 t151, .int .u64 0]) ?_ 3 _ rfl; (with_reducible repeat (first | refine blk_drewN ?_ _ | refine blk_drew ?_ | refine blk_alloc ?_ _)); refine blk_put (cs := #[.int .i64 t149, .int .i64 t150, .int .u64 0, .int .u64 0]) ?_ 2 _ rfl; (with_reducible repeat (first | refine blk_drewN ?_ _ | refine blk_drew ?_ | refine blk_alloc ?_ _)); refine blk_put (cs := #[.int .i64 t149, .int .i64 0, .int .u64 0, .int .u64 0]) ?_ 1 _ rfl; (with_reducible repeat (first | refine blk_drewN ?_ _ | refine blk_drew ?_ | refine blk_alloc ?_ _)); refine blk_put (cs := #[.int .i64 0, .int .i64 0, .int .u64 0, .int .u64 0]) ?_ 0 _ rfl; (with_reducible repeat (first | refine blk_drewN ?_ _ | refine blk_drew ?_ | refine blk_alloc ?_ _)); exact BK154.out) NB154_0.out (by simp)); have n2_ := Aside0.mk (KeepBut.trans (by repeat (first | (with_reducible first | exact HK.out | apply KeepBut.set_ | apply keep_drewN | apply keep_drew | apply keep_alloc | refine keep_far ?_ GW132.out _ | refine keep_far ?_ GW154.out _) | exact HK.out)) hk (.inl rfl)); have n3_ := Aside0.mk (hb); have n4_ := Aside0.mk (hi); clear BK132; clear BK154; clear HK; clear HB; clear HI0; have BK132 := n0_; have BK154 := n1_; have HK := n2_; have HB := n3_; have HI0 := n4_; clear n0_ n1_ n2_ n3_ n4_; (try clear hb); (try clear hb2); (try clear hk); (try clear hi); have hcz25_0 : w24.cell? ⟨gb154, 0, none⟩ = some (.int .i64 t149) := (blk_cell BK154.out 0).trans rfl; have hcz25_1 : w24.cell? ⟨gb154, 1, none⟩ = some (.int .i64 t150) := (blk_cell BK154.out 1).trans rfl; have hcz25_2 : w24.cell? ⟨gb154, 2, none⟩ = some (.int .u64 t151) := (blk_cell BK154.out 2).trans rfl; have hcz25_3 : w24.cell? ⟨gb154, 3, none⟩ = some (.int .u64 t152) := (blk_cell BK154.out 3).trans rfl; have hfz25_0 := blk_frozen BK154.out 0; have hfz25_1 := blk_frozen BK154.out 1; have hfz25_2 := blk_frozen BK154.out 2; have hfz25_3 := blk_frozen BK154.out 3; have hnb26 := NB132_0.out; have hnc26 := NB0_132.out; have hcz27_0 : w24.cell? ⟨gb132, 0, none⟩ = some (.int .i64 0) := (blk_cell BK132.out 0).trans rfl; have hcz27_1 : w24.cell? ⟨gb132, 1, none⟩ = some (.int .i64 0) := (blk_cell BK132.out 1).trans rfl; have hcz27_2 : w24.cell? ⟨gb132, 2, none⟩ = some (.int .u64 0) := (blk_cell BK132.out 2).trans rfl; have hcz27_3 : w24.cell? ⟨gb132, 3, none⟩ = some (.int .u64 0) := (blk_cell BK132.out 3).trans rfl; have hfz27_0 := blk_frozen BK132.out 0; have hfz27_1 := blk_frozen BK132.out 1; have hfz27_2 := blk_frozen BK132.out 2; have hfz27_3 := blk_frozen BK132.out 3))
              refine bodyPost_ret (results_cell_row rfl _ _ gb132 61 #[.int .i64 t149, .int .i64 t150, .int .u64 t151, .int .u64 t152] (0, 0) _ rfl (by (with_reducible repeat (first | refine blk_drewN ?_ _ | refine blk_drew ?_ | refine blk_alloc ?_ _)); refine blk_put (cs := #[.int .i64 t149, .int .i64 t150, .int .u64 t151, .int .u64 0]) ?_ 3 _ rfl; (with_reducible repeat (first | refine blk_drewN ?_ _ | refine blk_drew ?_ | refine blk_alloc ?_ _)); refine blk_put (cs := #[.int .i64 t149, .int .i64 t150, .int .u64 0, .int .u64 0]) ?_ 2 _ rfl; (with_reducible repeat (first | refine blk_drewN ?_ _ | refine blk_drew ?_ | refine blk_alloc ?_ _)); refine blk_put (cs := #[.int .i64 t149, .int .i64 0, .int .u64 0, .int .u64 0]) ?_ 1 _ rfl; (with_reducible repeat (first | refine blk_drewN ?_ _ | refine blk_drew ?_ | refine blk_alloc ?_ _)); refine blk_put (cs := #[.int .i64 0, .int .i64 0, .int .u64 0, .int .u64 0]) ?_ 0 _ rfl; (with_reducible repeat (first | refine blk_drewN ?_ _ | refine blk_drew ?_ | refine blk_alloc ?_ _)); exact BK132.out) Try.underlying61 rfl (by kernel_rfl)) rfl ?_
              exact ⟨by first | rfl | (simp [errW_none, errW_some] <;> rfl) | (simp [*, errW_none, errW_some] <;> rfl), by repeat (first | (with_reducible first | exact HI0.out | apply IsS65.alloc | apply IsS65.drewN | apply IsS65.drew | apply IsS65.set_0 | apply IsS65.set_1 | apply IsS65.set_2 | refine IsS65.far ?_ NB0_132.out _ | refine IsS65.far ?_ NB0_154.out _) | exact HI0.out), by repeat (first | (with_reducible first | exact HB.out | apply below_alloc | apply pw_below_drewN | apply below_drew1 | refine below_set ?_ (IsS65.ge HI0.out) | refine below_set ?_ GE132.out | refine below_set ?_ GE154.out) | exact HB.out), by repeat (first | (with_reducible first | exact HK.out | apply KeepBut.set_ | apply keep_drewN | apply keep_drew | apply keep_alloc | refine keep_far ?_ GW132.out _ | refine keep_far ?_ GW154.out _) | exact HK.out)⟩
            · rw [if_neg c11] at H
              exact absurd H (by simp)
          · rw [if_neg c9] at H
            exact absurd H (by simp)
        · rw [if_neg c8] at H
          exact absurd H (by simp)
      · rw [if_neg c6] at H
        exact absurd H (by simp)
    · rw [if_neg c5] at H
      exact absurd H (by simp)
  · rw [if_neg c3] at H
    exact absurd H (by simp)
end Go.Proofs.Ytekpbgmmogpbdaa.P
namespace Go.Proofs.Ytekpbgmmogpbdaa.P
open Go.RowKit Go.Proofs.Ytekpbgmmogpbdaa.H Go.Proofs.YtekpbgmmogpbdaaW.PrintWords Go.Proofs.YtekpbgmmogpbdaaW.PrintLast Go.Proofs.YtekpbgmmogpbdaaW.PrintMore
attribute [local go_sem] max2_int min2_int max_two min_two max_three min_three max_four min_four
set_option linter.unusedVariables false
set_option linter.unusedSimpArgs false
mutual
def policy_reader_rest.l0 : Nat → ByteArray → ByteArray → Bool → Bool → Int → Int → List (S61) → Int → Option (Int × Int × (List (S61)) × Int × ByteArray × Bool × Bool)
  | 0, _, _, _, _, _, _, _, _ => none
  | k + 1, x5, x1000, x1001, x1002, x160000, x160001, x160002, x160003 => if x1001 = true then (policy_reader_rest.j1 k x5 false x1000 x1001 x1002 x160000 x160001 x160002 x160003) else (policy_reader_rest.j1 k x5 (!x1002) x1000 x1001 x1002 x160000 x160001 x160002 x160003)
def policy_reader_rest.j1 : Nat → ByteArray → Bool → ByteArray → Bool → Bool → Int → Int → List (S61) → Int → Option (Int × Int × (List (S61)) × Int × ByteArray × Bool × Bool)
  | 0, _, _, _, _, _, _, _, _, _ => none
  | k + 1, x5, x49, x1000, x1001, x1002, x160000, x160001, x160002, x160003 => if x49 = true then ((policy_reader_word.f x1000 x1001 x1002).bind fun bt187 => (if bt187.1.toList = x5.toList then ((policy_reader_condition.f bt187.2.1 bt187.2.2.1 bt187.2.2.2).bind fun bt191 => (if x160002.length < 4398046511104 then (policy_reader_rest.l0 k (⟨#[97, 110, 100]⟩ : ByteArray) bt191.2.2.2.2.1 bt191.2.2.2.2.2.1 bt191.2.2.2.2.2.2 x160000 x160001 (x160002 ++ [(⟨bt191.1, bt191.2.1, bt191.2.2.1, bt191.2.2.2.1⟩ : S61)]) x160003) else (none))) else ((policy_reader_condition.f bt187.2.1 bt187.2.2.1 true).bind fun bt201 => (if x160002.length < 4398046511104 then (policy_reader_rest.l0 k (⟨#[97, 110, 100]⟩ : ByteArray) bt201.2.2.2.2.1 bt201.2.2.2.2.2.1 bt201.2.2.2.2.2.2 x160000 x160001 (x160002 ++ [(⟨bt201.1, bt201.2.1, bt201.2.2.1, bt201.2.2.2.1⟩ : S61)]) x160003) else (none))))) else (if x1002 = true then (some (x160000, x160001, x160002, x160003, x1000, x1001, true)) else (some (x160000, x160001, x160002, x160003, x1000, x1001, decide ((x160002.length : Int) > 4))))
end
def policy_reader_rest.f (k : Nat) (s0_0 : ByteArray) (s0_1 : Bool) (s0_2 : Bool) : Option (Int × Int × (List (S61)) × Int × ByteArray × Bool × Bool) := (policy_reader_word.f s0_0 s0_1 s0_2).bind fun bt160 => ((names_ReadMachine.f bt160.1).bind fun bt164 => ((policy_reader_must.f bt160.2.1 bt160.2.2.1 bt160.2.2.2 bt164.2).bind fun bt166 => ((policy_reader_word.f bt166.1 bt166.2.1 bt166.2.2).bind fun bt169 => ((names_ReadCall.f bt164.1 bt169.1).bind fun bt173 => ((policy_reader_must.f bt169.2.1 bt169.2.2.1 bt169.2.2.2 bt173.2).bind fun bt175 => ((policy_reader_word.f bt175.1 bt175.2.1 bt175.2.2).bind fun bt178 => ((names_ReadAction.f bt178.1).bind fun bt182 => ((policy_reader_must.f bt178.2.1 bt178.2.2.1 bt178.2.2.2 bt182.2).bind fun bt184 => (policy_reader_rest.l0 k (⟨#[105, 102]⟩ : ByteArray) bt184.1 bt184.2.1 bt184.2.2 bt164.1 bt173.1 ([] : List (S61)) bt182.1)))))))))
def policy_reader_rest.T5 : Bool × List (List Nat × List Nat) := (true, [([], []), ([0], [0]), ([], []), ([2], [2]), ([1, 3, 3], [1, 3]), ([4], [4]), ([5], [5]), ([5], [5]), ([0, 1, 2, 3, 4, 5, 6], []), ([8, 6, 4, 0, 1, 2, 3, 4, 5, 6], [6, 8]), ([7, 9, 0, 1, 2, 3, 4, 5, 6, 7, 8, 9], [7])])
def policy_reader_rest.B5 : List Nat := [0, 1, 0, 4, 15, 31, 63, 63, 127, 383, 1023]
theorem policy_reader_rest.tab5 : rtab .any (opsOf Try.f38 5) = policy_reader_rest.T5 := by kernel_rfl
theorem policy_reader_rest.bits5 : waitsOk policy_reader_rest.T5.2 policy_reader_rest.B5 = true := by kernel_rfl
def policy_reader_rest.T13 : Bool × List (List Nat × List Nat) := (true, [([], []), ([0], [0]), ([], []), ([2], [2]), ([3], [3]), ([1, 4, 3], [1, 4]), ([0, 1, 2, 3, 4, 5], []), ([6, 5, 5, 0, 1, 2, 3, 4, 5], [5, 6])])
def policy_reader_rest.B13 : List Nat := [0, 1, 0, 4, 12, 31, 63, 127]
theorem policy_reader_rest.tab13 : rtab .any (opsOf Try.f38 13) = policy_reader_rest.T13 := by kernel_rfl
theorem policy_reader_rest.bits13 : waitsOk policy_reader_rest.T13.2 policy_reader_rest.B13 = true := by kernel_rfl
set_option maxHeartbeats 8000000 in
set_option maxRecDepth 100000 in
theorem policy_reader_rest.calls (k : Nat) (g : Nat) (s0_0 : ByteArray) (s0_1 : Bool) (s0_2 : Bool) (r1 : Int) (r2 : Int) (r3 : List (S61)) (r4 : Int) (r5 : ByteArray) (r6 : Bool) (r7 : Bool) (w0 w : World) (hI : IsS65 w0 w g s0_0 s0_1 s0_2) (hB : Below w0.heap.size w0 w) (h : policy_reader_rest.f k s0_0 s0_1 s0_2 = some (r1, r2, r3, r4, r5, r6, r7)) :
    Calls Try.prog 38 #[.pointer (some ⟨g, 0, none⟩)] w fun e w' => ∃ v2_ : Value, e = .returned (.agg #[.int .u32 r1, .int .u32 r2, v2_, .int .u32 r4]) ∧ Kd.R k61 61 w' w.heap.size (fun _ => True) v2_ r3 ∧ IsS65 w0 w' g r5 r6 r7 ∧ Below w0.heap.size w0 w' ∧ KeepBut w w' g none := by
  have hu40 := Try.underlying40
  have HI0 := Aside0.mk hI
  have HK := Aside0.mk (KeepBut.refl w g none)
  have HL := Aside0.mk hB.size
  clear hI
  have HW0 := Aside0.mk hB.size
  have HB := Aside0.mk hB
  clear hB
  have H : ((policy_reader_word.f s0_0 s0_1 s0_2).bind fun bt160 => ((names_ReadMachine.f bt160.1).bind fun bt164 => ((policy_reader_must.f bt160.2.1 bt160.2.2.1 bt160.2.2.2 bt164.2).bind fun bt166 => ((policy_reader_word.f bt166.1 bt166.2.1 bt166.2.2).bind fun bt169 => ((names_ReadCall.f bt164.1 bt169.1).bind fun bt173 => ((policy_reader_must.f bt169.2.1 bt169.2.2.1 bt169.2.2.2 bt173.2).bind fun bt175 => ((policy_reader_word.f bt175.1 bt175.2.1 bt175.2.2).bind fun bt178 => ((names_ReadAction.f bt178.1).bind fun bt182 => ((policy_reader_must.f bt178.2.1 bt178.2.2.1 bt178.2.2.2 bt182.2).bind fun bt184 => (policy_reader_rest.l0 k (⟨#[105, 102]⟩ : ByteArray) bt184.1 bt184.2.1 bt184.2.2 bt164.1 bt173.1 ([] : List (S61)) bt182.1)))))))))) = some (r1, r2, r3, r4, r5, r6, r7) := h
  clear h
  replace H := Option.bind_eq_some_iff.mp H
  obtain ⟨⟨t160, t161, t162, t163⟩, A20, H⟩ := H
  replace H : ((names_ReadMachine.f t160).bind fun bt164 => ((policy_reader_must.f t161 t162 t163 bt164.2).bind fun bt166 => ((policy_reader_word.f bt166.1 bt166.2.1 bt166.2.2).bind fun bt169 => ((names_ReadCall.f bt164.1 bt169.1).bind fun bt173 => ((policy_reader_must.f bt169.2.1 bt169.2.2.1 bt169.2.2.2 bt173.2).bind fun bt175 => ((policy_reader_word.f bt175.1 bt175.2.1 bt175.2.2).bind fun bt178 => ((names_ReadAction.f bt178.1).bind fun bt182 => ((policy_reader_must.f bt178.2.1 bt178.2.2.1 bt178.2.2.2 bt182.2).bind fun bt184 => (policy_reader_rest.l0 k (⟨#[105, 102]⟩ : ByteArray) bt184.1 bt184.2.1 bt184.2.2 bt164.1 bt173.1 ([] : List (S61)) bt182.1))))))))) = some (r1, r2, r3, r4, r5, r6, r7) := H
  have A2 := Aside0.mk A20
  clear A20
  replace H := Option.bind_eq_some_iff.mp H
  obtain ⟨⟨t164, t165⟩, A30, H⟩ := H
  replace H : ((policy_reader_must.f t161 t162 t163 t165).bind fun bt166 => ((policy_reader_word.f bt166.1 bt166.2.1 bt166.2.2).bind fun bt169 => ((names_ReadCall.f t164 bt169.1).bind fun bt173 => ((policy_reader_must.f bt169.2.1 bt169.2.2.1 bt169.2.2.2 bt173.2).bind fun bt175 => ((policy_reader_word.f bt175.1 bt175.2.1 bt175.2.2).bind fun bt178 => ((names_ReadAction.f bt178.1).bind fun bt182 => ((policy_reader_must.f bt178.2.1 bt178.2.2.1 bt178.2.2.2 bt182.2).bind fun bt184 => (policy_reader_rest.l0 k (⟨#[105, 102]⟩ : ByteArray) bt184.1 bt184.2.1 bt184.2.2 t164 bt173.1 ([] : List (S61)) bt182.1)))))))) = some (r1, r2, r3, r4, r5, r6, r7) := H
  have A3 := Aside0.mk A30
  clear A30
  replace H := Option.bind_eq_some_iff.mp H
  obtain ⟨⟨t166, t167, t168⟩, A40, H⟩ := H
  replace H : ((policy_reader_word.f t166 t167 t168).bind fun bt169 => ((names_ReadCall.f t164 bt169.1).bind fun bt173 => ((policy_reader_must.f bt169.2.1 bt169.2.2.1 bt169.2.2.2 bt173.2).bind fun bt175 => ((policy_reader_word.f bt175.1 bt175.2.1 bt175.2.2).bind fun bt178 => ((names_ReadAction.f bt178.1).bind fun bt182 => ((policy_reader_must.f bt178.2.1 bt178.2.2.1 bt178.2.2.2 bt182.2).bind fun bt184 => (policy_reader_rest.l0 k (⟨#[105, 102]⟩ : ByteArray) bt184.1 bt184.2.1 bt184.2.2 t164 bt173.1 ([] : List (S61)) bt182.1))))))) = some (r1, r2, r3, r4, r5, r6, r7) := H
  have A4 := Aside0.mk A40
  clear A40
  replace H := Option.bind_eq_some_iff.mp H
  obtain ⟨⟨t169, t170, t171, t172⟩, A50, H⟩ := H
  replace H : ((names_ReadCall.f t164 t169).bind fun bt173 => ((policy_reader_must.f t170 t171 t172 bt173.2).bind fun bt175 => ((policy_reader_word.f bt175.1 bt175.2.1 bt175.2.2).bind fun bt178 => ((names_ReadAction.f bt178.1).bind fun bt182 => ((policy_reader_must.f bt178.2.1 bt178.2.2.1 bt178.2.2.2 bt182.2).bind fun bt184 => (policy_reader_rest.l0 k (⟨#[105, 102]⟩ : ByteArray) bt184.1 bt184.2.1 bt184.2.2 t164 bt173.1 ([] : List (S61)) bt182.1)))))) = some (r1, r2, r3, r4, r5, r6, r7) := H
  have A5 := Aside0.mk A50
  clear A50
  replace H := Option.bind_eq_some_iff.mp H
  obtain ⟨⟨t173, t174⟩, A60, H⟩ := H
  replace H : ((policy_reader_must.f t170 t171 t172 t174).bind fun bt175 => ((policy_reader_word.f bt175.1 bt175.2.1 bt175.2.2).bind fun bt178 => ((names_ReadAction.f bt178.1).bind fun bt182 => ((policy_reader_must.f bt178.2.1 bt178.2.2.1 bt178.2.2.2 bt182.2).bind fun bt184 => (policy_reader_rest.l0 k (⟨#[105, 102]⟩ : ByteArray) bt184.1 bt184.2.1 bt184.2.2 t164 t173 ([] : List (S61)) bt182.1))))) = some (r1, r2, r3, r4, r5, r6, r7) := H
  have A6 := Aside0.mk A60
  clear A60
  replace H := Option.bind_eq_some_iff.mp H
  obtain ⟨⟨t175, t176, t177⟩, A70, H⟩ := H
  replace H : ((policy_reader_word.f t175 t176 t177).bind fun bt178 => ((names_ReadAction.f bt178.1).bind fun bt182 => ((policy_reader_must.f bt178.2.1 bt178.2.2.1 bt178.2.2.2 bt182.2).bind fun bt184 => (policy_reader_rest.l0 k (⟨#[105, 102]⟩ : ByteArray) bt184.1 bt184.2.1 bt184.2.2 t164 t173 ([] : List (S61)) bt182.1)))) = some (r1, r2, r3, r4, r5, r6, r7) := H
  have A7 := Aside0.mk A70
  clear A70
  replace H := Option.bind_eq_some_iff.mp H
  obtain ⟨⟨t178, t179, t180, t181⟩, A80, H⟩ := H
  replace H : ((names_ReadAction.f t178).bind fun bt182 => ((policy_reader_must.f t179 t180 t181 bt182.2).bind fun bt184 => (policy_reader_rest.l0 k (⟨#[105, 102]⟩ : ByteArray) bt184.1 bt184.2.1 bt184.2.2 t164 t173 ([] : List (S61)) bt182.1))) = some (r1, r2, r3, r4, r5, r6, r7) := H
  have A8 := Aside0.mk A80
  clear A80
  replace H := Option.bind_eq_some_iff.mp H
  obtain ⟨⟨t182, t183⟩, A90, H⟩ := H
  replace H : ((policy_reader_must.f t179 t180 t181 t183).bind fun bt184 => (policy_reader_rest.l0 k (⟨#[105, 102]⟩ : ByteArray) bt184.1 bt184.2.1 bt184.2.2 t164 t173 ([] : List (S61)) t182)) = some (r1, r2, r3, r4, r5, r6, r7) := H
  have A9 := Aside0.mk A90
  clear A90
  replace H := Option.bind_eq_some_iff.mp H
  obtain ⟨⟨t184, t185, t186⟩, A100, H⟩ := H
  replace H : (policy_reader_rest.l0 k (⟨#[105, 102]⟩ : ByteArray) t184 t185 t186 t164 t173 ([] : List (S61)) t182) = some (r1, r2, r3, r4, r5, r6, r7) := H
  have A10 := Aside0.mk A100
  clear A100
  have H' := Aside0.mk H
  clear H
  go_enter Try.func38, Try.ntmps38
  try go_wp2_with (first | ((with_reducible refine gate_dst (N := 2) rfl ?_); (try (refine gate_guard (by rfl) ?_; dsimp only)); refine box_event ?hg (N := 2) ?hd (cs := #[.int .u32 0, .int .u32 0, .slice none 0 0, .int .u32 0]) (t := 40) ?hr ?_; (case hd => rfl); (case hg => rfl); (case hr => first | (go_simp; done) | (go_simp; rfl)); intro gb158 hg w11 hbox hb; have n0_ := Aside0.mk (IsS65.below (by repeat (first | (with_reducible first | exact HI0.out | apply IsS65.alloc | apply IsS65.drewN | apply IsS65.drew | apply IsS65.set_0 | apply IsS65.set_1 | apply IsS65.set_2) | exact HI0.out)) hb); have n1_ := Aside0.mk (KeepBut.trans (by repeat (first | (with_reducible first | exact HK.out | apply KeepBut.set_ | apply keep_drewN | apply keep_drew | apply keep_alloc) | exact HK.out)) (KeepBut.of_below hb g none) (.inl rfl)); have n2_ := Aside0.mk (below_step (by repeat (first | (with_reducible first | exact HB.out | apply below_alloc | apply pw_below_drewN | apply below_drew1 | refine below_set ?_ (IsS65.ge HI0.out)) | exact HB.out)) hb); have n3_ := Aside0.mk (hbox); have n4_ := Aside0.mk ((by rw [hg]; exact (keep_size (w := w) (g := g) (row := none) (by repeat (first | (with_reducible first | exact HK.out | apply KeepBut.set_ | apply keep_drewN | apply keep_drew | apply keep_alloc) | exact HK.out))) : w.heap.size ≤ gb158)); have n5_ := Aside0.mk ((Nat.le_trans HW0.out (by rw [hg]; exact (keep_size (w := w) (g := g) (row := none) (by repeat (first | (with_reducible first | exact HK.out | apply KeepBut.set_ | apply keep_drewN | apply keep_drew | apply keep_alloc) | exact HK.out))) : w.heap.size ≤ gb158) : w0.heap.size ≤ gb158)); have n6_ := Aside0.mk ((by rw [hg]; exact Nat.ne_of_lt (IsS65.lt (show IsS65 w0 _ g s0_0 s0_1 s0_2 from by repeat (first | (with_reducible first | exact HI0.out | apply IsS65.alloc | apply IsS65.drewN | apply IsS65.drew | apply IsS65.set_0 | apply IsS65.set_1 | apply IsS65.set_2) | exact HI0.out))) : g ≠ gb158)); have n7_ := Aside0.mk ((by rw [hg]; exact Nat.ne_of_gt (IsS65.lt (show IsS65 w0 _ g s0_0 s0_1 s0_2 from by repeat (first | (with_reducible first | exact HI0.out | apply IsS65.alloc | apply IsS65.drewN | apply IsS65.drew | apply IsS65.set_0 | apply IsS65.set_1 | apply IsS65.set_2) | exact HI0.out))) : gb158 ≠ g)); clear HI0; clear HK; clear HB; have HI0 := n0_; have HK := n1_; have HB := n2_; have BK158 := n3_; have GW158 := n4_; have GE158 := n5_; have NB0_158 := n6_; have NB158_0 := n7_; clear n0_ n1_ n2_ n3_ n4_ n5_ n6_ n7_; clear hb hbox hg) | ((with_reducible refine gate_dst (N := 3) rfl ?_); (try (refine gate_guard (by rfl) ?_; dsimp only)); refine box_event ?hg (N := 3) ?hd (cs := #[.int .u32 0, .int .u32 0, .slice none 0 0, .int .u32 0]) (t := 40) ?hr ?_; (case hd => rfl); (case hg => rfl); (case hr => first | (go_simp; done) | (go_simp; rfl)); intro gb159 hg w12 hbox hb; have n0_ := Aside0.mk (IsS65.below (by repeat (first | (with_reducible first | exact HI0.out | apply IsS65.alloc | apply IsS65.drewN | apply IsS65.drew | apply IsS65.set_0 | apply IsS65.set_1 | apply IsS65.set_2 | refine IsS65.far ?_ NB0_158.out _) | exact HI0.out)) hb); have n1_ := Aside0.mk (blk_below (g := gb158) (o := .cells #[.int .u32 0, .int .u32 0, .slice none 0 0, .int .u32 0] 40 (0, 0)) (by (with_reducible repeat (first | refine blk_drewN ?_ _ | refine blk_drew ?_ | refine blk_alloc ?_ _)); exact BK158.out) hb); have n2_ := Aside0.mk (KeepBut.trans (by repeat (first | (with_reducible first | exact HK.out | apply KeepBut.set_ | apply keep_drewN | apply keep_drew | apply keep_alloc | refine keep_far ?_ GW158.out _) | exact HK.out)) (KeepBut.of_below hb g none) (.inl rfl)); have n3_ := Aside0.mk (below_step (by repeat (first | (with_reducible first | exact HB.out | apply below_alloc | apply pw_below_drewN | apply below_drew1 | refine below_set ?_ (IsS65.ge HI0.out) | refine below_set ?_ GE158.out) | exact HB.out)) hb); have n4_ := Aside0.mk (hbox); have n5_ := Aside0.mk ((by rw [hg]; exact (keep_size (w := w) (g := g) (row := none) (by repeat (first | (with_reducible first | exact HK.out | apply KeepBut.set_ | apply keep_drewN | apply keep_drew | apply keep_alloc | refine keep_far ?_ GW158.out _) | exact HK.out))) : w.heap.size ≤ gb159)); have n6_ := Aside0.mk ((Nat.le_trans HW0.out (by rw [hg]; exact (keep_size (w := w) (g := g) (row := none) (by repeat (first | (with_reducible first | exact HK.out | apply KeepBut.set_ | apply keep_drewN | apply keep_drew | apply keep_alloc | refine keep_far ?_ GW158.out _) | exact HK.out))) : w.heap.size ≤ gb159) : w0.heap.size ≤ gb159)); have n7_ := Aside0.mk ((by rw [hg]; exact Nat.ne_of_lt (blk_lt (g := gb158) (o := .cells #[.int .u32 0, .int .u32 0, .slice none 0 0, .int .u32 0] 40 (0, 0)) (by (with_reducible repeat (first | refine blk_drewN ?_ _ | refine blk_drew ?_ | refine blk_alloc ?_ _)); exact BK158.out)) : gb158 ≠ gb159)); have n8_ := Aside0.mk ((by rw [hg]; exact Nat.ne_of_gt (blk_lt (g := gb158) (o := .cells #[.int .u32 0, .int .u32 0, .slice none 0 0, .int .u32 0] 40 (0, 0)) (by (with_reducible repeat (first | refine blk_drewN ?_ _ | refine blk_drew ?_ | refine blk_alloc ?_ _)); exact BK158.out)) : gb159 ≠ gb158)); have n9_ := Aside0.mk ((by rw [hg]; exact Nat.ne_of_lt (IsS65.lt (show IsS65 w0 _ g s0_0 s0_1 s0_2 from by repeat (first | (with_reducible first | exact HI0.out | apply IsS65.alloc | apply IsS65.drewN | apply IsS65.drew | apply IsS65.set_0 | apply IsS65.set_1 | apply IsS65.set_2 | refine IsS65.far ?_ NB0_158.out _) | exact HI0.out))) : g ≠ gb159)); have n10_ := Aside0.mk ((by rw [hg]; exact Nat.ne_of_gt (IsS65.lt (show IsS65 w0 _ g s0_0 s0_1 s0_2 from by repeat (first | (with_reducible first | exact HI0.out | apply IsS65.alloc | apply IsS65.drewN | apply IsS65.drew | apply IsS65.set_0 | apply IsS65.set_1 | apply IsS65.set_2 | refine IsS65.far ?_ NB0_158.out _) | exact HI0.out))) : gb159 ≠ g)); clear HI0; clear BK158; clear HK; clear HB; have HI0 := n0_; have BK158 := n1_; have HK := n2_; have HB := n3_; have BK159 := n4_; have GW159 := n5_; have GE159 := n6_; have NB158_159 := n7_; have NB159_158 := n8_; have NB0_159 := n9_; have NB159_0 := n10_; clear n0_ n1_ n2_ n3_ n4_ n5_ n6_ n7_ n8_ n9_ n10_; clear hb hbox hg) | ((with_reducible refine gate_callee (f := 37) rfl ?_); refine goesL_ (some 8) rfl rfl Try.func37 (by kernel_rfl) rfl #[.pointer (some ⟨g, 0, none⟩)] rfl (by (try simp only [List.map_toArray, List.map_cons, List.map_nil]); first | done | rfl | (simp only [List.length_drop, List.length_take]; rfl)) ?_; (with_reducible refine (policy_reader_word.calls g s0_0 s0_1 s0_2 t160 t161 t162 t163 w0 _ ?side1 ?side2 A2.out).mono ?_); (case side1 => repeat (first | (with_reducible first | exact HI0.out | apply IsS65.alloc | apply IsS65.drewN | apply IsS65.drew | apply IsS65.set_0 | apply IsS65.set_1 | apply IsS65.set_2 | refine IsS65.far ?_ NB0_158.out _ | refine IsS65.far ?_ NB0_159.out _) | exact HI0.out)); (case side2 => repeat (first | (with_reducible first | exact HB.out | apply below_alloc | apply pw_below_drewN | apply below_drew1 | refine below_set ?_ (IsS65.ge HI0.out) | refine below_set ?_ GE158.out | refine below_set ?_ GE159.out) | exact HB.out)); rintro e w13 ⟨rfl, hi, hb, hk⟩; refine ⟨_, rfl, ?_⟩; have n0_ := Aside0.mk (KeepBut.blk hk (g' := gb158) (o := .cells #[.int .u32 0, .int .u32 0, .slice none 0 0, .int .u32 0] 40 (0, 0)) (by (with_reducible repeat (first | refine blk_drewN ?_ _ | refine blk_drew ?_ | refine blk_alloc ?_ _)); exact BK158.out) NB158_0.out (by simp)); have n1_ := Aside0.mk (KeepBut.blk hk (g' := gb159) (o := .cells #[.int .u32 0, .int .u32 0, .slice none 0 0, .int .u32 0] 40 (0, 0)) (by (with_reducible repeat (first | refine blk_drewN ?_ _ | refine blk_drew ?_ | refine blk_alloc ?_ _)); exact BK159.out) NB159_0.out (by simp)); have n2_ := Aside0.mk (KeepBut.trans (by repeat (first | (with_reducible first | exact HK.out | apply KeepBut.set_ | apply keep_drewN | apply keep_drew | apply keep_alloc | refine keep_far ?_ GW158.out _ | refine keep_far ?_ GW159.out _) | exact HK.out)) hk (.inl rfl)); have n3_ := Aside0.mk (hb); have n4_ := Aside0.mk (hi); clear BK158; clear BK159; clear HK; clear HB; clear HI0; have BK158 := n0_; have BK159 := n1_; have HK := n2_; have HB := n3_; have HI0 := n4_; clear n0_ n1_ n2_ n3_ n4_; (try clear hb); (try clear hb2); (try clear hk); (try clear hi)) | ((with_reducible refine gate_callee (f := 59) rfl ?_); refine goesL_ (some 9) rfl rfl Try.func59 (by kernel_rfl) rfl #[.string t160] rfl (by (try simp only [List.map_toArray, List.map_cons, List.map_nil]); first | done | rfl | (simp only [List.length_drop, List.length_take]; rfl)) ?_; (with_reducible refine (names_ReadMachine.calls t160 t164 t165 _ A3.out).mono ?_); rintro e w14 ⟨rfl, hb⟩; refine ⟨_, rfl, ?_⟩; have n0_ := Aside0.mk (IsS65.below (by repeat (first | (with_reducible first | exact HI0.out | apply IsS65.alloc | apply IsS65.drewN | apply IsS65.drew | apply IsS65.set_0 | apply IsS65.set_1 | apply IsS65.set_2 | refine IsS65.far ?_ NB0_158.out _ | refine IsS65.far ?_ NB0_159.out _) | exact HI0.out)) hb); have n1_ := Aside0.mk (blk_below (g := gb158) (o := .cells #[.int .u32 0, .int .u32 0, .slice none 0 0, .int .u32 0] 40 (0, 0)) (by (with_reducible repeat (first | refine blk_drewN ?_ _ | refine blk_drew ?_ | refine blk_alloc ?_ _)); exact BK158.out) hb); have n2_ := Aside0.mk (blk_below (g := gb159) (o := .cells #[.int .u32 0, .int .u32 0, .slice none 0 0, .int .u32 0] 40 (0, 0)) (by (with_reducible repeat (first | refine blk_drewN ?_ _ | refine blk_drew ?_ | refine blk_alloc ?_ _)); exact BK159.out) hb); have n3_ := Aside0.mk (KeepBut.trans (by repeat (first | (with_reducible first | exact HK.out | apply KeepBut.set_ | apply keep_drewN | apply keep_drew | apply keep_alloc | refine keep_far ?_ GW158.out _ | refine keep_far ?_ GW159.out _) | exact HK.out)) (KeepBut.of_below hb g none) (.inl rfl)); have n4_ := Aside0.mk (below_step (by repeat (first | (with_reducible first | exact HB.out | apply below_alloc | apply pw_below_drewN | apply below_drew1 | refine below_set ?_ (IsS65.ge HI0.out) | refine below_set ?_ GE158.out | refine below_set ?_ GE159.out) | exact HB.out)) hb); clear HI0; clear BK158; clear BK159; clear HK; clear HB; have HI0 := n0_; have BK158 := n1_; have BK159 := n2_; have HK := n3_; have HB := n4_; clear n0_ n1_ n2_ n3_ n4_; (try clear hb); (try clear hb2); (try clear hk); (try clear hi); have hnb15 := NB159_158.out; have hnc15 := NB158_159.out; have hnb16 := NB159_0.out; have hnc16 := NB0_159.out; have hcz17_0 : w14.cell? ⟨gb159, 0, none⟩ = some (.int .u32 0) := (blk_cell BK159.out 0).trans rfl; have hcz17_1 : w14.cell? ⟨gb159, 1, none⟩ = some (.int .u32 0) := (blk_cell BK159.out 1).trans rfl; have hcz17_2 : w14.cell? ⟨gb159, 2, none⟩ = some (.slice none 0 0) := (blk_cell BK159.out 2).trans rfl; have hcz17_3 : w14.cell? ⟨gb159, 3, none⟩ = some (.int .u32 0) := (blk_cell BK159.out 3).trans rfl; have hfz17_0 := blk_frozen BK159.out 0; have hfz17_1 := blk_frozen BK159.out 1; have hfz17_2 := blk_frozen BK159.out 2; have hfz17_3 := blk_frozen BK159.out 3) | ((with_reducible refine gate_callee (f := 40) rfl ?_); refine goesL_ (some 15) rfl rfl Try.func40 (by kernel_rfl) rfl #[.pointer (some ⟨g, 0, none⟩), .int .i64 t165] rfl (by (try simp only [List.map_toArray, List.map_cons, List.map_nil]); first | done | rfl | (simp only [List.length_drop, List.length_take]; rfl)) ?_; (with_reducible refine (policy_reader_must.calls g t161 t162 t163 t165 t166 t167 t168 w0 _ ?side1 ?side2 A4.out).mono ?_); (case side1 => repeat (first | (with_reducible first | exact HI0.out | apply IsS65.alloc | apply IsS65.drewN | apply IsS65.drew | apply IsS65.set_0 | apply IsS65.set_1 | apply IsS65.set_2 | refine IsS65.far ?_ NB0_158.out _ | refine IsS65.far ?_ NB0_159.out _) | exact HI0.out)); (case side2 => repeat (first | (with_reducible first | exact HB.out | apply below_alloc | apply pw_below_drewN | apply below_drew1 | refine below_set ?_ (IsS65.ge HI0.out) | refine below_set ?_ GE158.out | refine below_set ?_ GE159.out) | exact HB.out)); rintro e w18 ⟨rfl, hi, hb, hk⟩; refine ⟨_, rfl, ?_⟩; have n0_ := Aside0.mk (KeepBut.blk hk (g' := gb158) (o := .cells #[.int .u32 0, .int .u32 0, .slice none 0 0, .int .u32 0] 40 (0, 0)) (by (with_reducible repeat (first | refine blk_drewN ?_ _ | refine blk_drew ?_ | refine blk_alloc ?_ _)); refine blk_far ?_ NB158_159.out _; (with_reducible repeat (first | refine blk_drewN ?_ _ | refine blk_drew ?_ | refine blk_alloc ?_ _)); exact BK158.out) NB158_0.out (by simp)); have n1_ := Aside0.mk (KeepBut.blk hk (g' := gb159) (o := .cells #[.int .u32 t164, .int .u32 0, .slice none 0 0, .int .u32 0] 40 (0, 0)) (by (with_reducible repeat (first | refine blk_drewN ?_ _ | refine blk_drew ?_ | refine blk_alloc ?_ _)); refine blk_put (cs := #[.int .u32 0, .int .u32 0, .slice none 0 0, .int .u32 0]) ?_ 0 _ rfl; (with_reducible repeat (first | refine blk_drewN ?_ _ | refine blk_drew ?_ | refine blk_alloc ?_ _)); exact BK159.out) NB159_0.out (by simp)); have n2_ := Aside0.mk (KeepBut.trans (by repeat (first | (with_reducible first | exact HK.out | apply KeepBut.set_ | apply keep_drewN | apply keep_drew | apply keep_alloc | refine keep_far ?_ GW158.out _ | refine keep_far ?_ GW159.out _) | exact HK.out)) hk (.inl rfl)); have n3_ := Aside0.mk (hb); have n4_ := Aside0.mk (hi); clear BK158; clear BK159; clear HK; clear HB; clear HI0; have BK158 := n0_; have BK159 := n1_; have HK := n2_; have HB := n3_; have HI0 := n4_; clear n0_ n1_ n2_ n3_ n4_; (try clear hb); (try clear hb2); (try clear hk); (try clear hi)))
  have n0_ := Aside0.mk (blk_drew BK158.out)
  have n1_ := Aside0.mk (blk_drew BK159.out)
  have n2_ := Aside0.mk (IsS65.drew HI0.out)
  have n3_ := Aside0.mk (keep_drew HK.out)
  have n4_ := Aside0.mk (below_drew1 HB.out)
  clear BK158
  clear BK159
  clear HI0
  clear HK
  clear HB
  have BK158 := n0_
  have BK159 := n1_
  have HI0 := n2_
  have HK := n3_
  have HB := n4_
  clear n0_ n1_ n2_ n3_ n4_
  refine start_ (n := 11) (S := fun w' => w'.cell? ⟨gb159, 0, none⟩ = some (.int .u32 t164) ∧ w'.cell? ⟨gb159, 1, none⟩ = some (.int .u32 0) ∧ w'.cell? ⟨gb159, 2, none⟩ = some (.slice none 0 0) ∧ w'.cell? ⟨gb159, 3, none⟩ = some (.int .u32 0)) (ds := [9]) #[false, false, false, false, false, false, false, false, false, false, false] (by kernel_rfl) rfl rfl ⟨(blk_cell BK159.out 0).trans rfl, (blk_cell BK159.out 1).trans rfl, (blk_cell BK159.out 2).trans rfl, (blk_cell BK159.out 3).trans rfl⟩ (fun hHeld => ?_); refine with_tabW policy_reader_rest.tab5 policy_reader_rest.bits5 (fun HT_ HW_ => ?_)
  generalize w18.drew = w19 at BK158 BK159 HI0 HK HB hHeld ⊢
  refine pure_ (i := 0) (N := some 17) (v := ?_) (a' := ?_) #[true, false, false, false, false, false, false, false, false, false, false] rfl rfl (any_of HT_.out (by kernel_rfl)) (fun _ _ _ h => h) (Or.inl ⟨by rfl, ?_⟩) ?_ ?_
  rotate_left
  · intro w'
    go_simp
    with_reducible rfl
  rotate_left
  · simp only [Act.put, List.setIfInBounds_toArray, List.set_cons_zero, List.set_cons_succ, i64_w, i32_w]
    rfl
  refine pure_ (i := 2) (N := some 19) (v := ?_) (a' := ?_) #[true, false, true, false, false, false, false, false, false, false, false] rfl rfl (any_of HT_.out (by kernel_rfl)) (fun _ _ _ h => h) (Or.inl ⟨by rfl, ?_⟩) ?_ ?_
  rotate_left
  · intro w'
    go_simp
    with_reducible rfl
  rotate_left
  · simp only [Act.put, List.setIfInBounds_toArray, List.set_cons_zero, List.set_cons_succ, i64_w, i32_w]
    rfl
  refine take_ (i := 1) (N := some 18) (v := ?_) (a' := ?_) #[true, true, true, false, false, false, false, false, false, false, false] rfl rfl (take_ofW HT_.out HW_.out (by kernel_rfl)) (fun _ _ _ h => h) (Or.inl ⟨by rfl, ?_⟩) hHeld ?_ ?_
  rotate_left
  · rintro w' ⟨s0, s1, s2, s3⟩
    go_simp
    with_reducible rfl
  rotate_left
  · simp only [Act.put, List.setIfInBounds_toArray, List.set_cons_zero, List.set_cons_succ, i64_w, i32_w]
    rfl
  refine one_ (i := 3) (N := some 20) #[true, true, true, true, false, false, false, false, false, false, false] rfl rfl (one_of HT_.out (by kernel_rfl)) (by decide) (fun K hK => ?_)
  refine goes_ Try.func37 (by kernel_rfl) rfl #[.pointer (some ⟨g, 0, none⟩)] (by rfl) rfl rfl (by (try simp only [List.map_toArray, List.map_cons, List.map_nil]); first | done | rfl | (simp only [List.length_drop, List.length_take]; rfl)) ?_
  with_reducible refine (policy_reader_word.calls g t166 t167 t168 t169 t170 t171 t172 w0 _ ?side1 ?side2 A5.out).mono ?_
  (case side1 => repeat (first | (with_reducible first | exact HI0.out | apply IsS65.alloc | apply IsS65.drewN | apply IsS65.drew | apply IsS65.set_0 | apply IsS65.set_1 | apply IsS65.set_2 | refine IsS65.far ?_ NB0_158.out _ | refine IsS65.far ?_ NB0_159.out _) | exact HI0.out))
  (case side2 => repeat (first | (with_reducible first | exact HB.out | apply below_alloc | apply pw_below_drewN | apply below_drew1 | refine below_set ?_ (IsS65.ge HI0.out) | refine below_set ?_ GE158.out | refine below_set ?_ GE159.out) | exact HB.out))
  rintro e w20 ⟨rfl, hi, hb, hk⟩
  refine ⟨_, rfl, ?_⟩
  have n0_ := Aside0.mk (KeepBut.blk hk (g' := gb158) (o := .cells #[.int .u32 0, .int .u32 0, .slice none 0 0, .int .u32 0] 40 (0, 0)) (by (with_reducible repeat (first | refine blk_drewN ?_ _ | refine blk_drew ?_ | refine blk_alloc ?_ _)); exact BK158.out) NB158_0.out (by simp))
  have n1_ := Aside0.mk (KeepBut.blk hk (g' := gb159) (o := .cells #[.int .u32 t164, .int .u32 0, .slice none 0 0, .int .u32 0] 40 (0, 0)) (by (with_reducible repeat (first | refine blk_drewN ?_ _ | refine blk_drew ?_ | refine blk_alloc ?_ _)); exact BK159.out) NB159_0.out (by simp))
  have n2_ := Aside0.mk (KeepBut.trans (by repeat (first | (with_reducible first | exact HK.out | apply KeepBut.set_ | apply keep_drewN | apply keep_drew | apply keep_alloc | refine keep_far ?_ GW158.out _ | refine keep_far ?_ GW159.out _) | exact HK.out)) hk (.inl rfl))
  have n3_ := Aside0.mk (hb)
  have n4_ := Aside0.mk (hi)
  clear BK158
  clear BK159
  clear HK
  clear HB
  clear HI0
  have BK158 := n0_
  have BK159 := n1_
  have HK := n2_
  have HB := n3_
  have HI0 := n4_
  clear n0_ n1_ n2_ n3_ n4_
  (try clear hb)
  (try clear hb2)
  (try clear hk)
  (try clear hi)
  refine hK.out _ _ ⟨(blk_cell BK159.out 0).trans rfl, (blk_cell BK159.out 1).trans rfl, (blk_cell BK159.out 2).trans rfl, (blk_cell BK159.out 3).trans rfl⟩ (fun hHeld => ?_)
  clear hK K
  refine norm_ (a' := ?_) ?_ ?_
  rotate_left
  · show Act.put _ (some 20) _ = _
    simp only [Act.put, List.setIfInBounds_toArray, List.set_cons_zero, List.set_cons_succ, i64_w, i32_w]
    rfl
  refine one_ (i := 4) (N := some 21) #[true, true, true, true, true, false, false, false, false, false, false] rfl rfl (one_of HT_.out (by kernel_rfl)) (by decide) (fun K hK => ?_)
  refine goes_ Try.func60 (by kernel_rfl) rfl #[.int .u32 t164, .string t169] (by rfl) rfl rfl (by (try simp only [List.map_toArray, List.map_cons, List.map_nil]); first | done | rfl | (simp only [List.length_drop, List.length_take]; rfl)) ?_
  with_reducible refine (names_ReadCall.calls t164 t169 t173 t174 _ A6.out).mono ?_
  rintro e w21 ⟨rfl, hb⟩
  refine ⟨_, rfl, ?_⟩
  have n0_ := Aside0.mk (IsS65.below (by repeat (first | (with_reducible first | exact HI0.out | apply IsS65.alloc | apply IsS65.drewN | apply IsS65.drew | apply IsS65.set_0 | apply IsS65.set_1 | apply IsS65.set_2 | refine IsS65.far ?_ NB0_158.out _ | refine IsS65.far ?_ NB0_159.out _) | exact HI0.out)) hb)
  have n1_ := Aside0.mk (blk_below (g := gb158) (o := .cells #[.int .u32 0, .int .u32 0, .slice none 0 0, .int .u32 0] 40 (0, 0)) (by (with_reducible repeat (first | refine blk_drewN ?_ _ | refine blk_drew ?_ | refine blk_alloc ?_ _)); exact BK158.out) hb)
  have n2_ := Aside0.mk (blk_below (g := gb159) (o := .cells #[.int .u32 t164, .int .u32 0, .slice none 0 0, .int .u32 0] 40 (0, 0)) (by (with_reducible repeat (first | refine blk_drewN ?_ _ | refine blk_drew ?_ | refine blk_alloc ?_ _)); exact BK159.out) hb)
  have n3_ := Aside0.mk (KeepBut.trans (by repeat (first | (with_reducible first | exact HK.out | apply KeepBut.set_ | apply keep_drewN | apply keep_drew | apply keep_alloc | refine keep_far ?_ GW158.out _ | refine keep_far ?_ GW159.out _) | exact HK.out)) (KeepBut.of_below hb g none) (.inl rfl))
  have n4_ := Aside0.mk (below_step (by repeat (first | (with_reducible first | exact HB.out | apply below_alloc | apply pw_below_drewN | apply below_drew1 | refine below_set ?_ (IsS65.ge HI0.out) | refine below_set ?_ GE158.out | refine below_set ?_ GE159.out) | exact HB.out)) hb)
  clear HI0
  clear BK158
  clear BK159
  clear HK
  clear HB
  have HI0 := n0_
  have BK158 := n1_
  have BK159 := n2_
  have HK := n3_
  have HB := n4_
  clear n0_ n1_ n2_ n3_ n4_
  (try clear hb)
  (try clear hb2)
  (try clear hk)
  (try clear hi)
  refine hK.out _ _ ⟨(blk_cell BK159.out 0).trans rfl, (blk_cell BK159.out 1).trans rfl, (blk_cell BK159.out 2).trans rfl, (blk_cell BK159.out 3).trans rfl⟩ (fun hHeld => ?_)
  clear hK K
  refine norm_ (a' := ?_) ?_ ?_
  rotate_left
  · show Act.put _ (some 21) _ = _
    simp only [Act.put, List.setIfInBounds_toArray, List.set_cons_zero, List.set_cons_succ, i64_w, i32_w]
    rfl
  refine pure_ (i := 5) (N := some 16) (v := ?_) (a' := ?_) #[true, true, true, true, true, true, false, false, false, false, false] rfl rfl (any_of HT_.out (by kernel_rfl)) (fun _ _ _ h => h) (Or.inl ⟨by rfl, ?_⟩) ?_ ?_
  rotate_left
  · intro w'
    go_simp
    with_reducible rfl
  rotate_left
  · simp only [Act.put, List.setIfInBounds_toArray, List.set_cons_zero, List.set_cons_succ, i64_w, i32_w]
    rfl
  refine pure_ (i := 6) (N := some 22) (v := ?_) (a' := ?_) #[true, true, true, true, true, true, true, false, false, false, false] rfl rfl (any_of HT_.out (by kernel_rfl)) (fun _ _ _ h => h) (Or.inl ⟨by rfl, ?_⟩) ?_ ?_
  rotate_left
  · intro w'
    go_simp
    with_reducible rfl
  rotate_left
  · simp only [Act.put, List.setIfInBounds_toArray, List.set_cons_zero, List.set_cons_succ, i64_w, i32_w]
    rfl
  refine pure_ (i := 7) (N := some 23) (v := ?_) (a' := ?_) #[true, true, true, true, true, true, true, true, false, false, false] rfl rfl (any_of HT_.out (by kernel_rfl)) (fun _ _ _ h => h) (Or.inl ⟨by rfl, ?_⟩) ?_ ?_
  rotate_left
  · intro w'
    go_simp
    with_reducible rfl
  rotate_left
  · simp only [Act.put, List.setIfInBounds_toArray, List.set_cons_zero, List.set_cons_succ, i64_w, i32_w]
    rfl
  refine pure_ (i := 8) (N := some 24) (v := ?_) (a' := ?_) #[true, true, true, true, true, true, true, true, true, false, false] rfl rfl (any_of HT_.out (by kernel_rfl)) (fun _ _ _ h => h) (Or.inl ⟨by rfl, ?_⟩) ?_ ?_
  rotate_left
  · intro w'
    go_simp
    with_reducible rfl
  rotate_left
  · simp only [Act.put, List.setIfInBounds_toArray, List.set_cons_zero, List.set_cons_succ, i64_w, i32_w]
    rfl
  refine last_ (i := 9) (N := none) #[true, true, true, true, true, true, true, true, true, true, false] rfl rfl (one_of HT_.out (by kernel_rfl)) (by decide) (fun K hK => ?_)
  have hs22 : w21.cell? ⟨gb159, 1, none⟩ = some (.int .u32 0) := (blk_cell BK159.out 1).trans rfl
  have hfs22 := blk_frozen BK159.out 1
  have hns22_0 := NB158_159.out
  have hms22_0 := NB159_158.out
  refine skip_ (w1 := ?_) (by rfl) rfl ?_ ?_
  rotate_left
  · go_simp
    rfl
  refine hK.out _ _ ?_
  clear hK K
  refine pure_ (i := 10) (N := some 4) (v := ?_) (a' := ?_) #[true, true, true, true, true, true, true, true, true, true, true] rfl rfl (any_of HT_.out (by kernel_rfl)) (fun _ _ _ h => h) (Or.inl ⟨by rfl, ?_⟩) ?_ ?_
  rotate_left
  · intro w'
    go_simp
    with_reducible rfl
  rotate_left
  · simp only [Act.put, List.setIfInBounds_toArray, List.set_cons_zero, List.set_cons_succ, i64_w, i32_w]
    rfl
  refine done_ (done_of HT_.out (by kernel_rfl)) ?_
  try go_wp2_with (first | ((with_reducible refine gate_callee (f := 40) rfl ?_); refine goesL_ (some 27) rfl rfl Try.func40 (by kernel_rfl) rfl #[.pointer (some ⟨g, 0, none⟩), .int .i64 t174] rfl (by (try simp only [List.map_toArray, List.map_cons, List.map_nil]); first | done | rfl | (simp only [List.length_drop, List.length_take]; rfl)) ?_; (with_reducible refine (policy_reader_must.calls g t170 t171 t172 t174 t175 t176 t177 w0 _ ?side1 ?side2 A7.out).mono ?_); (case side1 => repeat (first | (with_reducible first | exact HI0.out | apply IsS65.alloc | apply IsS65.drewN | apply IsS65.drew | apply IsS65.set_0 | apply IsS65.set_1 | apply IsS65.set_2 | refine IsS65.far ?_ NB0_158.out _ | refine IsS65.far ?_ NB0_159.out _) | exact HI0.out)); (case side2 => repeat (first | (with_reducible first | exact HB.out | apply below_alloc | apply pw_below_drewN | apply below_drew1 | refine below_set ?_ (IsS65.ge HI0.out) | refine below_set ?_ GE158.out | refine below_set ?_ GE159.out) | exact HB.out)); rintro e w23 ⟨rfl, hi, hb, hk⟩; refine ⟨_, rfl, ?_⟩; have n0_ := Aside0.mk (KeepBut.blk hk (g' := gb158) (o := .cells #[.int .u32 0, .int .u32 0, .slice none 0 0, .int .u32 0] 40 (0, 0)) (by (with_reducible repeat (first | refine blk_drewN ?_ _ | refine blk_drew ?_ | refine blk_alloc ?_ _)); refine blk_far ?_ NB158_159.out _; (with_reducible repeat (first | refine blk_drewN ?_ _ | refine blk_drew ?_ | refine blk_alloc ?_ _)); exact BK158.out) NB158_0.out (by simp)); have n1_ := Aside0.mk (KeepBut.blk hk (g' := gb159) (o := .cells #[.int .u32 t164, .int .u32 t173, .slice none 0 0, .int .u32 0] 40 (0, 0)) (by (with_reducible repeat (first | refine blk_drewN ?_ _ | refine blk_drew ?_ | refine blk_alloc ?_ _)); refine blk_put (cs := #[.int .u32 t164, .int .u32 0, .slice none 0 0, .int .u32 0]) ?_ 1 _ rfl; (with_reducible repeat (first | refine blk_drewN ?_ _ | refine blk_drew ?_ | refine blk_alloc ?_ _)); exact BK159.out) NB159_0.out (by simp)); have n2_ := Aside0.mk (KeepBut.trans (by repeat (first | (with_reducible first | exact HK.out | apply KeepBut.set_ | apply keep_drewN | apply keep_drew | apply keep_alloc | refine keep_far ?_ GW158.out _ | refine keep_far ?_ GW159.out _) | exact HK.out)) hk (.inl rfl)); have n3_ := Aside0.mk (hb); have n4_ := Aside0.mk (hi); clear BK158; clear BK159; clear HK; clear HB; clear HI0; have BK158 := n0_; have BK159 := n1_; have HK := n2_; have HB := n3_; have HI0 := n4_; clear n0_ n1_ n2_ n3_ n4_; (try clear hb); (try clear hb2); (try clear hk); (try clear hi)) | ((with_reducible refine gate_callee (f := 37) rfl ?_); refine goesL_ (some 30) rfl rfl Try.func37 (by kernel_rfl) rfl #[.pointer (some ⟨g, 0, none⟩)] rfl (by (try simp only [List.map_toArray, List.map_cons, List.map_nil]); first | done | rfl | (simp only [List.length_drop, List.length_take]; rfl)) ?_; (with_reducible refine (policy_reader_word.calls g t175 t176 t177 t178 t179 t180 t181 w0 _ ?side1 ?side2 A8.out).mono ?_); (case side1 => repeat (first | (with_reducible first | exact HI0.out | apply IsS65.alloc | apply IsS65.drewN | apply IsS65.drew | apply IsS65.set_0 | apply IsS65.set_1 | apply IsS65.set_2 | refine IsS65.far ?_ NB0_158.out _ | refine IsS65.far ?_ NB0_159.out _) | exact HI0.out)); (case side2 => repeat (first | (with_reducible first | exact HB.out | apply below_alloc | apply pw_below_drewN | apply below_drew1 | refine below_set ?_ (IsS65.ge HI0.out) | refine below_set ?_ GE158.out | refine below_set ?_ GE159.out) | exact HB.out)); rintro e w24 ⟨rfl, hi, hb, hk⟩; refine ⟨_, rfl, ?_⟩; have n0_ := Aside0.mk (KeepBut.blk hk (g' := gb158) (o := .cells #[.int .u32 0, .int .u32 0, .slice none 0 0, .int .u32 0] 40 (0, 0)) (by (with_reducible repeat (first | refine blk_drewN ?_ _ | refine blk_drew ?_ | refine blk_alloc ?_ _)); exact BK158.out) NB158_0.out (by simp)); have n1_ := Aside0.mk (KeepBut.blk hk (g' := gb159) (o := .cells #[.int .u32 t164, .int .u32 t173, .slice none 0 0, .int .u32 0] 40 (0, 0)) (by (with_reducible repeat (first | refine blk_drewN ?_ _ | refine blk_drew ?_ | refine blk_alloc ?_ _)); exact BK159.out) NB159_0.out (by simp)); have n2_ := Aside0.mk (KeepBut.trans (by repeat (first | (with_reducible first | exact HK.out | apply KeepBut.set_ | apply keep_drewN | apply keep_drew | apply keep_alloc | refine keep_far ?_ GW158.out _ | refine keep_far ?_ GW159.out _) | exact HK.out)) hk (.inl rfl)); have n3_ := Aside0.mk (hb); have n4_ := Aside0.mk (hi); clear BK158; clear BK159; clear HK; clear HB; clear HI0; have BK158 := n0_; have BK159 := n1_; have HK := n2_; have HB := n3_; have HI0 := n4_; clear n0_ n1_ n2_ n3_ n4_; (try clear hb); (try clear hb2); (try clear hk); (try clear hi)) | ((with_reducible refine gate_callee (f := 39) rfl ?_); refine goesL_ (some 31) rfl rfl Try.func39 (by kernel_rfl) rfl #[.string t178] rfl (by (try simp only [List.map_toArray, List.map_cons, List.map_nil]); first | done | rfl | (simp only [List.length_drop, List.length_take]; rfl)) ?_; (with_reducible refine (names_ReadAction.calls t178 t182 t183 _ A9.out).mono ?_); rintro e w25 ⟨rfl, hb⟩; refine ⟨_, rfl, ?_⟩; have n0_ := Aside0.mk (IsS65.below (by repeat (first | (with_reducible first | exact HI0.out | apply IsS65.alloc | apply IsS65.drewN | apply IsS65.drew | apply IsS65.set_0 | apply IsS65.set_1 | apply IsS65.set_2 | refine IsS65.far ?_ NB0_158.out _ | refine IsS65.far ?_ NB0_159.out _) | exact HI0.out)) hb); have n1_ := Aside0.mk (blk_below (g := gb158) (o := .cells #[.int .u32 0, .int .u32 0, .slice none 0 0, .int .u32 0] 40 (0, 0)) (by (with_reducible repeat (first | refine blk_drewN ?_ _ | refine blk_drew ?_ | refine blk_alloc ?_ _)); exact BK158.out) hb); have n2_ := Aside0.mk (blk_below (g := gb159) (o := .cells #[.int .u32 t164, .int .u32 t173, .slice none 0 0, .int .u32 0] 40 (0, 0)) (by (with_reducible repeat (first | refine blk_drewN ?_ _ | refine blk_drew ?_ | refine blk_alloc ?_ _)); exact BK159.out) hb); have n3_ := Aside0.mk (KeepBut.trans (by repeat (first | (with_reducible first | exact HK.out | apply KeepBut.set_ | apply keep_drewN | apply keep_drew | apply keep_alloc | refine keep_far ?_ GW158.out _ | refine keep_far ?_ GW159.out _) | exact HK.out)) (KeepBut.of_below hb g none) (.inl rfl)); have n4_ := Aside0.mk (below_step (by repeat (first | (with_reducible first | exact HB.out | apply below_alloc | apply pw_below_drewN | apply below_drew1 | refine below_set ?_ (IsS65.ge HI0.out) | refine below_set ?_ GE158.out | refine below_set ?_ GE159.out) | exact HB.out)) hb); clear HI0; clear BK158; clear BK159; clear HK; clear HB; have HI0 := n0_; have BK158 := n1_; have BK159 := n2_; have HK := n3_; have HB := n4_; clear n0_ n1_ n2_ n3_ n4_; (try clear hb); (try clear hb2); (try clear hk); (try clear hi); have hcz26_0 : w25.cell? ⟨gb159, 0, none⟩ = some (.int .u32 t164) := (blk_cell BK159.out 0).trans rfl; have hcz26_1 : w25.cell? ⟨gb159, 1, none⟩ = some (.int .u32 t173) := (blk_cell BK159.out 1).trans rfl; have hcz26_2 : w25.cell? ⟨gb159, 2, none⟩ = some (.slice none 0 0) := (blk_cell BK159.out 2).trans rfl; have hcz26_3 : w25.cell? ⟨gb159, 3, none⟩ = some (.int .u32 0) := (blk_cell BK159.out 3).trans rfl; have hfz26_0 := blk_frozen BK159.out 0; have hfz26_1 := blk_frozen BK159.out 1; have hfz26_2 := blk_frozen BK159.out 2; have hfz26_3 := blk_frozen BK159.out 3) | ((with_reducible refine gate_callee (f := 40) rfl ?_); refine goesL_ (some 37) rfl rfl Try.func40 (by kernel_rfl) rfl #[.pointer (some ⟨g, 0, none⟩), .int .i64 t183] rfl (by (try simp only [List.map_toArray, List.map_cons, List.map_nil]); first | done | rfl | (simp only [List.length_drop, List.length_take]; rfl)) ?_; (with_reducible refine (policy_reader_must.calls g t179 t180 t181 t183 t184 t185 t186 w0 _ ?side1 ?side2 A10.out).mono ?_); (case side1 => repeat (first | (with_reducible first | exact HI0.out | apply IsS65.alloc | apply IsS65.drewN | apply IsS65.drew | apply IsS65.set_0 | apply IsS65.set_1 | apply IsS65.set_2 | refine IsS65.far ?_ NB0_158.out _ | refine IsS65.far ?_ NB0_159.out _) | exact HI0.out)); (case side2 => repeat (first | (with_reducible first | exact HB.out | apply below_alloc | apply pw_below_drewN | apply below_drew1 | refine below_set ?_ (IsS65.ge HI0.out) | refine below_set ?_ GE158.out | refine below_set ?_ GE159.out) | exact HB.out)); rintro e w27 ⟨rfl, hi, hb, hk⟩; refine ⟨_, rfl, ?_⟩; have n0_ := Aside0.mk (KeepBut.blk hk (g' := gb158) (o := .cells #[.int .u32 0, .int .u32 0, .slice none 0 0, .int .u32 0] 40 (0, 0)) (by (with_reducible repeat (first | refine blk_drewN ?_ _ | refine blk_drew ?_ | refine blk_alloc ?_ _)); refine blk_far ?_ NB158_159.out _; (with_reducible repeat (first | refine blk_drewN ?_ _ | refine blk_drew ?_ | refine blk_alloc ?_ _)); exact BK158.out) NB158_0.out (by simp)); have n1_ := Aside0.mk (KeepBut.blk hk (g' := gb159) (o := .cells #[.int .u32 t164, .int .u32 t173, .slice none 0 0, .int .u32 t182] 40 (0, 0)) (by (with_reducible repeat (first | refine blk_drewN ?_ _ | refine blk_drew ?_ | refine blk_alloc ?_ _)); refine blk_put (cs := #[.int .u32 t164, .int .u32 t173, .slice none 0 0, .int .u32 0]) ?_ 3 _ rfl; (with_reducible repeat (first | refine blk_drewN ?_ _ | refine blk_drew ?_ | refine blk_alloc ?_ _)); exact BK159.out) NB159_0.out (by simp)); have n2_ := Aside0.mk (KeepBut.trans (by repeat (first | (with_reducible first | exact HK.out | apply KeepBut.set_ | apply keep_drewN | apply keep_drew | apply keep_alloc | refine keep_far ?_ GW158.out _ | refine keep_far ?_ GW159.out _) | exact HK.out)) hk (.inl rfl)); have n3_ := Aside0.mk (hb); have n4_ := Aside0.mk (hi); clear BK158; clear BK159; clear HK; clear HB; clear HI0; have BK158 := n0_; have BK159 := n1_; have HK := n2_; have HB := n3_; have HI0 := n4_; clear n0_ n1_ n2_ n3_ n4_; (try clear hb); (try clear hb2); (try clear hk); (try clear hi)))
  go_loopg [5] k (fun kq v5 w' => ∃ (x5_1 : ByteArray) (x1000_1 : ByteArray) (x1001_1 : Bool) (x1002_1 : Bool) (x160002_1 : List (S61)) (u160002 : Value), v5 = .string x5_1 ∧ Aside0 (policy_reader_rest.l0 kq x5_1 x1000_1 x1001_1 x1002_1 t164 t173 x160002_1 t182 = some (r1, r2, r3, r4, r5, r6, r7)) ∧ Aside0 (kq ≤ k) ∧ Aside0 (Kd.R k61 61 w' w.heap.size (fun _ => True) u160002 x160002_1) ∧ Aside0 (w'.heap[gb158]? = some (.cells #[.int .u32 0, .int .u32 0, (.slice none 0 0), .int .u32 0] 40 (0, 0))) ∧ Aside0 (w'.heap[gb159]? = some (.cells #[.int .u32 t164, .int .u32 t173, u160002, .int .u32 t182] 40 (0, 0))) ∧ Aside0 (IsS65 w0 w' g x1000_1 x1001_1 x1002_1) ∧ Aside0 (KeepBut w w' g none) ∧ Aside0 (Below w0.heap.size w0 w'))
  case atStart => exact ⟨((⟨#[105, 102]⟩ : ByteArray)), (t184), (t185), (t186), (([] : List (S61))), (.slice none 0 0), (by first | rfl | (simp; done) | (simp [*]; done)), H', ⟨Nat.le_refl _⟩, ⟨by first | exact Kd.R_nil _ _ _ _ _ | exact Kd.N_nil _ _ _ _ _ | exact Kd.V_nil _ _ _ _ _ | exact Kd.Q_nil _ _ _ _ _ | exact Kd.S_nil _ _ _ _ _⟩, ⟨by (with_reducible repeat (first | refine blk_drewN ?_ _ | refine blk_drew ?_ | refine blk_alloc ?_ _)); exact BK158.out⟩, ⟨by (with_reducible repeat (first | refine blk_drewN ?_ _ | refine blk_drew ?_ | refine blk_alloc ?_ _)); exact BK159.out⟩, ⟨by repeat (first | (with_reducible first | exact HI0.out | apply IsS65.alloc | apply IsS65.drewN | apply IsS65.drew | apply IsS65.set_0 | apply IsS65.set_1 | apply IsS65.set_2 | refine IsS65.far ?_ NB0_158.out _ | refine IsS65.far ?_ NB0_159.out _) | exact HI0.out)⟩, ⟨by repeat (first | (with_reducible first | exact HK.out | apply KeepBut.set_ | apply keep_drewN | apply keep_drew | apply keep_alloc | refine keep_far ?_ GW158.out _ | refine keep_far ?_ GW159.out _) | exact HK.out)⟩, ⟨by repeat (first | (with_reducible first | exact HB.out | apply below_alloc | apply pw_below_drewN | apply below_drew1 | refine below_set ?_ (IsS65.ge HI0.out) | refine below_set ?_ GE158.out | refine below_set ?_ GE159.out) | exact HB.out)⟩⟩
  case round =>
    clear H'
    try clear c1
    try clear p2
    try clear c3
    try clear c4
    try clear c5
    try clear c6
    try clear c15
    try clear c16
    try clear hcz17_0
    try clear hcz17_1
    try clear hcz17_2
    try clear hcz17_3
    try clear hcz26_0
    try clear hcz26_1
    try clear hcz26_2
    try clear hcz26_3
    try clear hfz17_0
    try clear hfz17_1
    try clear hfz17_2
    try clear hfz17_3
    try clear hfz26_0
    try clear hfz26_1
    try clear hfz26_2
    try clear hfz26_3
    obtain ⟨x5_1, x1000_1, x1001_1, x1002_1, x160002_1, u160002, rfl, HA, HK1, HO_160002, BK158, BK159, HI0, HK, HB⟩ := hrel
    cases gk with
    | zero => exact absurd HA.out (by simp [policy_reader_rest.l0])
    | succ k1 =>
      have H := HA.out
      clear HA
      simp only [policy_reader_rest.l0] at H
      have HC28 := Aside0.mk H
      clear H
      go_upto_region 10 with (fail)
      go_cut [49] (fun v49 wc => ∃ (kq : Nat) (x49_27 : Bool), v49 = .bool x49_27 ∧ Aside0 (policy_reader_rest.j1 kq x5_1 x49_27 x1000_1 x1001_1 x1002_1 t164 t173 x160002_1 t182 = some (r1, r2, r3, r4, r5, r6, r7)) ∧ Aside0 (kq ≤ k1) ∧ Aside0 (Kd.R k61 61 wc w.heap.size (fun _ => True) u160002 x160002_1) ∧ Aside0 (wc.heap[gb158]? = some (.cells #[.int .u32 0, .int .u32 0, (.slice none 0 0), .int .u32 0] 40 (0, 0))) ∧ Aside0 (wc.heap[gb159]? = some (.cells #[.int .u32 t164, .int .u32 t173, u160002, .int .u32 t182] 40 (0, 0))) ∧ Aside0 (IsS65 w0 wc g x1000_1 x1001_1 x1002_1) ∧ Aside0 (KeepBut w wc g none) ∧ Aside0 (Below w0.heap.size w0 wc))
      case first =>
        have H := HC28.out
        clear HC28
        by_cases c29 : x1001_1 = true
        · subst c29
          have H1 : (policy_reader_rest.j1 k1 x5_1 false x1000_1 true x1002_1 t164 t173 x160002_1 t182) = some (r1, r2, r3, r4, r5, r6, r7) := by rw [if_pos rfl] at H; exact H
          clear H
          have H := H1
          clear H1
          have H' := Aside0.mk H
          clear H
          obtain ⟨HGz30, hgz30⟩ := HI0.out
          have hcz30_0 := cellS65_0 HGz30
          have hcz30_1 := cellS65_1 HGz30
          have hcz30_2 := cellS65_2 HGz30
          have hfz30_0 := blk_frozen HGz30 0
          have hfz30_1 := blk_frozen HGz30 1
          have hfz30_2 := blk_frozen HGz30 2
          clear HGz30 hgz30
          go_wp2
          go_meet
          case rel => exact ⟨_, (false), (by first | rfl | (simp; done) | (simp [*]; done)), H', ⟨by have := HK1.out; first | omega | exact Nat.le_refl _⟩, ⟨by (with_reducible repeat (first | apply Kd.R_alloc | apply Kd.R_drewN | apply Kd.R_drew)); exact HO_160002.out⟩, ⟨by (with_reducible repeat (first | refine blk_drewN ?_ _ | refine blk_drew ?_ | refine blk_alloc ?_ _)); exact BK158.out⟩, ⟨by (with_reducible repeat (first | refine blk_drewN ?_ _ | refine blk_drew ?_ | refine blk_alloc ?_ _)); exact BK159.out⟩, ⟨by repeat (first | (with_reducible first | exact HI0.out | apply IsS65.alloc | apply IsS65.drewN | apply IsS65.drew | apply IsS65.set_0 | apply IsS65.set_1 | apply IsS65.set_2 | refine IsS65.far ?_ NB0_158.out _ | refine IsS65.far ?_ NB0_159.out _) | exact HI0.out)⟩, ⟨by repeat (first | (with_reducible first | exact HK.out | apply KeepBut.set_ | apply keep_drewN | apply keep_drew | apply keep_alloc | refine keep_far ?_ GW158.out _ | refine keep_far ?_ GW159.out _) | exact HK.out)⟩, ⟨by repeat (first | (with_reducible first | exact HB.out | apply below_alloc | apply pw_below_drewN | apply below_drew1 | refine below_set ?_ (IsS65.ge HI0.out) | refine below_set ?_ GE158.out | refine below_set ?_ GE159.out) | exact HB.out)⟩⟩
        · replace c29 := Bool.eq_false_iff.mpr c29
          subst c29
          have H1 : (policy_reader_rest.j1 k1 x5_1 (!x1002_1) x1000_1 false x1002_1 t164 t173 x160002_1 t182) = some (r1, r2, r3, r4, r5, r6, r7) := by rw [if_neg (show ¬ (false = true) by decide)] at H; exact H
          clear H
          have H := H1
          clear H1
          have H' := Aside0.mk H
          clear H
          obtain ⟨HGz31, hgz31⟩ := HI0.out
          have hcz31_0 := cellS65_0 HGz31
          have hcz31_1 := cellS65_1 HGz31
          have hcz31_2 := cellS65_2 HGz31
          have hfz31_0 := blk_frozen HGz31 0
          have hfz31_1 := blk_frozen HGz31 1
          have hfz31_2 := blk_frozen HGz31 2
          clear HGz31 hgz31
          go_wp2
          go_meet
          case rel => exact ⟨_, (!x1002_1), (by first | rfl | (simp; done) | (simp [*]; done)), H', ⟨by have := HK1.out; first | omega | exact Nat.le_refl _⟩, ⟨by (with_reducible repeat (first | apply Kd.R_alloc | apply Kd.R_drewN | apply Kd.R_drew)); exact HO_160002.out⟩, ⟨by (with_reducible repeat (first | refine blk_drewN ?_ _ | refine blk_drew ?_ | refine blk_alloc ?_ _)); exact BK158.out⟩, ⟨by (with_reducible repeat (first | refine blk_drewN ?_ _ | refine blk_drew ?_ | refine blk_alloc ?_ _)); exact BK159.out⟩, ⟨by repeat (first | (with_reducible first | exact HI0.out | apply IsS65.alloc | apply IsS65.drewN | apply IsS65.drew | apply IsS65.set_0 | apply IsS65.set_1 | apply IsS65.set_2 | refine IsS65.far ?_ NB0_158.out _ | refine IsS65.far ?_ NB0_159.out _) | exact HI0.out)⟩, ⟨by repeat (first | (with_reducible first | exact HK.out | apply KeepBut.set_ | apply keep_drewN | apply keep_drew | apply keep_alloc | refine keep_far ?_ GW158.out _ | refine keep_far ?_ GW159.out _) | exact HK.out)⟩, ⟨by repeat (first | (with_reducible first | exact HB.out | apply below_alloc | apply pw_below_drewN | apply below_drew1 | refine below_set ?_ (IsS65.ge HI0.out) | refine below_set ?_ GE158.out | refine below_set ?_ GE159.out) | exact HB.out)⟩⟩
      case rest =>
        clear HC28
        try clear c1
        try clear c2
        try clear p2
        try clear c3
        try clear c4
        try clear c5
        try clear c6
        try clear c15
        try clear c16
        try clear c29
        try clear hcz17_0
        try clear hcz17_1
        try clear hcz17_2
        try clear hcz17_3
        try clear hcz26_0
        try clear hcz26_1
        try clear hcz26_2
        try clear hcz26_3
        try clear hcz30_0
        try clear hcz30_1
        try clear hcz30_2
        try clear hcz31_0
        try clear hcz31_1
        try clear hcz31_2
        try clear hfz17_0
        try clear hfz17_1
        try clear hfz17_2
        try clear hfz17_3
        try clear hfz26_0
        try clear hfz26_1
        try clear hfz26_2
        try clear hfz26_3
        try clear hfz30_0
        try clear hfz30_1
        try clear hfz30_2
        try clear hfz31_0
        try clear hfz31_1
        try clear hfz31_2
        try clear p2
        obtain ⟨kq, x49_27, rfl, HA, HJ27, HO_160002, BK158, BK159, HI0, HK, HB⟩ := hcut
        cases kq with
        | zero => exact absurd HA.out (by simp [policy_reader_rest.j1])
        | succ kj27 =>
          have H := HA.out
          clear HA
          simp only [policy_reader_rest.j1] at H
          by_cases c32 : x49_27 = true
          · subst c32
            have H1 : ((policy_reader_word.f x1000_1 x1001_1 x1002_1).bind fun bt187 => (if bt187.1.toList = x5_1.toList then ((policy_reader_condition.f bt187.2.1 bt187.2.2.1 bt187.2.2.2).bind fun bt191 => (if x160002_1.length < 4398046511104 then (policy_reader_rest.l0 kj27 (⟨#[97, 110, 100]⟩ : ByteArray) bt191.2.2.2.2.1 bt191.2.2.2.2.2.1 bt191.2.2.2.2.2.2 t164 t173 (x160002_1 ++ [(⟨bt191.1, bt191.2.1, bt191.2.2.1, bt191.2.2.2.1⟩ : S61)]) t182) else (none))) else ((policy_reader_condition.f bt187.2.1 bt187.2.2.1 true).bind fun bt201 => (if x160002_1.length < 4398046511104 then (policy_reader_rest.l0 kj27 (⟨#[97, 110, 100]⟩ : ByteArray) bt201.2.2.2.2.1 bt201.2.2.2.2.2.1 bt201.2.2.2.2.2.2 t164 t173 (x160002_1 ++ [(⟨bt201.1, bt201.2.1, bt201.2.2.1, bt201.2.2.2.1⟩ : S61)]) t182) else (none))))) = some (r1, r2, r3, r4, r5, r6, r7) := by rw [if_pos rfl] at H; exact H
            clear H
            have H := H1
            clear H1
            replace H := Option.bind_eq_some_iff.mp H
            obtain ⟨⟨t187, t188, t189, t190⟩, A330, H⟩ := H
            replace H : (if t187.toList = x5_1.toList then ((policy_reader_condition.f t188 t189 t190).bind fun bt191 => (if x160002_1.length < 4398046511104 then (policy_reader_rest.l0 kj27 (⟨#[97, 110, 100]⟩ : ByteArray) bt191.2.2.2.2.1 bt191.2.2.2.2.2.1 bt191.2.2.2.2.2.2 t164 t173 (x160002_1 ++ [(⟨bt191.1, bt191.2.1, bt191.2.2.1, bt191.2.2.2.1⟩ : S61)]) t182) else (none))) else ((policy_reader_condition.f t188 t189 true).bind fun bt201 => (if x160002_1.length < 4398046511104 then (policy_reader_rest.l0 kj27 (⟨#[97, 110, 100]⟩ : ByteArray) bt201.2.2.2.2.1 bt201.2.2.2.2.2.1 bt201.2.2.2.2.2.2 t164 t173 (x160002_1 ++ [(⟨bt201.1, bt201.2.1, bt201.2.2.1, bt201.2.2.2.1⟩ : S61)]) t182) else (none)))) = some (r1, r2, r3, r4, r5, r6, r7) := H
            have A33 := Aside0.mk A330
            clear A330
            by_cases c34 : t187.toList = x5_1.toList
            · rw [if_pos c34] at H
              have c34b0 : (t187.toList == x5_1.toList) = true := beq_iff_eq.mpr c34
              have c34b1 : (t187.toList != x5_1.toList) = false := bne_eq_false_iff_eq.mpr c34
              clear c34
              replace H := Option.bind_eq_some_iff.mp H
              obtain ⟨⟨t191, t192, t193, t194, t195, t196, t197⟩, A350, H⟩ := H
              replace H : (if x160002_1.length < 4398046511104 then (policy_reader_rest.l0 kj27 (⟨#[97, 110, 100]⟩ : ByteArray) t195 t196 t197 t164 t173 (x160002_1 ++ [(⟨t191, t192, t193, t194⟩ : S61)]) t182) else (none)) = some (r1, r2, r3, r4, r5, r6, r7) := H
              have A35 := Aside0.mk A350
              clear A350
              by_cases c36 : x160002_1.length < 4398046511104
              · rw [if_pos c36] at H
                have LMc36 := Aside0.mk c36
                clear c36
                obtain ⟨y198, hy198⟩ : ∃ y_ : List (S61), y_ = (x160002_1 ++ [(⟨t191, t192, t193, t194⟩ : S61)]) := ⟨_, rfl⟩
                replace H : (policy_reader_rest.l0 kj27 (⟨#[97, 110, 100]⟩ : ByteArray) t195 t196 t197 t164 t173 y198 t182) = some (r1, r2, r3, r4, r5, r6, r7) := by first | (rw [hy198]; with_reducible exact H) | (have H2_ := (Option.bind_some _ _).symm.trans H; rw [hy198]; with_reducible exact H2_) | (have H2_ := (Option.bind_some _ _).symm.trans H; with_reducible exact H2_) | with_reducible exact H | (rw [hy198]; exact H) | exact H
                have Ny198 := Aside0.mk hy198
                clear hy198
                have H' := Aside0.mk H
                clear H
                try go_wp2_with (first | ((with_reducible refine gate_callee (f := 37) rfl ?_); refine goesL_ (some 52) rfl rfl Try.func37 (by kernel_rfl) rfl #[.pointer (some ⟨g, 0, none⟩)] rfl (by (try simp only [List.map_toArray, List.map_cons, List.map_nil]); first | done | rfl | (simp only [List.length_drop, List.length_take]; rfl)) ?_; (with_reducible refine (policy_reader_word.calls g x1000_1 x1001_1 x1002_1 t187 t188 t189 t190 w0 _ ?side1 ?side2 A33.out).mono ?_); (case side1 => repeat (first | (with_reducible first | exact HI0.out | apply IsS65.alloc | apply IsS65.drewN | apply IsS65.drew | apply IsS65.set_0 | apply IsS65.set_1 | apply IsS65.set_2 | refine IsS65.far ?_ NB0_158.out _ | refine IsS65.far ?_ NB0_159.out _) | exact HI0.out)); (case side2 => repeat (first | (with_reducible first | exact HB.out | apply below_alloc | apply pw_below_drewN | apply below_drew1 | refine below_set ?_ (IsS65.ge HI0.out) | refine below_set ?_ GE158.out | refine below_set ?_ GE159.out) | exact HB.out)); rintro e w37 ⟨rfl, hi, hb, hk⟩; refine ⟨_, rfl, ?_⟩; have n0_ := Aside0.mk (Kd.R_mono (Kd.R_keep (IsS65.apart (show IsS65 w0 _ g x1000_1 x1001_1 x1002_1 from by repeat (first | (with_reducible first | exact HI0.out | apply IsS65.alloc | apply IsS65.drewN | apply IsS65.drew | apply IsS65.set_0 | apply IsS65.set_1 | apply IsS65.set_2 | refine IsS65.far ?_ NB0_158.out _ | refine IsS65.far ?_ NB0_159.out _) | exact HI0.out)) (by (with_reducible repeat (first | apply Kd.R_alloc | apply Kd.R_drewN | apply Kd.R_drew)); exact HO_160002.out) (by decide)) hk (fun _ h => h.2)) (fun _ h => h.1)); have n1_ := Aside0.mk (KeepBut.blk hk (g' := gb158) (o := .cells #[.int .u32 0, .int .u32 0, .slice none 0 0, .int .u32 0] 40 (0, 0)) (by (with_reducible repeat (first | refine blk_drewN ?_ _ | refine blk_drew ?_ | refine blk_alloc ?_ _)); exact BK158.out) NB158_0.out (by simp)); have n2_ := Aside0.mk (KeepBut.blk hk (g' := gb159) (o := .cells #[.int .u32 t164, .int .u32 t173, u160002, .int .u32 t182] 40 (0, 0)) (by (with_reducible repeat (first | refine blk_drewN ?_ _ | refine blk_drew ?_ | refine blk_alloc ?_ _)); exact BK159.out) NB159_0.out (by simp)); have n3_ := Aside0.mk (KeepBut.trans (by repeat (first | (with_reducible first | exact HK.out | apply KeepBut.set_ | apply keep_drewN | apply keep_drew | apply keep_alloc | refine keep_far ?_ GW158.out _ | refine keep_far ?_ GW159.out _) | exact HK.out)) hk (.inl rfl)); have n4_ := Aside0.mk (hb); have n5_ := Aside0.mk (hi); clear HO_160002; clear BK158; clear BK159; clear HK; clear HB; clear HI0; have HO_160002 := n0_; have BK158 := n1_; have BK159 := n2_; have HK := n3_; have HB := n4_; have HI0 := n5_; clear n0_ n1_ n2_ n3_ n4_ n5_; (try clear hb); (try clear hb2); (try clear hk); (try clear hi); obtain ⟨HGz38, hgz38⟩ := HI0.out; have hcz38_0 := cellS65_0 HGz38; have hcz38_1 := cellS65_1 HGz38; have hcz38_2 := cellS65_2 HGz38; have hfz38_0 := blk_frozen HGz38 0; have hfz38_1 := blk_frozen HGz38 1; have hfz38_2 := blk_frozen HGz38 2; clear HGz38 hgz38))
                have n0_ : Aside0 (Kd.R k61 61 (w37.setCell ⟨g, 2, none⟩ (.bool t190)) w.heap.size (fun _ => True) u160002 x160002_1) := ⟨by (with_reducible repeat (first | apply Kd.R_alloc | apply Kd.R_drewN | apply Kd.R_drew)); exact Kd.R_mono (Kd.R_far (p := ⟨g, 2, none⟩) (IsS65.apart HI0.out HO_160002.out (by decide)) (fun _ hk => hk.2) (.bool t190)) (fun _ hk => trivial)⟩
                have n1_ : Aside0 ((w37.setCell ⟨g, 2, none⟩ (.bool t190)).heap[gb158]? = some (.cells #[.int .u32 0, .int .u32 0, .slice none 0 0, .int .u32 0] 40 (0, 0))) := ⟨by (with_reducible repeat (first | refine blk_drewN ?_ _ | refine blk_drew ?_ | refine blk_alloc ?_ _)); refine blk_far ?_ NB158_0.out _; (with_reducible repeat (first | refine blk_drewN ?_ _ | refine blk_drew ?_ | refine blk_alloc ?_ _)); exact BK158.out⟩
                have n2_ : Aside0 ((w37.setCell ⟨g, 2, none⟩ (.bool t190)).heap[gb159]? = some (.cells #[.int .u32 t164, .int .u32 t173, u160002, .int .u32 t182] 40 (0, 0))) := ⟨by (with_reducible repeat (first | refine blk_drewN ?_ _ | refine blk_drew ?_ | refine blk_alloc ?_ _)); refine blk_far ?_ NB159_0.out _; (with_reducible repeat (first | refine blk_drewN ?_ _ | refine blk_drew ?_ | refine blk_alloc ?_ _)); exact BK159.out⟩
                have n3_ : Aside0 (IsS65 w0 (w37.setCell ⟨g, 2, none⟩ (.bool t190)) g t188 t189 t190) := ⟨by repeat (first | (with_reducible first | exact HI0.out | apply IsS65.alloc | apply IsS65.drewN | apply IsS65.drew | apply IsS65.set_0 | apply IsS65.set_1 | apply IsS65.set_2 | refine IsS65.far ?_ NB0_158.out _ | refine IsS65.far ?_ NB0_159.out _) | exact HI0.out)⟩
                have n4_ : Aside0 (KeepBut w (w37.setCell ⟨g, 2, none⟩ (.bool t190)) g none) := ⟨by repeat (first | (with_reducible first | exact HK.out | apply KeepBut.set_ | apply keep_drewN | apply keep_drew | apply keep_alloc | refine keep_far ?_ GW158.out _ | refine keep_far ?_ GW159.out _) | exact HK.out)⟩
                have n5_ : Aside0 (Below w0.heap.size w0 (w37.setCell ⟨g, 2, none⟩ (.bool t190))) := ⟨by repeat (first | (with_reducible first | exact HB.out | apply below_alloc | apply pw_below_drewN | apply below_drew1 | refine below_set ?_ (IsS65.ge HI0.out) | refine below_set ?_ GE158.out | refine below_set ?_ GE159.out) | exact HB.out)⟩
                (try clear HO_160002)
                (try clear BK158)
                (try clear BK159)
                (try clear HI0)
                (try clear HK)
                (try clear HB)
                generalize (w37.setCell ⟨g, 2, none⟩ (.bool t190)) = w39 at n0_ n1_ n2_ n3_ n4_ n5_ ⊢
                have HO_160002 := n0_
                have BK158 := n1_
                have BK159 := n2_
                have HI0 := n3_
                have HK := n4_
                have HB := n5_
                clear n0_ n1_ n2_ n3_ n4_ n5_
                have n0_ := Aside0.mk (Kd.R_drew HO_160002.out)
                have n1_ := Aside0.mk (blk_drew BK158.out)
                have n2_ := Aside0.mk (blk_drew BK159.out)
                have n3_ := Aside0.mk (IsS65.drew HI0.out)
                have n4_ := Aside0.mk (keep_drew HK.out)
                have n5_ := Aside0.mk (below_drew1 HB.out)
                clear HO_160002
                clear BK158
                clear BK159
                clear HI0
                clear HK
                clear HB
                have HO_160002 := n0_
                have BK158 := n1_
                have BK159 := n2_
                have HI0 := n3_
                have HK := n4_
                have HB := n5_
                clear n0_ n1_ n2_ n3_ n4_ n5_
                refine start_ (n := 8) (S := fun w' => w'.cell? ⟨gb159, 0, none⟩ = some (.int .u32 t164) ∧ w'.cell? ⟨gb159, 1, none⟩ = some (.int .u32 t173) ∧ w'.cell? ⟨gb159, 2, none⟩ = some (u160002) ∧ w'.cell? ⟨gb159, 3, none⟩ = some (.int .u32 t182)) (ds := [7]) #[false, false, false, false, false, false, false, false] (by kernel_rfl) rfl rfl ⟨(blk_cell BK159.out 0).trans rfl, (blk_cell BK159.out 1).trans rfl, (blk_cell BK159.out 2).trans rfl, (blk_cell BK159.out 3).trans rfl⟩ (fun hHeld => ?_); refine with_tabW policy_reader_rest.tab13 policy_reader_rest.bits13 (fun HT_ HW_ => ?_)
                generalize w39.drew = w40 at HO_160002 BK158 BK159 HI0 HK HB hHeld ⊢
                refine pure_ (i := 0) (N := some 63) (v := ?_) (a' := ?_) #[true, false, false, false, false, false, false, false] rfl rfl (any_of HT_.out (by kernel_rfl)) (fun _ _ _ h => h) (Or.inl ⟨by rfl, ?_⟩) ?_ ?_
                rotate_left
                · intro w'
                  go_simp
                  with_reducible rfl
                rotate_left
                · simp only [Act.put, List.setIfInBounds_toArray, List.set_cons_zero, List.set_cons_succ, i64_w, i32_w]
                  rfl
                refine pure_ (i := 2) (N := some 65) (v := ?_) (a' := ?_) #[true, false, true, false, false, false, false, false] rfl rfl (any_of HT_.out (by kernel_rfl)) (fun _ _ _ h => h) (Or.inl ⟨by rfl, ?_⟩) ?_ ?_
                rotate_left
                · intro w'
                  go_simp
                  with_reducible rfl
                rotate_left
                · simp only [Act.put, List.setIfInBounds_toArray, List.set_cons_zero, List.set_cons_succ, i64_w, i32_w]
                  rfl
                refine take_ (i := 1) (N := some 64) (v := ?_) (a' := ?_) #[true, true, true, false, false, false, false, false] rfl rfl (take_ofW HT_.out HW_.out (by kernel_rfl)) (fun _ _ _ h => h) (Or.inl ⟨by rfl, ?_⟩) hHeld ?_ ?_
                rotate_left
                · rintro w' ⟨s0, s1, s2, s3⟩
                  go_simp
                  with_reducible rfl
                rotate_left
                · simp only [Act.put, List.setIfInBounds_toArray, List.set_cons_zero, List.set_cons_succ, i64_w, i32_w]
                  rfl
                refine one_ (i := 3) (N := some 66) #[true, true, true, true, false, false, false, false] rfl rfl (one_of HT_.out (by kernel_rfl)) (by decide) (fun K hK => ?_)
                refine goes_ Try.func61 (by kernel_rfl) rfl #[.pointer (some ⟨g, 0, none⟩)] (by rfl) rfl rfl (by (try simp only [List.map_toArray, List.map_cons, List.map_nil]); first | done | rfl | (simp only [List.length_drop, List.length_take]; rfl)) ?_
                with_reducible refine (policy_reader_condition.calls g t188 t189 t190 t191 t192 t193 t194 t195 t196 t197 w0 _ ?side1 ?side2 A35.out).mono ?_
                (case side1 => repeat (first | (with_reducible first | exact HI0.out | apply IsS65.alloc | apply IsS65.drewN | apply IsS65.drew | apply IsS65.set_0 | apply IsS65.set_1 | apply IsS65.set_2 | refine IsS65.far ?_ NB0_158.out _ | refine IsS65.far ?_ NB0_159.out _) | exact HI0.out))
                (case side2 => repeat (first | (with_reducible first | exact HB.out | apply below_alloc | apply pw_below_drewN | apply below_drew1 | refine below_set ?_ (IsS65.ge HI0.out) | refine below_set ?_ GE158.out | refine below_set ?_ GE159.out) | exact HB.out))
                rintro e w41 ⟨rfl, hi, hb, hk⟩
                refine ⟨_, rfl, ?_⟩
                have n0_ := Aside0.mk (Kd.R_mono (Kd.R_keep (IsS65.apart (show IsS65 w0 _ g t188 t189 t190 from by repeat (first | (with_reducible first | exact HI0.out | apply IsS65.alloc | apply IsS65.drewN | apply IsS65.drew | apply IsS65.set_0 | apply IsS65.set_1 | apply IsS65.set_2 | refine IsS65.far ?_ NB0_158.out _ | refine IsS65.far ?_ NB0_159.out _) | exact HI0.out)) (by (with_reducible repeat (first | apply Kd.R_alloc | apply Kd.R_drewN | apply Kd.R_drew)); exact HO_160002.out) (by decide)) hk (fun _ h => h.2)) (fun _ h => h.1))
                have n1_ := Aside0.mk (KeepBut.blk hk (g' := gb158) (o := .cells #[.int .u32 0, .int .u32 0, .slice none 0 0, .int .u32 0] 40 (0, 0)) (by (with_reducible repeat (first | refine blk_drewN ?_ _ | refine blk_drew ?_ | refine blk_alloc ?_ _)); exact BK158.out) NB158_0.out (by simp))
                have n2_ := Aside0.mk (KeepBut.blk hk (g' := gb159) (o := .cells #[.int .u32 t164, .int .u32 t173, u160002, .int .u32 t182] 40 (0, 0)) (by (with_reducible repeat (first | refine blk_drewN ?_ _ | refine blk_drew ?_ | refine blk_alloc ?_ _)); exact BK159.out) NB159_0.out (by simp))
                have n3_ := Aside0.mk (KeepBut.trans (by repeat (first | (with_reducible first | exact HK.out | apply KeepBut.set_ | apply keep_drewN | apply keep_drew | apply keep_alloc | refine keep_far ?_ GW158.out _ | refine keep_far ?_ GW159.out _) | exact HK.out)) hk (.inl rfl))
                have n4_ := Aside0.mk (hb)
                have n5_ := Aside0.mk (hi)
                clear HO_160002
                clear BK158
                clear BK159
                clear HK
                clear HB
                clear HI0
                have HO_160002 := n0_
                have BK158 := n1_
                have BK159 := n2_
                have HK := n3_
                have HB := n4_
                have HI0 := n5_
                clear n0_ n1_ n2_ n3_ n4_ n5_
                (try clear hb)
                (try clear hb2)
                (try clear hk)
                (try clear hi)
                refine hK.out _ _ ⟨(blk_cell BK159.out 0).trans rfl, (blk_cell BK159.out 1).trans rfl, (blk_cell BK159.out 2).trans rfl, (blk_cell BK159.out 3).trans rfl⟩ (fun hHeld => ?_)
                clear hK K
                refine norm_ (a' := ?_) ?_ ?_
                rotate_left
                · show Act.put _ (some 66) _ = _
                  simp only [Act.put, List.setIfInBounds_toArray, List.set_cons_zero, List.set_cons_succ, i64_w, i32_w]
                  rfl
                refine one_ (i := 4) (N := some 67) #[true, true, true, true, true, false, false, false] rfl rfl (one_of HT_.out (by kernel_rfl)) (by decide) (fun K hK => ?_)
                refine value_ (w1 := ?_) (v := ?_) (by rfl) rfl ?_ ?_
                rotate_left 2
                · go_simp
                  constructor
                  · rfl
                  · rfl
                refine hK.out _ _ ⟨(blk_cell (blk_alloc BK159.out _) 0).trans rfl, (blk_cell (blk_alloc BK159.out _) 1).trans rfl, (blk_cell (blk_alloc BK159.out _) 2).trans rfl, (blk_cell (blk_alloc BK159.out _) 3).trans rfl⟩ (fun hHeld => ?_)
                clear hK K
                refine norm_ (a' := ?_) ?_ ?_
                rotate_left
                · show Act.put _ (some 67) _ = _
                  simp only [Act.put, List.setIfInBounds_toArray, List.set_cons_zero, List.set_cons_succ, i64_w, i32_w]
                  rfl
                refine one_ (i := 5) (N := some 68) #[true, true, true, true, true, true, false, false] rfl rfl (one_of HT_.out (by kernel_rfl)) (by decide) (fun K hK => ?_)
                refine Kd.R_append_step k61 w.heap.size (by rfl) (.tmp 64) (.tmp 67) 38 61 (.agg #[(.int .i64 0), (.int .i64 0), (.int .u64 0), (.int .u64 0)]) 32 rfl Try.underlying38 info61 rfl (by decide) (by omega) u160002 x160002_1 (⟨t191, t192, t193, t194⟩ : S61) [.int .i64 t191, .int .i64 t192, .int .u64 t193, .int .u64 t194] (fun _ => True) (fun _ => False) rfl rfl ?aP (fun _ hk => hk.elim) ?aF ?aO (Below.refl _ _) ?aS ?aL ?_
                (case aP => exact k61_mkM _ _ _ (⟨t191, t192, t193, t194⟩ : S61))
                (case aF => exact (fun _ _ => trivial))
                (case aO => exact (by (with_reducible repeat (first | apply Kd.R_alloc | apply Kd.R_drewN | apply Kd.R_drew)); exact HO_160002.out))
                (case aS => exact (keep_size (w := w) (g := g) (row := none) (by repeat (first | (with_reducible first | exact HK.out | apply KeepBut.set_ | apply keep_drewN | apply keep_drew | apply keep_alloc | refine keep_far ?_ GW158.out _ | refine keep_far ?_ GW159.out _) | exact HK.out))))
                (case aL => have := LMc36.out; omega)
                intro v199 w42 ho hb hg hat
                rw [← Ny198.out] at ho
                have n0_ := Aside0.mk (blk_grown (g := gb158) (o := .cells #[.int .u32 0, .int .u32 0, .slice none 0 0, .int .u32 0] 40 (0, 0)) (by (with_reducible repeat (first | refine blk_drewN ?_ _ | refine blk_drew ?_ | refine blk_alloc ?_ _)); exact BK158.out) hg (Kd.R_ne HO_160002.out BK158.out (by decide)))
                have n1_ := Aside0.mk (blk_grown (g := gb159) (o := .cells #[.int .u32 t164, .int .u32 t173, u160002, .int .u32 t182] 40 (0, 0)) (by (with_reducible repeat (first | refine blk_drewN ?_ _ | refine blk_drew ?_ | refine blk_alloc ?_ _)); exact BK159.out) hg (Kd.R_ne HO_160002.out BK159.out (by decide)))
                have n2_ := Aside0.mk (IsS65.grown (by repeat (first | (with_reducible first | exact HI0.out | apply IsS65.alloc | apply IsS65.drewN | apply IsS65.drew | apply IsS65.set_0 | apply IsS65.set_1 | apply IsS65.set_2 | refine IsS65.far ?_ NB0_158.out _ | refine IsS65.far ?_ NB0_159.out _) | exact HI0.out)) hg (IsS65.own_ne HI0.out HO_160002.out (by decide)))
                have n3_ := Aside0.mk (below_weaken (by repeat (first | (with_reducible first | exact HB.out | apply below_alloc | apply pw_below_drewN | apply below_drew1 | refine below_set ?_ (IsS65.ge HI0.out) | refine below_set ?_ GE158.out | refine below_set ?_ GE159.out) | exact HB.out)) HL.out hb)
                have n4_ := Aside0.mk (KeepBut.trans (by repeat (first | (with_reducible first | exact HK.out | apply KeepBut.set_ | apply keep_drewN | apply keep_drew | apply keep_alloc | refine keep_far ?_ GW158.out _ | refine keep_far ?_ GW159.out _) | exact HK.out)) (KeepBut.of_grown hg g) (Kd.R_base2 HO_160002.out))
                have n5_ := Aside0.mk (ho)
                clear BK158
                clear BK159
                clear HI0
                clear HB
                clear HK
                clear HO_160002
                have BK158 := n0_
                have BK159 := n1_
                have HI0 := n2_
                have HB := n3_
                have HK := n4_
                have HO200 := n5_
                clear n0_ n1_ n2_ n3_ n4_ n5_
                clear ho hb hg hat
                obtain ⟨Ao43, co43, eo43⟩ := Kd.R_slice HO200.out
                (first | subst eo43 | (injection eo43 with f1_ f2_ f3_; have f4_ := f1_.symm; have f5_ := f3_.symm; clear f1_ f2_ f3_; subst f4_; subst f5_))
                refine hK.out _ _ ⟨(blk_cell BK159.out 0).trans rfl, (blk_cell BK159.out 1).trans rfl, (blk_cell BK159.out 2).trans rfl, (blk_cell BK159.out 3).trans rfl⟩ (fun hHeld => ?_)
                clear hK K
                refine norm_ (a' := ?_) ?_ ?_
                rotate_left
                · show Act.put _ (some 68) _ = _
                  simp only [Act.put, List.setIfInBounds_toArray, List.set_cons_zero, List.set_cons_succ, i64_w, i32_w]
                  rfl
                refine pure_ (i := 6) (N := some 69) (v := ?_) (a' := ?_) #[true, true, true, true, true, true, true, false] rfl rfl (any_of HT_.out (by kernel_rfl)) (fun _ _ _ h => h) (Or.inl ⟨by rfl, ?_⟩) ?_ ?_
                rotate_left
                · intro w'
                  go_simp
                  with_reducible rfl
                rotate_left
                · simp only [Act.put, List.setIfInBounds_toArray, List.set_cons_zero, List.set_cons_succ, i64_w, i32_w]
                  rfl
                refine last_ (i := 7) (N := none) #[true, true, true, true, true, true, true, true] rfl rfl (one_of HT_.out (by kernel_rfl)) (by decide) (fun K hK => ?_)
                have hs44 : w42.cell? ⟨gb159, 2, none⟩ = some (u160002) := (blk_cell BK159.out 2).trans rfl
                have hfs44 := blk_frozen BK159.out 2
                have hns44_0 := NB158_159.out
                have hms44_0 := NB159_158.out
                refine skip_ (w1 := ?_) (by rfl) rfl ?_ ?_
                rotate_left
                · go_simp
                  rfl
                refine hK.out _ _ ?_
                clear hK K
                refine done_ (done_of HT_.out (by kernel_rfl)) ?_
                try go_wp2
                go_roundg kj27
                case measure => have := HK1.out; have := HJ27.out; omega
                case rel => exact ⟨((⟨#[97, 110, 100]⟩ : ByteArray)), (t195), (t196), (t197), (y198), (.slice Ao43 y198.length co43), (by first | rfl | (simp; done) | (simp [*]; done)), H', ⟨by have := HK1.out; have := HJ27.out; omega⟩, ⟨by (with_reducible repeat (first | apply Kd.R_alloc | apply Kd.R_drewN | apply Kd.R_drew)); exact Kd.R_mono (Kd.R_far (p := ⟨gb159, 2, none⟩) (Kd.R_types HO200.out BK159.out (by decide)) (fun _ hk => hk.2) (.slice Ao43 y198.length co43)) (fun _ hk => trivial)⟩, ⟨by (with_reducible repeat (first | refine blk_drewN ?_ _ | refine blk_drew ?_ | refine blk_alloc ?_ _)); refine blk_far ?_ NB158_159.out _; (with_reducible repeat (first | refine blk_drewN ?_ _ | refine blk_drew ?_ | refine blk_alloc ?_ _)); exact BK158.out⟩, ⟨by (with_reducible repeat (first | refine blk_drewN ?_ _ | refine blk_drew ?_ | refine blk_alloc ?_ _)); refine blk_put (cs := #[.int .u32 t164, .int .u32 t173, u160002, .int .u32 t182]) ?_ 2 _ rfl; (with_reducible repeat (first | refine blk_drewN ?_ _ | refine blk_drew ?_ | refine blk_alloc ?_ _)); exact BK159.out⟩, ⟨by repeat (first | (with_reducible first | exact HI0.out | apply IsS65.alloc | apply IsS65.drewN | apply IsS65.drew | apply IsS65.set_0 | apply IsS65.set_1 | apply IsS65.set_2 | refine IsS65.far ?_ NB0_158.out _ | refine IsS65.far ?_ NB0_159.out _) | exact HI0.out)⟩, ⟨by repeat (first | (with_reducible first | exact HK.out | apply KeepBut.set_ | apply keep_drewN | apply keep_drew | apply keep_alloc | refine keep_far ?_ GW158.out _ | refine keep_far ?_ GW159.out _) | exact HK.out)⟩, ⟨by repeat (first | (with_reducible first | exact HB.out | apply below_alloc | apply pw_below_drewN | apply below_drew1 | refine below_set ?_ (IsS65.ge HI0.out) | refine below_set ?_ GE158.out | refine below_set ?_ GE159.out) | exact HB.out)⟩⟩
              · rw [if_neg c36] at H
                exact absurd H (by simp)
            · rw [if_neg c34] at H
              have c34b0 : (t187.toList == x5_1.toList) = false := beq_eq_false_iff_ne.mpr c34
              have c34b1 : (t187.toList != x5_1.toList) = true := bne_iff_ne.mpr c34
              replace H := Option.bind_eq_some_iff.mp H
              obtain ⟨⟨t201, t202, t203, t204, t205, t206, t207⟩, A450, H⟩ := H
              replace H : (if x160002_1.length < 4398046511104 then (policy_reader_rest.l0 kj27 (⟨#[97, 110, 100]⟩ : ByteArray) t205 t206 t207 t164 t173 (x160002_1 ++ [(⟨t201, t202, t203, t204⟩ : S61)]) t182) else (none)) = some (r1, r2, r3, r4, r5, r6, r7) := H
              have A45 := Aside0.mk A450
              clear A450
              by_cases c46 : x160002_1.length < 4398046511104
              · rw [if_pos c46] at H
                have LMc46 := Aside0.mk c46
                clear c46
                obtain ⟨y208, hy208⟩ : ∃ y_ : List (S61), y_ = (x160002_1 ++ [(⟨t201, t202, t203, t204⟩ : S61)]) := ⟨_, rfl⟩
                replace H : (policy_reader_rest.l0 kj27 (⟨#[97, 110, 100]⟩ : ByteArray) t205 t206 t207 t164 t173 y208 t182) = some (r1, r2, r3, r4, r5, r6, r7) := by first | (rw [hy208]; with_reducible exact H) | (have H2_ := (Option.bind_some _ _).symm.trans H; rw [hy208]; with_reducible exact H2_) | (have H2_ := (Option.bind_some _ _).symm.trans H; with_reducible exact H2_) | with_reducible exact H | (rw [hy208]; exact H) | exact H
                have Ny208 := Aside0.mk hy208
                clear hy208
                have H' := Aside0.mk H
                clear H
                try go_wp2_with (first | ((with_reducible refine gate_callee (f := 37) rfl ?_); refine goesL_ (some 52) rfl rfl Try.func37 (by kernel_rfl) rfl #[.pointer (some ⟨g, 0, none⟩)] rfl (by (try simp only [List.map_toArray, List.map_cons, List.map_nil]); first | done | rfl | (simp only [List.length_drop, List.length_take]; rfl)) ?_; (with_reducible refine (policy_reader_word.calls g x1000_1 x1001_1 x1002_1 t187 t188 t189 t190 w0 _ ?side1 ?side2 A33.out).mono ?_); (case side1 => repeat (first | (with_reducible first | exact HI0.out | apply IsS65.alloc | apply IsS65.drewN | apply IsS65.drew | apply IsS65.set_0 | apply IsS65.set_1 | apply IsS65.set_2 | refine IsS65.far ?_ NB0_158.out _ | refine IsS65.far ?_ NB0_159.out _) | exact HI0.out)); (case side2 => repeat (first | (with_reducible first | exact HB.out | apply below_alloc | apply pw_below_drewN | apply below_drew1 | refine below_set ?_ (IsS65.ge HI0.out) | refine below_set ?_ GE158.out | refine below_set ?_ GE159.out) | exact HB.out)); rintro e w47 ⟨rfl, hi, hb, hk⟩; refine ⟨_, rfl, ?_⟩; have n0_ := Aside0.mk (Kd.R_mono (Kd.R_keep (IsS65.apart (show IsS65 w0 _ g x1000_1 x1001_1 x1002_1 from by repeat (first | (with_reducible first | exact HI0.out | apply IsS65.alloc | apply IsS65.drewN | apply IsS65.drew | apply IsS65.set_0 | apply IsS65.set_1 | apply IsS65.set_2 | refine IsS65.far ?_ NB0_158.out _ | refine IsS65.far ?_ NB0_159.out _) | exact HI0.out)) (by (with_reducible repeat (first | apply Kd.R_alloc | apply Kd.R_drewN | apply Kd.R_drew)); exact HO_160002.out) (by decide)) hk (fun _ h => h.2)) (fun _ h => h.1)); have n1_ := Aside0.mk (KeepBut.blk hk (g' := gb158) (o := .cells #[.int .u32 0, .int .u32 0, .slice none 0 0, .int .u32 0] 40 (0, 0)) (by (with_reducible repeat (first | refine blk_drewN ?_ _ | refine blk_drew ?_ | refine blk_alloc ?_ _)); exact BK158.out) NB158_0.out (by simp)); have n2_ := Aside0.mk (KeepBut.blk hk (g' := gb159) (o := .cells #[.int .u32 t164, .int .u32 t173, u160002, .int .u32 t182] 40 (0, 0)) (by (with_reducible repeat (first | refine blk_drewN ?_ _ | refine blk_drew ?_ | refine blk_alloc ?_ _)); exact BK159.out) NB159_0.out (by simp)); have n3_ := Aside0.mk (KeepBut.trans (by repeat (first | (with_reducible first | exact HK.out | apply KeepBut.set_ | apply keep_drewN | apply keep_drew | apply keep_alloc | refine keep_far ?_ GW158.out _ | refine keep_far ?_ GW159.out _) | exact HK.out)) hk (.inl rfl)); have n4_ := Aside0.mk (hb); have n5_ := Aside0.mk (hi); clear HO_160002; clear BK158; clear BK159; clear HK; clear HB; clear HI0; have HO_160002 := n0_; have BK158 := n1_; have BK159 := n2_; have HK := n3_; have HB := n4_; have HI0 := n5_; clear n0_ n1_ n2_ n3_ n4_ n5_; (try clear hb); (try clear hb2); (try clear hk); (try clear hi); obtain ⟨HGz48, hgz48⟩ := HI0.out; have hcz48_0 := cellS65_0 HGz48; have hcz48_1 := cellS65_1 HGz48; have hcz48_2 := cellS65_2 HGz48; have hfz48_0 := blk_frozen HGz48 0; have hfz48_1 := blk_frozen HGz48 1; have hfz48_2 := blk_frozen HGz48 2; clear HGz48 hgz48))
                have n0_ : Aside0 (Kd.R k61 61 (w47.setCell ⟨g, 2, none⟩ (.bool true)) w.heap.size (fun _ => True) u160002 x160002_1) := ⟨by (with_reducible repeat (first | apply Kd.R_alloc | apply Kd.R_drewN | apply Kd.R_drew)); exact Kd.R_mono (Kd.R_far (p := ⟨g, 2, none⟩) (IsS65.apart HI0.out HO_160002.out (by decide)) (fun _ hk => hk.2) (.bool true)) (fun _ hk => trivial)⟩
                have n1_ : Aside0 ((w47.setCell ⟨g, 2, none⟩ (.bool true)).heap[gb158]? = some (.cells #[.int .u32 0, .int .u32 0, .slice none 0 0, .int .u32 0] 40 (0, 0))) := ⟨by (with_reducible repeat (first | refine blk_drewN ?_ _ | refine blk_drew ?_ | refine blk_alloc ?_ _)); refine blk_far ?_ NB158_0.out _; (with_reducible repeat (first | refine blk_drewN ?_ _ | refine blk_drew ?_ | refine blk_alloc ?_ _)); exact BK158.out⟩
                have n2_ : Aside0 ((w47.setCell ⟨g, 2, none⟩ (.bool true)).heap[gb159]? = some (.cells #[.int .u32 t164, .int .u32 t173, u160002, .int .u32 t182] 40 (0, 0))) := ⟨by (with_reducible repeat (first | refine blk_drewN ?_ _ | refine blk_drew ?_ | refine blk_alloc ?_ _)); refine blk_far ?_ NB159_0.out _; (with_reducible repeat (first | refine blk_drewN ?_ _ | refine blk_drew ?_ | refine blk_alloc ?_ _)); exact BK159.out⟩
                have n3_ : Aside0 (IsS65 w0 (w47.setCell ⟨g, 2, none⟩ (.bool true)) g t188 t189 true) := ⟨by repeat (first | (with_reducible first | exact HI0.out | apply IsS65.alloc | apply IsS65.drewN | apply IsS65.drew | apply IsS65.set_0 | apply IsS65.set_1 | apply IsS65.set_2 | refine IsS65.far ?_ NB0_158.out _ | refine IsS65.far ?_ NB0_159.out _) | exact HI0.out)⟩
                have n4_ : Aside0 (KeepBut w (w47.setCell ⟨g, 2, none⟩ (.bool true)) g none) := ⟨by repeat (first | (with_reducible first | exact HK.out | apply KeepBut.set_ | apply keep_drewN | apply keep_drew | apply keep_alloc | refine keep_far ?_ GW158.out _ | refine keep_far ?_ GW159.out _) | exact HK.out)⟩
                have n5_ : Aside0 (Below w0.heap.size w0 (w47.setCell ⟨g, 2, none⟩ (.bool true))) := ⟨by repeat (first | (with_reducible first | exact HB.out | apply below_alloc | apply pw_below_drewN | apply below_drew1 | refine below_set ?_ (IsS65.ge HI0.out) | refine below_set ?_ GE158.out | refine below_set ?_ GE159.out) | exact HB.out)⟩
                (try clear HO_160002)
                (try clear BK158)
                (try clear BK159)
                (try clear HI0)
                (try clear HK)
                (try clear HB)
                generalize (w47.setCell ⟨g, 2, none⟩ (.bool true)) = w49 at n0_ n1_ n2_ n3_ n4_ n5_ ⊢
                have HO_160002 := n0_
                have BK158 := n1_
                have BK159 := n2_
                have HI0 := n3_
                have HK := n4_
                have HB := n5_
                clear n0_ n1_ n2_ n3_ n4_ n5_
                have n0_ := Aside0.mk (Kd.R_drew HO_160002.out)
                have n1_ := Aside0.mk (blk_drew BK158.out)
                have n2_ := Aside0.mk (blk_drew BK159.out)
                have n3_ := Aside0.mk (IsS65.drew HI0.out)
                have n4_ := Aside0.mk (keep_drew HK.out)
                have n5_ := Aside0.mk (below_drew1 HB.out)
                clear HO_160002
                clear BK158
                clear BK159
                clear HI0
                clear HK
                clear HB
                have HO_160002 := n0_
                have BK158 := n1_
                have BK159 := n2_
                have HI0 := n3_
                have HK := n4_
                have HB := n5_
                clear n0_ n1_ n2_ n3_ n4_ n5_
                refine start_ (n := 8) (S := fun w' => w'.cell? ⟨gb159, 0, none⟩ = some (.int .u32 t164) ∧ w'.cell? ⟨gb159, 1, none⟩ = some (.int .u32 t173) ∧ w'.cell? ⟨gb159, 2, none⟩ = some (u160002) ∧ w'.cell? ⟨gb159, 3, none⟩ = some (.int .u32 t182)) (ds := [7]) #[false, false, false, false, false, false, false, false] (by kernel_rfl) rfl rfl ⟨(blk_cell BK159.out 0).trans rfl, (blk_cell BK159.out 1).trans rfl, (blk_cell BK159.out 2).trans rfl, (blk_cell BK159.out 3).trans rfl⟩ (fun hHeld => ?_); refine with_tabW policy_reader_rest.tab13 policy_reader_rest.bits13 (fun HT_ HW_ => ?_)
                generalize w49.drew = w50 at HO_160002 BK158 BK159 HI0 HK HB hHeld ⊢
                refine pure_ (i := 0) (N := some 63) (v := ?_) (a' := ?_) #[true, false, false, false, false, false, false, false] rfl rfl (any_of HT_.out (by kernel_rfl)) (fun _ _ _ h => h) (Or.inl ⟨by rfl, ?_⟩) ?_ ?_
                rotate_left
                · intro w'
                  go_simp
                  with_reducible rfl
                rotate_left
                · simp only [Act.put, List.setIfInBounds_toArray, List.set_cons_zero, List.set_cons_succ, i64_w, i32_w]
                  rfl
                refine pure_ (i := 2) (N := some 65) (v := ?_) (a' := ?_) #[true, false, true, false, false, false, false, false] rfl rfl (any_of HT_.out (by kernel_rfl)) (fun _ _ _ h => h) (Or.inl ⟨by rfl, ?_⟩) ?_ ?_
                rotate_left
                · intro w'
                  go_simp
                  with_reducible rfl
                rotate_left
                · simp only [Act.put, List.setIfInBounds_toArray, List.set_cons_zero, List.set_cons_succ, i64_w, i32_w]
                  rfl
                refine take_ (i := 1) (N := some 64) (v := ?_) (a' := ?_) #[true, true, true, false, false, false, false, false] rfl rfl (take_ofW HT_.out HW_.out (by kernel_rfl)) (fun _ _ _ h => h) (Or.inl ⟨by rfl, ?_⟩) hHeld ?_ ?_
                rotate_left
                · rintro w' ⟨s0, s1, s2, s3⟩
                  go_simp
                  with_reducible rfl
                rotate_left
                · simp only [Act.put, List.setIfInBounds_toArray, List.set_cons_zero, List.set_cons_succ, i64_w, i32_w]
                  rfl
                refine one_ (i := 3) (N := some 66) #[true, true, true, true, false, false, false, false] rfl rfl (one_of HT_.out (by kernel_rfl)) (by decide) (fun K hK => ?_)
                refine goes_ Try.func61 (by kernel_rfl) rfl #[.pointer (some ⟨g, 0, none⟩)] (by rfl) rfl rfl (by (try simp only [List.map_toArray, List.map_cons, List.map_nil]); first | done | rfl | (simp only [List.length_drop, List.length_take]; rfl)) ?_
                with_reducible refine (policy_reader_condition.calls g t188 t189 true t201 t202 t203 t204 t205 t206 t207 w0 _ ?side1 ?side2 A45.out).mono ?_
                (case side1 => repeat (first | (with_reducible first | exact HI0.out | apply IsS65.alloc | apply IsS65.drewN | apply IsS65.drew | apply IsS65.set_0 | apply IsS65.set_1 | apply IsS65.set_2 | refine IsS65.far ?_ NB0_158.out _ | refine IsS65.far ?_ NB0_159.out _) | exact HI0.out))
                (case side2 => repeat (first | (with_reducible first | exact HB.out | apply below_alloc | apply pw_below_drewN | apply below_drew1 | refine below_set ?_ (IsS65.ge HI0.out) | refine below_set ?_ GE158.out | refine below_set ?_ GE159.out) | exact HB.out))
                rintro e w51 ⟨rfl, hi, hb, hk⟩
                refine ⟨_, rfl, ?_⟩
                have n0_ := Aside0.mk (Kd.R_mono (Kd.R_keep (IsS65.apart (show IsS65 w0 _ g t188 t189 true from by repeat (first | (with_reducible first | exact HI0.out | apply IsS65.alloc | apply IsS65.drewN | apply IsS65.drew | apply IsS65.set_0 | apply IsS65.set_1 | apply IsS65.set_2 | refine IsS65.far ?_ NB0_158.out _ | refine IsS65.far ?_ NB0_159.out _) | exact HI0.out)) (by (with_reducible repeat (first | apply Kd.R_alloc | apply Kd.R_drewN | apply Kd.R_drew)); exact HO_160002.out) (by decide)) hk (fun _ h => h.2)) (fun _ h => h.1))
                have n1_ := Aside0.mk (KeepBut.blk hk (g' := gb158) (o := .cells #[.int .u32 0, .int .u32 0, .slice none 0 0, .int .u32 0] 40 (0, 0)) (by (with_reducible repeat (first | refine blk_drewN ?_ _ | refine blk_drew ?_ | refine blk_alloc ?_ _)); exact BK158.out) NB158_0.out (by simp))
                have n2_ := Aside0.mk (KeepBut.blk hk (g' := gb159) (o := .cells #[.int .u32 t164, .int .u32 t173, u160002, .int .u32 t182] 40 (0, 0)) (by (with_reducible repeat (first | refine blk_drewN ?_ _ | refine blk_drew ?_ | refine blk_alloc ?_ _)); exact BK159.out) NB159_0.out (by simp))
                have n3_ := Aside0.mk (KeepBut.trans (by repeat (first | (with_reducible first | exact HK.out | apply KeepBut.set_ | apply keep_drewN | apply keep_drew | apply keep_alloc | refine keep_far ?_ GW158.out _ | refine keep_far ?_ GW159.out _) | exact HK.out)) hk (.inl rfl))
                have n4_ := Aside0.mk (hb)
                have n5_ := Aside0.mk (hi)
                clear HO_160002
                clear BK158
                clear BK159
                clear HK
                clear HB
                clear HI0
                have HO_160002 := n0_
                have BK158 := n1_
                have BK159 := n2_
                have HK := n3_
                have HB := n4_
                have HI0 := n5_
                clear n0_ n1_ n2_ n3_ n4_ n5_
                (try clear hb)
                (try clear hb2)
                (try clear hk)
                (try clear hi)
                refine hK.out _ _ ⟨(blk_cell BK159.out 0).trans rfl, (blk_cell BK159.out 1).trans rfl, (blk_cell BK159.out 2).trans rfl, (blk_cell BK159.out 3).trans rfl⟩ (fun hHeld => ?_)
                clear hK K
                refine norm_ (a' := ?_) ?_ ?_
                rotate_left
                · show Act.put _ (some 66) _ = _
                  simp only [Act.put, List.setIfInBounds_toArray, List.set_cons_zero, List.set_cons_succ, i64_w, i32_w]
                  rfl
                refine one_ (i := 4) (N := some 67) #[true, true, true, true, true, false, false, false] rfl rfl (one_of HT_.out (by kernel_rfl)) (by decide) (fun K hK => ?_)
                refine value_ (w1 := ?_) (v := ?_) (by rfl) rfl ?_ ?_
                rotate_left 2
                · go_simp
                  constructor
                  · rfl
                  · rfl
                refine hK.out _ _ ⟨(blk_cell (blk_alloc BK159.out _) 0).trans rfl, (blk_cell (blk_alloc BK159.out _) 1).trans rfl, (blk_cell (blk_alloc BK159.out _) 2).trans rfl, (blk_cell (blk_alloc BK159.out _) 3).trans rfl⟩ (fun hHeld => ?_)
                clear hK K
                refine norm_ (a' := ?_) ?_ ?_
                rotate_left
                · show Act.put _ (some 67) _ = _
                  simp only [Act.put, List.setIfInBounds_toArray, List.set_cons_zero, List.set_cons_succ, i64_w, i32_w]
                  rfl
                refine one_ (i := 5) (N := some 68) #[true, true, true, true, true, true, false, false] rfl rfl (one_of HT_.out (by kernel_rfl)) (by decide) (fun K hK => ?_)
                refine Kd.R_append_step k61 w.heap.size (by rfl) (.tmp 64) (.tmp 67) 38 61 (.agg #[(.int .i64 0), (.int .i64 0), (.int .u64 0), (.int .u64 0)]) 32 rfl Try.underlying38 info61 rfl (by decide) (by omega) u160002 x160002_1 (⟨t201, t202, t203, t204⟩ : S61) [.int .i64 t201, .int .i64 t202, .int .u64 t203, .int .u64 t204] (fun _ => True) (fun _ => False) rfl rfl ?aP (fun _ hk => hk.elim) ?aF ?aO (Below.refl _ _) ?aS ?aL ?_
                (case aP => exact k61_mkM _ _ _ (⟨t201, t202, t203, t204⟩ : S61))
                (case aF => exact (fun _ _ => trivial))
                (case aO => exact (by (with_reducible repeat (first | apply Kd.R_alloc | apply Kd.R_drewN | apply Kd.R_drew)); exact HO_160002.out))
                (case aS => exact (keep_size (w := w) (g := g) (row := none) (by repeat (first | (with_reducible first | exact HK.out | apply KeepBut.set_ | apply keep_drewN | apply keep_drew | apply keep_alloc | refine keep_far ?_ GW158.out _ | refine keep_far ?_ GW159.out _) | exact HK.out))))
                (case aL => have := LMc46.out; omega)
                intro v209 w52 ho hb hg hat
                rw [← Ny208.out] at ho
                have n0_ := Aside0.mk (blk_grown (g := gb158) (o := .cells #[.int .u32 0, .int .u32 0, .slice none 0 0, .int .u32 0] 40 (0, 0)) (by (with_reducible repeat (first | refine blk_drewN ?_ _ | refine blk_drew ?_ | refine blk_alloc ?_ _)); exact BK158.out) hg (Kd.R_ne HO_160002.out BK158.out (by decide)))
                have n1_ := Aside0.mk (blk_grown (g := gb159) (o := .cells #[.int .u32 t164, .int .u32 t173, u160002, .int .u32 t182] 40 (0, 0)) (by (with_reducible repeat (first | refine blk_drewN ?_ _ | refine blk_drew ?_ | refine blk_alloc ?_ _)); exact BK159.out) hg (Kd.R_ne HO_160002.out BK159.out (by decide)))
                have n2_ := Aside0.mk (IsS65.grown (by repeat (first | (with_reducible first | exact HI0.out | apply IsS65.alloc | apply IsS65.drewN | apply IsS65.drew | apply IsS65.set_0 | apply IsS65.set_1 | apply IsS65.set_2 | refine IsS65.far ?_ NB0_158.out _ | refine IsS65.far ?_ NB0_159.out _) | exact HI0.out)) hg (IsS65.own_ne HI0.out HO_160002.out (by decide)))
                have n3_ := Aside0.mk (below_weaken (by repeat (first | (with_reducible first | exact HB.out | apply below_alloc | apply pw_below_drewN | apply below_drew1 | refine below_set ?_ (IsS65.ge HI0.out) | refine below_set ?_ GE158.out | refine below_set ?_ GE159.out) | exact HB.out)) HL.out hb)
                have n4_ := Aside0.mk (KeepBut.trans (by repeat (first | (with_reducible first | exact HK.out | apply KeepBut.set_ | apply keep_drewN | apply keep_drew | apply keep_alloc | refine keep_far ?_ GW158.out _ | refine keep_far ?_ GW159.out _) | exact HK.out)) (KeepBut.of_grown hg g) (Kd.R_base2 HO_160002.out))
                have n5_ := Aside0.mk (ho)
                clear BK158
                clear BK159
                clear HI0
                clear HB
                clear HK
                clear HO_160002
                have BK158 := n0_
                have BK159 := n1_
                have HI0 := n2_
                have HB := n3_
                have HK := n4_
                have HO210 := n5_
                clear n0_ n1_ n2_ n3_ n4_ n5_
                clear ho hb hg hat
                obtain ⟨Ao53, co53, eo53⟩ := Kd.R_slice HO210.out
                (first | subst eo53 | (injection eo53 with f1_ f2_ f3_; have f4_ := f1_.symm; have f5_ := f3_.symm; clear f1_ f2_ f3_; subst f4_; subst f5_))
                refine hK.out _ _ ⟨(blk_cell BK159.out 0).trans rfl, (blk_cell BK159.out 1).trans rfl, (blk_cell BK159.out 2).trans rfl, (blk_cell BK159.out 3).trans rfl⟩ (fun hHeld => ?_)
                clear hK K
                refine norm_ (a' := ?_) ?_ ?_
                rotate_left
                · show Act.put _ (some 68) _ = _
                  simp only [Act.put, List.setIfInBounds_toArray, List.set_cons_zero, List.set_cons_succ, i64_w, i32_w]
                  rfl
                refine pure_ (i := 6) (N := some 69) (v := ?_) (a' := ?_) #[true, true, true, true, true, true, true, false] rfl rfl (any_of HT_.out (by kernel_rfl)) (fun _ _ _ h => h) (Or.inl ⟨by rfl, ?_⟩) ?_ ?_
                rotate_left
                · intro w'
                  go_simp
                  with_reducible rfl
                rotate_left
                · simp only [Act.put, List.setIfInBounds_toArray, List.set_cons_zero, List.set_cons_succ, i64_w, i32_w]
                  rfl
                refine last_ (i := 7) (N := none) #[true, true, true, true, true, true, true, true] rfl rfl (one_of HT_.out (by kernel_rfl)) (by decide) (fun K hK => ?_)
                have hs54 : w52.cell? ⟨gb159, 2, none⟩ = some (u160002) := (blk_cell BK159.out 2).trans rfl
                have hfs54 := blk_frozen BK159.out 2
                have hns54_0 := NB158_159.out
                have hms54_0 := NB159_158.out
                refine skip_ (w1 := ?_) (by rfl) rfl ?_ ?_
                rotate_left
                · go_simp
                  rfl
                refine hK.out _ _ ?_
                clear hK K
                refine done_ (done_of HT_.out (by kernel_rfl)) ?_
                try go_wp2
                go_roundg kj27
                case measure => have := HK1.out; have := HJ27.out; omega
                case rel => exact ⟨((⟨#[97, 110, 100]⟩ : ByteArray)), (t205), (t206), (t207), (y208), (.slice Ao53 y208.length co53), (by first | rfl | (simp; done) | (simp [*]; done)), H', ⟨by have := HK1.out; have := HJ27.out; omega⟩, ⟨by (with_reducible repeat (first | apply Kd.R_alloc | apply Kd.R_drewN | apply Kd.R_drew)); exact Kd.R_mono (Kd.R_far (p := ⟨gb159, 2, none⟩) (Kd.R_types HO210.out BK159.out (by decide)) (fun _ hk => hk.2) (.slice Ao53 y208.length co53)) (fun _ hk => trivial)⟩, ⟨by (with_reducible repeat (first | refine blk_drewN ?_ _ | refine blk_drew ?_ | refine blk_alloc ?_ _)); refine blk_far ?_ NB158_159.out _; (with_reducible repeat (first | refine blk_drewN ?_ _ | refine blk_drew ?_ | refine blk_alloc ?_ _)); exact BK158.out⟩, ⟨by (with_reducible repeat (first | refine blk_drewN ?_ _ | refine blk_drew ?_ | refine blk_alloc ?_ _)); refine blk_put (cs := #[.int .u32 t164, .int .u32 t173, u160002, .int .u32 t182]) ?_ 2 _ rfl; (with_reducible repeat (first | refine blk_drewN ?_ _ | refine blk_drew ?_ | refine blk_alloc ?_ _)); exact BK159.out⟩, ⟨by repeat (first | (with_reducible first | exact HI0.out | apply IsS65.alloc | apply IsS65.drewN | apply IsS65.drew | apply IsS65.set_0 | apply IsS65.set_1 | apply IsS65.set_2 | refine IsS65.far ?_ NB0_158.out _ | refine IsS65.far ?_ NB0_159.out _) | exact HI0.out)⟩, ⟨by repeat (first | (with_reducible first | exact HK.out | apply KeepBut.set_ | apply keep_drewN | apply keep_drew | apply keep_alloc | refine keep_far ?_ GW158.out _ | refine keep_far ?_ GW159.out _) | exact HK.out)⟩, ⟨by repeat (first | (with_reducible first | exact HB.out | apply below_alloc | apply pw_below_drewN | apply below_drew1 | refine below_set ?_ (IsS65.ge HI0.out) | refine below_set ?_ GE158.out | refine below_set ?_ GE159.out) | exact HB.out)⟩⟩
              · rw [if_neg c46] at H
                exact absurd H (by simp)
          · replace c32 := Bool.eq_false_iff.mpr c32
            subst c32
            have H1 : (if x1002_1 = true then (some (t164, t173, x160002_1, t182, x1000_1, x1001_1, true)) else (some (t164, t173, x160002_1, t182, x1000_1, x1001_1, decide ((x160002_1.length : Int) > 4)))) = some (r1, r2, r3, r4, r5, r6, r7) := by rw [if_neg (show ¬ (false = true) by decide)] at H; exact H
            clear H
            have H := H1
            clear H1
            by_cases c55 : x1002_1 = true
            · subst c55
              have H1 : (some (t164, t173, x160002_1, t182, x1000_1, x1001_1, true)) = some (r1, r2, r3, r4, r5, r6, r7) := by rw [if_pos rfl] at H; exact H
              clear H
              have H := H1
              clear H1
              simp only [Option.some.injEq, Prod.mk.injEq] at H
              obtain ⟨rfl, rfl, rfl, rfl, rfl, rfl, rfl⟩ := H
              obtain ⟨HGz56, hgz56⟩ := HI0.out
              have hcz56_0 := cellS65_0 HGz56
              have hcz56_1 := cellS65_1 HGz56
              have hcz56_2 := cellS65_2 HGz56
              have hfz56_0 := blk_frozen HGz56 0
              have hfz56_1 := blk_frozen HGz56 1
              have hfz56_2 := blk_frozen HGz56 2
              clear HGz56 hgz56
              have hnb57 := NB159_158.out
              have hnc57 := NB158_159.out
              have hnb58 := NB159_0.out
              have hnc58 := NB0_159.out
              have hcz59_0 : wc.cell? ⟨gb159, 0, none⟩ = some (.int .u32 t164) := (blk_cell BK159.out 0).trans rfl
              have hcz59_1 : wc.cell? ⟨gb159, 1, none⟩ = some (.int .u32 t173) := (blk_cell BK159.out 1).trans rfl
              have hcz59_2 : wc.cell? ⟨gb159, 2, none⟩ = some (u160002) := (blk_cell BK159.out 2).trans rfl
              have hcz59_3 : wc.cell? ⟨gb159, 3, none⟩ = some (.int .u32 t182) := (blk_cell BK159.out 3).trans rfl
              have hfz59_0 := blk_frozen BK159.out 0
              have hfz59_1 := blk_frozen BK159.out 1
              have hfz59_2 := blk_frozen BK159.out 2
              have hfz59_3 := blk_frozen BK159.out 3
              have hnb60 := NB158_0.out
              have hnc60 := NB0_158.out
              have hcz61_0 : wc.cell? ⟨gb158, 0, none⟩ = some (.int .u32 0) := (blk_cell BK158.out 0).trans rfl
              have hcz61_1 : wc.cell? ⟨gb158, 1, none⟩ = some (.int .u32 0) := (blk_cell BK158.out 1).trans rfl
              have hcz61_2 : wc.cell? ⟨gb158, 2, none⟩ = some (.slice none 0 0) := (blk_cell BK158.out 2).trans rfl
              have hcz61_3 : wc.cell? ⟨gb158, 3, none⟩ = some (.int .u32 0) := (blk_cell BK158.out 3).trans rfl
              have hfz61_0 := blk_frozen BK158.out 0
              have hfz61_1 := blk_frozen BK158.out 1
              have hfz61_2 := blk_frozen BK158.out 2
              have hfz61_3 := blk_frozen BK158.out 3
              obtain ⟨Ao62, co62, eo62⟩ := Kd.R_slice HO_160002.out
              subst eo62
              go_wp2
              refine bodyPost_ret (results_cell_row rfl _ _ gb158 40 #[.int .u32 t164, .int .u32 t173, .slice Ao62 x160002_1.length co62, .int .u32 t182] (0, 0) _ rfl (by (with_reducible repeat (first | refine blk_drewN ?_ _ | refine blk_drew ?_ | refine blk_alloc ?_ _)); refine blk_put (cs := #[.int .u32 t164, .int .u32 t173, .slice Ao62 x160002_1.length co62, .int .u32 0]) ?_ 3 _ rfl; (with_reducible repeat (first | refine blk_drewN ?_ _ | refine blk_drew ?_ | refine blk_alloc ?_ _)); refine blk_put (cs := #[.int .u32 t164, .int .u32 t173, .slice none 0 0, .int .u32 0]) ?_ 2 _ rfl; (with_reducible repeat (first | refine blk_drewN ?_ _ | refine blk_drew ?_ | refine blk_alloc ?_ _)); refine blk_put (cs := #[.int .u32 t164, .int .u32 0, .slice none 0 0, .int .u32 0]) ?_ 1 _ rfl; (with_reducible repeat (first | refine blk_drewN ?_ _ | refine blk_drew ?_ | refine blk_alloc ?_ _)); refine blk_put (cs := #[.int .u32 0, .int .u32 0, .slice none 0 0, .int .u32 0]) ?_ 0 _ rfl; (with_reducible repeat (first | refine blk_drewN ?_ _ | refine blk_drew ?_ | refine blk_alloc ?_ _)); refine blk_far ?_ NB158_0.out _; (with_reducible repeat (first | refine blk_drewN ?_ _ | refine blk_drew ?_ | refine blk_alloc ?_ _)); exact BK158.out) Try.underlying40 rfl (by kernel_rfl)) rfl ?_
              exact ⟨_, by first | rfl | (simp [errW_none, errW_some] <;> rfl) | (simp [*, errW_none, errW_some] <;> rfl), by (with_reducible repeat (first | apply Kd.R_alloc | apply Kd.R_drewN | apply Kd.R_drew)); exact Kd.R_mono (Kd.R_far (p := ⟨gb158, 3, none⟩) (Kd.R_far (p := ⟨gb158, 2, none⟩) (Kd.R_far (p := ⟨gb158, 1, none⟩) (Kd.R_far (p := ⟨gb158, 0, none⟩) (Kd.R_far (p := ⟨g, 2, none⟩) (Kd.R_types (IsS65.apart HI0.out HO_160002.out (by decide)) BK158.out (by decide)) (fun _ hk => hk.1.2) (.bool true)) (fun _ hk => hk.2) (.int .u32 t164)) (fun _ hk => hk.2) (.int .u32 t173)) (fun _ hk => hk.2) (.slice Ao62 x160002_1.length co62)) (fun _ hk => hk.2) (.int .u32 t182)) (fun _ hk => trivial), by repeat (first | (with_reducible first | exact HI0.out | apply IsS65.alloc | apply IsS65.drewN | apply IsS65.drew | apply IsS65.set_0 | apply IsS65.set_1 | apply IsS65.set_2 | refine IsS65.far ?_ NB0_158.out _ | refine IsS65.far ?_ NB0_159.out _) | exact HI0.out), by repeat (first | (with_reducible first | exact HB.out | apply below_alloc | apply pw_below_drewN | apply below_drew1 | refine below_set ?_ (IsS65.ge HI0.out) | refine below_set ?_ GE158.out | refine below_set ?_ GE159.out) | exact HB.out), by repeat (first | (with_reducible first | exact HK.out | apply KeepBut.set_ | apply keep_drewN | apply keep_drew | apply keep_alloc | refine keep_far ?_ GW158.out _ | refine keep_far ?_ GW159.out _) | exact HK.out)⟩
            · replace c55 := Bool.eq_false_iff.mpr c55
              subst c55
              have H1 : (some (t164, t173, x160002_1, t182, x1000_1, x1001_1, decide ((x160002_1.length : Int) > 4))) = some (r1, r2, r3, r4, r5, r6, r7) := by rw [if_neg (show ¬ (false = true) by decide)] at H; exact H
              clear H
              have H := H1
              clear H1
              simp only [Option.some.injEq, Prod.mk.injEq] at H
              obtain ⟨rfl, rfl, rfl, rfl, rfl, rfl, rfl⟩ := H
              obtain ⟨HGz63, hgz63⟩ := HI0.out
              have hcz63_0 := cellS65_0 HGz63
              have hcz63_1 := cellS65_1 HGz63
              have hcz63_2 := cellS65_2 HGz63
              have hfz63_0 := blk_frozen HGz63 0
              have hfz63_1 := blk_frozen HGz63 1
              have hfz63_2 := blk_frozen HGz63 2
              clear HGz63 hgz63
              have hnb64 := NB159_158.out
              have hnc64 := NB158_159.out
              have hnb65 := NB159_0.out
              have hnc65 := NB0_159.out
              have hcz66_0 : wc.cell? ⟨gb159, 0, none⟩ = some (.int .u32 t164) := (blk_cell BK159.out 0).trans rfl
              have hcz66_1 : wc.cell? ⟨gb159, 1, none⟩ = some (.int .u32 t173) := (blk_cell BK159.out 1).trans rfl
              have hcz66_2 : wc.cell? ⟨gb159, 2, none⟩ = some (u160002) := (blk_cell BK159.out 2).trans rfl
              have hcz66_3 : wc.cell? ⟨gb159, 3, none⟩ = some (.int .u32 t182) := (blk_cell BK159.out 3).trans rfl
              have hfz66_0 := blk_frozen BK159.out 0
              have hfz66_1 := blk_frozen BK159.out 1
              have hfz66_2 := blk_frozen BK159.out 2
              have hfz66_3 := blk_frozen BK159.out 3
              obtain ⟨Ao67, co67, eo67⟩ := Kd.R_slice HO_160002.out
              subst eo67
              have hnb68 := NB158_0.out
              have hnc68 := NB0_158.out
              have hcz69_0 : wc.cell? ⟨gb158, 0, none⟩ = some (.int .u32 0) := (blk_cell BK158.out 0).trans rfl
              have hcz69_1 : wc.cell? ⟨gb158, 1, none⟩ = some (.int .u32 0) := (blk_cell BK158.out 1).trans rfl
              have hcz69_2 : wc.cell? ⟨gb158, 2, none⟩ = some (.slice none 0 0) := (blk_cell BK158.out 2).trans rfl
              have hcz69_3 : wc.cell? ⟨gb158, 3, none⟩ = some (.int .u32 0) := (blk_cell BK158.out 3).trans rfl
              have hfz69_0 := blk_frozen BK158.out 0
              have hfz69_1 := blk_frozen BK158.out 1
              have hfz69_2 := blk_frozen BK158.out 2
              have hfz69_3 := blk_frozen BK158.out 3
              go_wp2
              refine bodyPost_ret (results_cell_row rfl _ _ gb158 40 #[.int .u32 t164, .int .u32 t173, .slice Ao67 x160002_1.length co67, .int .u32 t182] (0, 0) _ rfl (by (with_reducible repeat (first | refine blk_drewN ?_ _ | refine blk_drew ?_ | refine blk_alloc ?_ _)); refine blk_put (cs := #[.int .u32 t164, .int .u32 t173, .slice Ao67 x160002_1.length co67, .int .u32 0]) ?_ 3 _ rfl; (with_reducible repeat (first | refine blk_drewN ?_ _ | refine blk_drew ?_ | refine blk_alloc ?_ _)); refine blk_put (cs := #[.int .u32 t164, .int .u32 t173, .slice none 0 0, .int .u32 0]) ?_ 2 _ rfl; (with_reducible repeat (first | refine blk_drewN ?_ _ | refine blk_drew ?_ | refine blk_alloc ?_ _)); refine blk_put (cs := #[.int .u32 t164, .int .u32 0, .slice none 0 0, .int .u32 0]) ?_ 1 _ rfl; (with_reducible repeat (first | refine blk_drewN ?_ _ | refine blk_drew ?_ | refine blk_alloc ?_ _)); refine blk_put (cs := #[.int .u32 0, .int .u32 0, .slice none 0 0, .int .u32 0]) ?_ 0 _ rfl; (with_reducible repeat (first | refine blk_drewN ?_ _ | refine blk_drew ?_ | refine blk_alloc ?_ _)); refine blk_far ?_ NB158_0.out _; (with_reducible repeat (first | refine blk_drewN ?_ _ | refine blk_drew ?_ | refine blk_alloc ?_ _)); exact BK158.out) Try.underlying40 rfl (by kernel_rfl)) rfl ?_
              exact ⟨_, by first | rfl | (simp [errW_none, errW_some] <;> rfl) | (simp [*, errW_none, errW_some] <;> rfl), by (with_reducible repeat (first | apply Kd.R_alloc | apply Kd.R_drewN | apply Kd.R_drew)); exact Kd.R_mono (Kd.R_far (p := ⟨gb158, 3, none⟩) (Kd.R_far (p := ⟨gb158, 2, none⟩) (Kd.R_far (p := ⟨gb158, 1, none⟩) (Kd.R_far (p := ⟨gb158, 0, none⟩) (Kd.R_far (p := ⟨g, 2, none⟩) (Kd.R_types (IsS65.apart HI0.out HO_160002.out (by decide)) BK158.out (by decide)) (fun _ hk => hk.1.2) (.bool (decide ((x160002_1.length : Int) > 4)))) (fun _ hk => hk.2) (.int .u32 t164)) (fun _ hk => hk.2) (.int .u32 t173)) (fun _ hk => hk.2) (.slice Ao67 x160002_1.length co67)) (fun _ hk => hk.2) (.int .u32 t182)) (fun _ hk => trivial), by repeat (first | (with_reducible first | exact HI0.out | apply IsS65.alloc | apply IsS65.drewN | apply IsS65.drew | apply IsS65.set_0 | apply IsS65.set_1 | apply IsS65.set_2 | refine IsS65.far ?_ NB0_158.out _ | refine IsS65.far ?_ NB0_159.out _) | exact HI0.out), by repeat (first | (with_reducible first | exact HB.out | apply below_alloc | apply pw_below_drewN | apply below_drew1 | refine below_set ?_ (IsS65.ge HI0.out) | refine below_set ?_ GE158.out | refine below_set ?_ GE159.out) | exact HB.out), by repeat (first | (with_reducible first | exact HK.out | apply KeepBut.set_ | apply keep_drewN | apply keep_drew | apply keep_alloc | refine keep_far ?_ GW158.out _ | refine keep_far ?_ GW159.out _) | exact HK.out)⟩
end Go.Proofs.Ytekpbgmmogpbdaa.P
set_option linter.unusedVariables false
set_option linter.unusedSimpArgs false
set_option maxRecDepth 100000
namespace Go.Proofs.Ytekpbgmmogpbdaa.H
open Go.RowKit Go.Proofs.YtekpbgmmogpbdaaW.PrintWords
def spl (c : UInt8) : List UInt8 → List (List UInt8)
  | [] => [[]]
  | x :: l => if x = c then [] :: spl c l else match spl c l with
    | a :: r => (x :: a) :: r
    | [] => [[x]]
theorem spl_ne (c : UInt8) (l : List UInt8) : spl c l ≠ [] := by
  cases l with
  | nil => simp [spl]
  | cons x l => simp only [spl]; split; simp; split <;> simp
theorem spl_none (c : UInt8) (l : List UInt8) (h : c ∉ l) : spl c l = [l] := by
  induction l with
  | nil => rfl
  | cons x l ih =>
    have h1 : ¬ x = c := fun e => h (by simp [e])
    have := ih (fun e => h (by simp [e]))
    simp [spl, h1, this]
theorem spl_cons (c : UInt8) (A R : List UInt8) (h : c ∉ A) : spl c (A ++ c :: R) = A :: spl c R := by
  induction A with
  | nil => simp [spl]
  | cons x A ih =>
    have h1 : ¬ x = c := fun e => h (by simp [e])
    have := ih (fun e => h (by simp [e]))
    simp [spl, h1, this]
theorem mem_split (c : UInt8) (l : List UInt8) : c ∉ l ∨ ∃ A R, l = A ++ c :: R ∧ c ∉ A := by
  induction l with
  | nil => left; simp
  | cons x l ih =>
    by_cases e : x = c
    · exact .inr ⟨[], l, by simp [e], by simp⟩
    · rcases ih with h | ⟨A, R, h1, h2⟩
      · exact .inl (by simp [Ne.symm e, h])
      · exact .inr ⟨x :: A, R, by simp [h1], by simp [Ne.symm e, h2]⟩
theorem cutL_app (A R : List UInt8) (h : (32 : UInt8) ∉ A) : cutL (A ++ 32 :: R) = (A, R) := by
  induction A with
  | nil => simp [cutL]
  | cons x A ih =>
    have h1 : ¬ x = 32 := fun e => h (by simp [e])
    have := ih (fun e => h (by simp [e]))
    simp [cutL, h1, this]
def RdS (s : ByteArray) (e : Bool) (ws : List (List UInt8)) : Prop := (e = true ∧ ws = []) ∨ (e = false ∧ ws = spl 32 s.data.toList)
theorem data_of (l : List UInt8) : (ofBytes l).data.toList = l := by simp [ofBytes]
theorem size_of (l : List UInt8) : (ofBytes l).size = l.length := by simp [ofBytes, ByteArray.size]
theorem size_list (s : ByteArray) : s.size = s.data.toList.length := by simp
theorem RdS.end_iff {s : ByteArray} {e : Bool} {ws : List (List UInt8)} (h : RdS s e ws) : e = true ↔ ws = [] := by
  rcases h with ⟨h1, h2⟩ | ⟨h1, h2⟩
  · simp [h1, h2]
  · simp [h1, h2, spl_ne]
theorem word_ev (s : ByteArray) (e b : Bool) (ws : List (List UInt8)) (h : RdS s e ws) (hs : s.size ≤ 100000) :
    ∃ w s' e' b', policy_reader_word.f s e b = some (w, s', e', b') ∧ w.size ≤ 100000 ∧ s'.size ≤ 100000 ∧ RdS s' e' ws.tail ∧ w.data.toList = ws.headD [] ∧ b' = (b || ws.isEmpty) := by
  unfold policy_reader_word.f
  rw [if_pos (by omega)]
  rcases h with ⟨h1, h2⟩ | ⟨h1, h2⟩
  · subst h1 h2
    exact ⟨⟨#[]⟩, s, true, true, by simp [wordF], by simp [ByteArray.size], hs, .inl ⟨rfl, rfl⟩, rfl, by simp⟩
  · subst h1
    rcases mem_split 32 s.data.toList with hm | ⟨A, R, hl, hA⟩
    · rw [spl_none _ _ hm] at h2
      subst h2
      exact ⟨s, s, true, b, by simp [wordF, hm], hs, hs, .inl ⟨rfl, rfl⟩, by simp, by simp⟩
    · have hz : A.length + R.length + 1 = s.size := by rw [size_list, hl]; simp; omega
      rw [hl, spl_cons _ _ _ hA] at h2
      subst h2
      refine ⟨ofBytes A, ofBytes R, false, b, ?_, by rw [size_of]; omega, by rw [size_of]; omega, .inr ⟨rfl, by rw [data_of]; rfl⟩, by simp [data_of], by simp⟩
      have hm : (32 : UInt8) ∈ s.data.toList := by rw [hl]; simp
      unfold wordF
      rw [if_neg (by decide), if_pos hm, hl, cutL_app _ _ hA]
def joinC (a b c d : List UInt8) : List UInt8 := a ++ 32 :: (b ++ 32 :: (c ++ 32 :: d))
def condW : List (List UInt8) → Option (Nat × Nat × Nat × Nat)
  | a :: b :: c :: d :: _ => condParse (joinC a b c d)
  | _ => none
def S61of (x : Nat × Nat × Nat × Nat) : P.S61 := ⟨(x.1 : Int), (x.2.1 : Int), (x.2.2.1 : Int), (x.2.2.2 : Int)⟩
theorem ba_add (a b : ByteArray) : (a ++ b).data.toList = a.data.toList ++ b.data.toList := by simp [ByteArray.data_append]
theorem must_ev (s : ByteArray) (e b : Bool) (x : Int) : P.policy_reader_must.f s e b x = some (s, e, b || (x != 0)) := by
  unfold P.policy_reader_must.f
  cases b <;> simp
theorem condition_ev (s : ByteArray) (e b : Bool) (ws : List (List UInt8)) (h : RdS s e ws) (hs : s.size ≤ 100000) :
    ∃ x0 x1 x2 x3 s' e' b', P.policy_reader_condition.f s e b = some (x0, x1, x2, x3, s', e', b') ∧ s'.size ≤ 100000 ∧ RdS s' e' (ws.drop 4) ∧
      (b = true → b' = true) ∧ (b = false → match condW ws with | some x => b' = false ∧ (⟨x0, x1, x2, x3⟩ : P.S61) = S61of x | none => b' = true) := by
  obtain ⟨w1, s1, e1, b1, h1, z1, y1, q1, d1, g1⟩ := word_ev s e b ws h hs
  obtain ⟨w2, s2, e2, b2, h2, z2, y2, q2, d2, g2⟩ := word_ev s1 e1 b1 _ q1 y1
  obtain ⟨w3, s3, e3, b3, h3, z3, y3, q3, d3, g3⟩ := word_ev s2 e2 b2 _ q2 y2
  obtain ⟨w4, s4, e4, b4, h4, z4, y4, q4, d4, g4⟩ := word_ev s3 e3 b3 _ q3 y3
  have hz1 : (⟨#[32]⟩ : ByteArray).size = 1 := rfl
  unfold P.policy_reader_condition.f
  rw [h1]
  simp only [Option.bind_some]
  rw [if_pos (by omega), h2]
  simp only [Option.bind_some]
  rw [if_pos (by simp only [ByteArray.size_append]; omega), if_pos (by simp only [ByteArray.size_append]; omega), h3]
  simp only [Option.bind_some]
  rw [if_pos (by simp only [ByteArray.size_append]; omega), if_pos (by simp only [ByteArray.size_append]; omega), h4]
  simp only [Option.bind_some]
  rw [if_pos (by simp only [ByteArray.size_append]; omega)]
  obtain ⟨t, ht⟩ : ∃ t, w1 ++ (⟨#[32]⟩ : ByteArray) ++ w2 ++ ⟨#[32]⟩ ++ w3 ++ ⟨#[32]⟩ ++ w4 = t := ⟨_, rfl⟩
  rw [ht]
  have hd : t.data.toList = joinC w1.data.toList w2.data.toList w3.data.toList w4.data.toList := by
    rw [← ht]; simp [ba_add, joinC]
  have hsz : t.size ≤ 140737488351232 := by rw [← ht]; simp only [ByteArray.size_append]; omega
  unfold cond_Parse.f
  rw [if_pos hsz]
  simp only [Option.bind_some, must_ev]
  refine ⟨_, _, _, _, _, _, _, rfl, y4, ?_, ?_, ?_⟩
  · have : ws.drop 4 = ws.tail.tail.tail.tail := by
      rcases ws with _ | ⟨_, _ | ⟨_, _ | ⟨_, _ | _⟩⟩⟩ <;> rfl
    rw [this]; exact q4
  · intro hb; subst hb; simp [g4, g3, g2, g1]
  · intro hb
    subst hb
    rcases ws with _ | ⟨a, _ | ⟨b, _ | ⟨c, _ | ⟨d, ws⟩⟩⟩⟩
    · simp [condW, g4, g3, g2, g1]
    · simp [condW, g4, g3, g2, g1]
    · simp [condW, g4, g3, g2, g1]
    · simp [condW, g4, g3, g2, g1]
    · have e1 : w1.data.toList = a := d1
      have e2 : w2.data.toList = b := d2
      have e3 : w3.data.toList = c := d3
      have e4 : w4.data.toList = d := d4
      have e5 : condW (a :: b :: c :: d :: ws) = condParse t.data.toList := by rw [hd, e1, e2, e3, e4]; rfl
      have e6 : b4 = false := by simp [g4, g3, g2, g1]
      rw [e5, e6]
      cases condParse t.data.toList with
      | none => simp [parseI]
      | some x => obtain ⟨p, q, m, v⟩ := x; simp [parseI, S61of]
def condsV : List UInt8 → List (List UInt8) → Option (List P.S61)
  | _, [] => some []
  | j, w :: a :: b :: c :: d :: ws => if w = j then match condParse (joinC a b c d) with
      | some x => (condsV [97, 110, 100] ws).map (S61of x :: ·)
      | none => none
    else none
  | _, _ :: _ => none
def ruleV : List (List UInt8) → Option P.S40
  | m :: c :: a :: ws => if (readOf ML (ofBytes m)).2 = 0 ∧ (readOf (callsOf (readOf ML (ofBytes m)).1) (ofBytes c)).2 = 0 ∧ (readAct (ofBytes a)).2 = 0 then
      match condsV [105, 102] ws with
      | some cs => if cs.length ≤ 4 then some ⟨(readOf ML (ofBytes m)).1, (readOf (callsOf (readOf ML (ofBytes m)).1) (ofBytes c)).1, cs, (readAct (ofBytes a)).1⟩ else none
      | none => none
    else none
  | _ => none
theorem ba_same {a b : ByteArray} : a.toList = b.toList ↔ a.data.toList = b.data.toList := by rw [ByteArray.toList_eq, ByteArray.toList_eq]
theorem rest_l0_ev (x0 x1 x3 : Int) : ∀ (n : Nat) (ws : List (List UInt8)) (j s : ByteArray) (e : Bool) (L : List P.S61), ws.length ≤ n → RdS s e ws → s.size ≤ 100000 → L.length + n < 4398046511104 →
    ∃ k y2 s' e' b', P.policy_reader_rest.l0 k j s e false x0 x1 L x3 = some (x0, x1, y2, x3, s', e', b') ∧
      (match condsV j.data.toList ws with | some cs => if (L ++ cs).length ≤ 4 then b' = false ∧ y2 = L ++ cs else b' = true | none => b' = true) := by
  intro n
  induction n with
  | zero =>
    intro ws j s e L hn hR hs hL
    obtain rfl : ws = [] := List.eq_nil_of_length_eq_zero (by omega)
    have he := hR.end_iff.2 rfl
    subst he
    refine ⟨2, L, s, true, decide ((L.length : Int) > 4), by simp [P.policy_reader_rest.l0, P.policy_reader_rest.j1], ?_⟩
    simp only [condsV, List.append_nil]
    split
    · exact ⟨by simp; omega, by trivial⟩
    · simp; omega
  | succ n ih =>
    intro ws j s e L hn hR hs hL
    by_cases hw : ws = []
    · subst hw
      have he := hR.end_iff.2 rfl
      subst he
      refine ⟨2, L, s, true, decide ((L.length : Int) > 4), by simp [P.policy_reader_rest.l0, P.policy_reader_rest.j1], ?_⟩
      simp only [condsV, List.append_nil]
      split
      · exact ⟨by simp; omega, by trivial⟩
      · simp; omega
    · have he : e = false := by cases e with
        | false => rfl
        | true => exact absurd (hR.end_iff.1 rfl) hw
      subst he
      obtain ⟨w1, s1, e1, b1, h1, z1, y1, q1, d1, g1⟩ := word_ev s false false ws hR hs
      have g1' : b1 = false := by rw [g1]; cases ws; exact absurd rfl hw; rfl
      subst g1'
      obtain ⟨w, ws', rfl⟩ : ∃ w ws', ws = w :: ws' := by cases ws with
        | nil => exact absurd rfl hw
        | cons w ws' => exact ⟨w, ws', rfl⟩
      simp only [List.headD_cons, List.tail_cons] at d1 q1
      by_cases hj : w = j.data.toList
      · have hj' : w1.toList = j.toList := by rw [ba_same, d1, hj]
        obtain ⟨c0, c1, c2, c3, s2, e2, b2, h2, y2, q2, _, g2⟩ := condition_ev s1 e1 false ws' q1 y1
        have g2 := g2 rfl
        cases hc : condW ws' with
        | none =>
          rw [hc] at g2
          obtain rfl : b2 = true := g2
          have hcv : condsV j.data.toList (w :: ws') = none := by
            rcases ws' with _ | ⟨a, _ | ⟨b, _ | ⟨c, _ | ⟨d, ws2⟩⟩⟩⟩ <;> try (simp [condsV]; done)
            simp only [condW] at hc
            simp [condsV, hc]
          cases e2 with
          | true =>
            refine ⟨4, _, s2, true, true, by simp [P.policy_reader_rest.l0, P.policy_reader_rest.j1, h1, h2, hj', show L.length < 4398046511104 by omega]; rfl, ?_⟩
            rw [hcv]
          | false =>
            refine ⟨4, _, s2, false, true, by simp [P.policy_reader_rest.l0, P.policy_reader_rest.j1, h1, h2, hj', show L.length < 4398046511104 by omega]; rfl, ?_⟩
            rw [hcv]
        | some x =>
          rw [hc] at g2
          obtain ⟨rfl, g3⟩ := g2
          rcases ws' with _ | ⟨a, _ | ⟨b, _ | ⟨c, _ | ⟨d, ws2⟩⟩⟩⟩ <;> try (simp [condW] at hc; done)
          simp only [condW] at hc
          have hn' : ws2.length ≤ n := by simp at hn; omega
          obtain ⟨k, yy, s3, e3, b3, h3, h4⟩ := ih ws2 (⟨#[97, 110, 100]⟩ : ByteArray) s2 e2 (L ++ [(⟨c0, c1, c2, c3⟩ : P.S61)]) hn' q2 y2 (by simp; omega)
          refine ⟨k + 2, yy, s3, e3, b3, ?_, ?_⟩
          · simp only [P.policy_reader_rest.l0, P.policy_reader_rest.j1, h1, h2, hj', Option.bind_some, Bool.not_false, if_true, if_false, Bool.false_eq_true]
            rw [if_pos (by omega)]; exact h3
          · have e0 : (⟨#[97, 110, 100]⟩ : ByteArray).data.toList = [97, 110, 100] := rfl
            rw [e0] at h4
            simp only [condsV, hj, if_true, hc]
            cases hv : condsV [97, 110, 100] ws2 with
            | none => rw [hv] at h4; simpa using h4
            | some cs => rw [hv] at h4; rw [g3] at h4; simpa using h4
      · have hj' : ¬ w1.toList = j.toList := by rw [ba_same, d1]; exact hj
        obtain ⟨c0, c1, c2, c3, s2, e2, b2, h2, y2, q2, g2, _⟩ := condition_ev s1 e1 true ws' q1 y1
        obtain rfl := g2 rfl
        have hcv : condsV j.data.toList (w :: ws') = none := by
          rcases ws' with _ | ⟨a, _ | ⟨b, _ | ⟨c, _ | ⟨d, ws2⟩⟩⟩⟩ <;> simp [condsV, hj]
        cases e2 with
        | true =>
          refine ⟨4, _, s2, true, true, by simp [P.policy_reader_rest.l0, P.policy_reader_rest.j1, h1, h2, hj', show L.length < 4398046511104 by omega]; rfl, ?_⟩
          rw [hcv]
        | false =>
          refine ⟨4, _, s2, false, true, by simp [P.policy_reader_rest.l0, P.policy_reader_rest.j1, h1, h2, hj', show L.length < 4398046511104 by omega]; rfl, ?_⟩
          rw [hcv]
theorem rest_ev (s : ByteArray) (e : Bool) (ws : List (List UInt8)) (hR : RdS s e ws) (hs : s.size ≤ 100000) :
    ∃ k x0 x1 x2 x3 s' e' b', P.policy_reader_rest.f k s e false = some (x0, x1, x2, x3, s', e', b') ∧
      (match ruleV ws with | some x => b' = false ∧ (⟨x0, x1, x2, x3⟩ : P.S40) = x | none => b' = true) := by
  obtain ⟨w1, s1, e1, b1, h1, z1, y1, q1, d1, g1⟩ := word_ev s e false ws hR hs
  have W2 := fun b => word_ev s1 e1 b _ q1 y1
  obtain ⟨w2, s2, e2, b2, h2, z2, y2, q2, d2, g2⟩ := W2 (b1 || ((readOf ML w1).2 != 0))
  obtain ⟨w3, s3, e3, b3, h3, z3, y3, q3, d3, g3⟩ := word_ev s2 e2 (b2 || ((readOf (callsOf (readOf ML w1).1) w2).2 != 0)) _ q2 y2
  have hf : ∀ k, P.policy_reader_rest.f k s e false = P.policy_reader_rest.l0 k (⟨#[105, 102]⟩ : ByteArray) s3 e3 (b3 || ((readAct w3).2 != 0)) (readOf ML w1).1 (readOf (callsOf (readOf ML w1).1) w2).1 [] (readAct w3).1 := by
    intro k
    unfold P.policy_reader_rest.f
    simp only [h1, names_ReadMachine.f, must_ev, h2, names_ReadCall.f, h3, names_ReadAction.f, Option.bind_some]
  obtain ⟨bb, hbb⟩ : ∃ bb, (b3 || ((readAct w3).2 != 0)) = bb := ⟨_, rfl⟩
  rw [hbb] at hf
  have hq : RdS s3 e3 (ws.drop 3) := by
    have : ws.drop 3 = ws.tail.tail.tail := by rcases ws with _ | ⟨_, _ | ⟨_, _ | _⟩⟩ <;> rfl
    rw [this]; exact q3
  have ht2 : ws.tail.headD [] = (ws.drop 1).headD [] := by cases ws <;> rfl
  cases hb : bb with
  | true =>
    subst hb
    have hn : ruleV ws = none := by
      rcases ws with _ | ⟨m, _ | ⟨c, _ | ⟨a, ws⟩⟩⟩ <;> try (simp [ruleV]; done)
      have i1 : w1 = ofBytes m := ba_eq (by rw [d1, data_of]; rfl)
      have i2 : w2 = ofBytes c := ba_eq (by rw [d2, data_of]; rfl)
      have i3 : w3 = ofBytes a := ba_eq (by rw [d3, data_of]; rfl)
      have j1 : b1 = false := by rw [g1]; rfl
      rw [i3, g3, g2, j1, i2, i1] at hbb
      simp only [List.tail_cons, List.isEmpty_cons, Bool.or_false, Bool.false_or, Bool.or_eq_true, bne_iff_ne, ne_eq] at hbb
      simp only [ruleV]
      rw [if_neg (fun h => by rcases hbb with (h' | h') | h' <;> simp_all)]
    rw [hn]
    cases e3 with
    | true => exact ⟨2, (readOf ML w1).1, (readOf (callsOf (readOf ML w1).1) w2).1, [], (readAct w3).1, s3, true, true, by rw [hf]; simp [P.policy_reader_rest.l0, P.policy_reader_rest.j1], rfl⟩
    | false => exact ⟨2, (readOf ML w1).1, (readOf (callsOf (readOf ML w1).1) w2).1, [], (readAct w3).1, s3, false, true, by rw [hf]; simp [P.policy_reader_rest.l0, P.policy_reader_rest.j1], rfl⟩
  | false =>
    subst hb
    simp only [Bool.or_eq_false_iff] at hbb
    obtain ⟨hb3, hb3'⟩ := hbb
    rw [g3] at hb3
    simp only [Bool.or_eq_false_iff] at hb3
    obtain ⟨⟨hb2, hb2'⟩, he3⟩ := hb3
    rw [g2] at hb2
    simp only [Bool.or_eq_false_iff] at hb2
    obtain ⟨⟨hb1, hb1'⟩, he2⟩ := hb2
    rcases ws with _ | ⟨m, _ | ⟨c, _ | ⟨a, ws⟩⟩⟩
    · simp at he2
    · simp at he2
    · simp at he3
    have i1 : w1 = ofBytes m := ba_eq (by rw [d1, data_of]; rfl)
    have i2 : w2 = ofBytes c := ba_eq (by rw [d2, data_of]; rfl)
    have i3 : w3 = ofBytes a := ba_eq (by rw [d3, data_of]; rfl)
    rw [i1, i2] at hb2'
    rw [i1] at hb1'
    rw [i3] at hb3'
    rw [i1, i2, i3] at hf
    simp only [bne_eq_false_iff_eq] at hb1' hb2' hb3'
    have hlen : ws.length ≤ 200000 ∨ ¬ ws.length ≤ 200000 := by omega
    have hq' : RdS s3 e3 ws := hq
    have hwl : ws.length ≤ 100001 := by
      rcases hq' with ⟨_, h⟩ | ⟨_, h⟩
      · rw [h]; simp
      · have : ∀ l : List UInt8, (spl 32 l).length ≤ l.length + 1 := by
          intro l
          induction l with
          | nil => simp [spl]
          | cons x l ih =>
            simp only [spl]
            split
            · simp; omega
            · split
              · rename_i h2; rw [h2] at ih; simp at ih ⊢; omega
              · simp
        rw [h]
        have := this s3.data.toList
        rw [← size_list] at this
        omega
    obtain ⟨k, yy, s4, e4, b4, h4, h5⟩ := rest_l0_ev _ _ _ _ ws (⟨#[105, 102]⟩ : ByteArray) s3 e3 [] (Nat.le_refl _) hq' y3 (by simp; omega)
    refine ⟨k, _, _, _, _, _, _, _, by rw [hf]; exact h4, ?_⟩
    have e0 : (⟨#[105, 102]⟩ : ByteArray).data.toList = [105, 102] := rfl
    rw [e0] at h5
    simp only [ruleV]
    rw [if_pos ⟨hb1', hb2', hb3'⟩]
    cases hv : condsV [105, 102] ws with
    | none => rw [hv] at h5; simpa using h5
    | some cs =>
      rw [hv] at h5
      simp only [List.nil_append] at h5
      by_cases hl : cs.length ≤ 4
      · simp only [hl, if_true] at h5 ⊢
        exact ⟨h5.1, by rw [h5.2]⟩
      · simp only [hl, if_false] at h5 ⊢
        exact h5
def dfltV : List (List UInt8) → Option Int
  | [a] => if (readAct (ofBytes a)).2 = 0 then some (readAct (ofBytes a)).1 else none
  | _ => none
def lineW (w : List UInt8) (ws : List (List UInt8)) : Option (P.S40 ⊕ Int) :=
  if w = [111, 110] then (ruleV ws).map Sum.inl else if w = [100, 101, 102, 97, 117, 108, 116] then (dfltV ws).map Sum.inr else none
def lineV (l : List UInt8) : Option (P.S40 ⊕ Int) :=
  match spl 32 l with
  | w :: ws => lineW w ws
  | [] => none
theorem lineV_of {l w : List UInt8} {ws : List (List UInt8)} (h : spl 32 l = w :: ws) : lineV l = lineW w ws := by unfold lineV; rw [h]
def plines (n : Nat) : List (List UInt8) → Nat → Bool → List P.S40 → Int → List P.S40 × Int × Int × Int
  | [], _, _, _, _ => ([], 0, 0, 0)
  | l :: ls, at_, done, L, df =>
    if ls = [] then (if l ≠ [] then ([], 0, (at_ : Int), 2) else if done = true then (L, df, 0, 0) else ([], 0, (n : Int), 5))
    else if done = true then ([], 0, (at_ : Int), 2) else match lineV l with
      | none => ([], 0, (at_ : Int), 2)
      | some (.inl x) => if L.length = 64 then ([], 0, (at_ : Int), 3) else plines n ls (at_ + l.length + 1) false (L ++ [x]) df
      | some (.inr v) => plines n ls (at_ + l.length + 1) true L v
def parseV (s : List UInt8) : List P.S40 × Int × Int × Int := if 20000 < s.length then ([], 0, 0, 3) else plines s.length (spl 10 s) 0 false [] 0
end Go.Proofs.Ytekpbgmmogpbdaa.H
set_option linter.unusedVariables false
set_option linter.unusedSimpArgs false
set_option maxRecDepth 100000
namespace Go.Proofs.Ytekpbgmmogpbdaa.H
open Go.RowKit
def setIter (W : World) (g : Nat) (s : ByteArray) (p : Nat) : World := { W with heap := W.heap.setIfInBounds g (.stringIter s p) }
theorem next_at {P : Program} (W : World) (g : Nat) (s : ByteArray) (pos : Nat) (ty : TypeId) (hg : W.heap[g]? = some (.stringIter s pos)) (h : pos < s.size) :
    (Instr.next (.pointer (some ⟨g, 0, none⟩)) true ty).run P W = .ok (.tuple #[.bool true, .int .i64 pos, .int .i32 (Utf8.decode s pos).1]) (setIter W g s (pos + (Utf8.decode s pos).2)) := by
  simp only [Instr.next, getObj, setObj, Sem.run_bind, Sem.run, hg, Result.andThen, h, if_true]
  simp [goInt, setIter]
theorem next_at_end {P : Program} (W : World) (g : Nat) (s : ByteArray) (pos : Nat) (ty : TypeId) (hg : W.heap[g]? = some (.stringIter s pos)) (h : ¬ pos < s.size) :
    (Instr.next (.pointer (some ⟨g, 0, none⟩)) true ty).run P W = .ok (.tuple #[.bool false]) W := by
  simp [Instr.next, getObj, Sem.run, hg, h]
theorem setIter_same (W : World) (g : Nat) (s : ByteArray) (p p' : Nat) (hg : W.heap[g]? = some (.stringIter s p)) : (setIter W g s p').heap[g]? = some (.stringIter s p') := by
  have := (Array.getElem?_eq_some_iff.1 hg).1
  simp [setIter, this]
theorem setIter_other (W : World) (g k : Nat) (s : ByteArray) (p : Nat) (h : k ≠ g) : (setIter W g s p).heap[k]? = W.heap[k]? := by
  simp [setIter, Array.getElem?_setIfInBounds, Ne.symm h]
end Go.Proofs.Ytekpbgmmogpbdaa.H
