-- Written by hprint.py, a program of this seat's own, over hand-proved callees.
import Derived.Test.YthdkgpmpopjnaaaRx0
import Derived.Test.YthdkgpmpopjnaaaRx2
namespace Go.Proofs.Ythdkgpmpopjnaaa.R
open Go.RowKit Go.Proofs.Ythdkgpmpopjnaaa.H Go.Proofs.YthdkgpmpopjnaaaW.PrintWords Go.Proofs.YthdkgpmpopjnaaaW.PrintLast Go.Proofs.YthdkgpmpopjnaaaW.PrintMore
attribute [local go_sem] max2_int min2_int max_two min_two max_three min_three max_four min_four   -- for this text's walks alone
set_option linter.unusedVariables false
set_option linter.unusedSimpArgs false

/-! ### hurdlelaw09_NamesBack: function 12 -/
def hurdlelaw09_NamesBack.j0 : Nat → Int → ByteArray → Int → Bool → Option (Bool)
  | 0, _, _, _, _ => none
  | k + 1, x2, x11, x12, x49 => if x49 = true then (some false) else (if x12 = 0 then ((names_ReadAction.f x11).bind fun bt243 => (if bt243.1 = x2 then (if bt243.2 = 0 then ((hurdlelaw09_knows.f).bind fun t245 => (some t245)) else (some false)) else (some false))) else (if x11.toList = ([] : List UInt8) then ((hurdlelaw09_knows.f).bind fun t246 => (some t246)) else (some false)))
def hurdlelaw09_NamesBack.f (k : Nat) (a0 : Int) (a1 : Int) (a2 : Int) : Option (Bool) := (names_Machine.f a0).bind fun t235 => ((names_ReadMachine.f t235).bind fun bt236 => ((names_Call.f a0 a1).bind fun t238 => ((names_ReadCall.f a0 t238).bind fun bt239 => ((names_Action.f a2).bind fun bt241 => (if bt236.1 = a0 then (if bt236.2 = 0 then (if bt239.1 = a1 then (hurdlelaw09_NamesBack.j0 k a2 bt241.1 bt241.2 (bt239.2 != 0)) else (hurdlelaw09_NamesBack.j0 k a2 bt241.1 bt241.2 true)) else (hurdlelaw09_NamesBack.j0 k a2 bt241.1 bt241.2 true)) else (hurdlelaw09_NamesBack.j0 k a2 bt241.1 bt241.2 true))))))
theorem hurdlelaw09_NamesBack.mono_l : ∀ k, (∀ y0 y1 y2 y3, LeO (hurdlelaw09_NamesBack.j0 k y0 y1 y2 y3) (hurdlelaw09_NamesBack.j0 (k + 1) y0 y1 y2 y3))
  | 0 => fun _ _ _ _ r h => by simp [hurdlelaw09_NamesBack.j0] at h
  | k + 1 => by
    have ih0 := hurdlelaw09_NamesBack.mono_l k
    · intro y0 y1 y2 y3
      unfold hurdlelaw09_NamesBack.j0
      repeat' first
      | (with_reducible exact ih0 _ _ _ _)
      | (with_reducible exact LeO.refl _)
      | (with_reducible exact LeO.none _)
      | (with_reducible refine LeO.ite ?_ ?_)
      | (with_reducible refine LeO.bind ?_ (fun _ => ?_))
      | exact ih0 _ _ _ _
      | exact LeO.none _
      | refine LeO.ite ?_ ?_
      | refine LeO.bind ?_ (fun _ => ?_)
theorem hurdlelaw09_NamesBack.mono : ∀ a0 a1 a2 k, LeO (hurdlelaw09_NamesBack.f k a0 a1 a2) (hurdlelaw09_NamesBack.f (k + 1) a0 a1 a2) := by
  intro a0 a1 a2 k
  have ih0 := hurdlelaw09_NamesBack.mono_l k
  unfold hurdlelaw09_NamesBack.f
  repeat' first
      | (with_reducible exact ih0 _ _ _ _)
      | (with_reducible exact LeO.refl _)
      | (with_reducible exact LeO.none _)
      | (with_reducible refine LeO.ite ?_ ?_)
      | (with_reducible refine LeO.bind ?_ (fun _ => ?_))
      | exact ih0 _ _ _ _
      | exact LeO.none _
      | refine LeO.ite ?_ ?_
      | refine LeO.bind ?_ (fun _ => ?_)
set_option maxHeartbeats 8000000 in
set_option maxRecDepth 100000 in
theorem hurdlelaw09_NamesBack.calls (k : Nat) (a0 : Int) (a1 : Int) (a2 : Int) (r : Bool) (w : World) (h : hurdlelaw09_NamesBack.f k a0 a1 a2 = some r) :
    Calls Try.prog 12 #[.int .u32 a0, .int .u32 a1, .int .u32 a2] w fun e w' => e = .returned (.bool r) ∧ Below w.heap.size w w' := by
  have HB := Aside0.mk (Below.refl w.heap.size w)
  have H : ((names_Machine.f a0).bind fun t235 => ((names_ReadMachine.f t235).bind fun bt236 => ((names_Call.f a0 a1).bind fun t238 => ((names_ReadCall.f a0 t238).bind fun bt239 => ((names_Action.f a2).bind fun bt241 => (if bt236.1 = a0 then (if bt236.2 = 0 then (if bt239.1 = a1 then (hurdlelaw09_NamesBack.j0 k a2 bt241.1 bt241.2 (bt239.2 != 0)) else (hurdlelaw09_NamesBack.j0 k a2 bt241.1 bt241.2 true)) else (hurdlelaw09_NamesBack.j0 k a2 bt241.1 bt241.2 true)) else (hurdlelaw09_NamesBack.j0 k a2 bt241.1 bt241.2 true))))))) = some r := h
  clear h
  replace H := Option.bind_eq_some_iff.mp H
  obtain ⟨t235, A40, H⟩ := H
  replace H : ((names_ReadMachine.f t235).bind fun bt236 => ((names_Call.f a0 a1).bind fun t238 => ((names_ReadCall.f a0 t238).bind fun bt239 => ((names_Action.f a2).bind fun bt241 => (if bt236.1 = a0 then (if bt236.2 = 0 then (if bt239.1 = a1 then (hurdlelaw09_NamesBack.j0 k a2 bt241.1 bt241.2 (bt239.2 != 0)) else (hurdlelaw09_NamesBack.j0 k a2 bt241.1 bt241.2 true)) else (hurdlelaw09_NamesBack.j0 k a2 bt241.1 bt241.2 true)) else (hurdlelaw09_NamesBack.j0 k a2 bt241.1 bt241.2 true)))))) = some r := H
  have A4 := Aside0.mk A40
  clear A40
  replace H := Option.bind_eq_some_iff.mp H
  obtain ⟨⟨t236, t237⟩, A50, H⟩ := H
  replace H : ((names_Call.f a0 a1).bind fun t238 => ((names_ReadCall.f a0 t238).bind fun bt239 => ((names_Action.f a2).bind fun bt241 => (if t236 = a0 then (if t237 = 0 then (if bt239.1 = a1 then (hurdlelaw09_NamesBack.j0 k a2 bt241.1 bt241.2 (bt239.2 != 0)) else (hurdlelaw09_NamesBack.j0 k a2 bt241.1 bt241.2 true)) else (hurdlelaw09_NamesBack.j0 k a2 bt241.1 bt241.2 true)) else (hurdlelaw09_NamesBack.j0 k a2 bt241.1 bt241.2 true))))) = some r := H
  have A5 := Aside0.mk A50
  clear A50
  replace H := Option.bind_eq_some_iff.mp H
  obtain ⟨t238, A60, H⟩ := H
  replace H : ((names_ReadCall.f a0 t238).bind fun bt239 => ((names_Action.f a2).bind fun bt241 => (if t236 = a0 then (if t237 = 0 then (if bt239.1 = a1 then (hurdlelaw09_NamesBack.j0 k a2 bt241.1 bt241.2 (bt239.2 != 0)) else (hurdlelaw09_NamesBack.j0 k a2 bt241.1 bt241.2 true)) else (hurdlelaw09_NamesBack.j0 k a2 bt241.1 bt241.2 true)) else (hurdlelaw09_NamesBack.j0 k a2 bt241.1 bt241.2 true)))) = some r := H
  have A6 := Aside0.mk A60
  clear A60
  replace H := Option.bind_eq_some_iff.mp H
  obtain ⟨⟨t239, t240⟩, A70, H⟩ := H
  replace H : ((names_Action.f a2).bind fun bt241 => (if t236 = a0 then (if t237 = 0 then (if t239 = a1 then (hurdlelaw09_NamesBack.j0 k a2 bt241.1 bt241.2 (t240 != 0)) else (hurdlelaw09_NamesBack.j0 k a2 bt241.1 bt241.2 true)) else (hurdlelaw09_NamesBack.j0 k a2 bt241.1 bt241.2 true)) else (hurdlelaw09_NamesBack.j0 k a2 bt241.1 bt241.2 true))) = some r := H
  have A7 := Aside0.mk A70
  clear A70
  replace H := Option.bind_eq_some_iff.mp H
  obtain ⟨⟨t241, t242⟩, A80, H⟩ := H
  replace H : (if t236 = a0 then (if t237 = 0 then (if t239 = a1 then (hurdlelaw09_NamesBack.j0 k a2 t241 t242 (t240 != 0)) else (hurdlelaw09_NamesBack.j0 k a2 t241 t242 true)) else (hurdlelaw09_NamesBack.j0 k a2 t241 t242 true)) else (hurdlelaw09_NamesBack.j0 k a2 t241 t242 true)) = some r := H
  have A8 := Aside0.mk A80
  clear A80
  have HC9 := Aside0.mk H
  clear H
  go_enter Try.func12, Try.ntmps12
  go_upto_region 4 with (first | ((with_reducible refine gate_callee (f := 26) rfl ?_); refine goesL_ (some 17) rfl rfl Try.func26 (by kernel_rfl) rfl #[.int .u32 a0] rfl (by (try simp only [List.map_toArray, List.map_cons, List.map_nil]); first | done | rfl | (simp only [List.length_drop, List.length_take]; rfl)) ?_; (with_reducible refine (names_Machine.calls a0 t235 _ A4.out).mono ?_); rintro e w10 ⟨rfl, hb⟩; refine ⟨_, rfl, ?_⟩; have n0_ := Aside0.mk (below_step (by repeat (first | (with_reducible first | exact HB.out | apply below_alloc | apply pw_below_drewN | apply below_drew1) | exact HB.out)) hb); clear HB; have HB := n0_; clear n0_; (try clear hb); (try clear hb2); (try clear hk); (try clear hi)) | ((with_reducible refine gate_callee (f := 31) rfl ?_); refine goesL_ (some 18) rfl rfl Try.func31 (by kernel_rfl) rfl #[.string t235] rfl (by (try simp only [List.map_toArray, List.map_cons, List.map_nil]); first | done | rfl | (simp only [List.length_drop, List.length_take]; rfl)) ?_; (with_reducible refine (names_ReadMachine.calls t235 t236 t237 _ A5.out).mono ?_); rintro e w11 ⟨rfl, hb⟩; refine ⟨_, rfl, ?_⟩; have n0_ := Aside0.mk (below_step (by repeat (first | (with_reducible first | exact HB.out | apply below_alloc | apply pw_below_drewN | apply below_drew1) | exact HB.out)) hb); clear HB; have HB := n0_; clear n0_; (try clear hb); (try clear hb2); (try clear hk); (try clear hi)) | ((with_reducible refine gate_callee (f := 28) rfl ?_); refine goesL_ (some 25) rfl rfl Try.func28 (by kernel_rfl) rfl #[.int .u32 a0, .int .u32 a1] rfl (by (try simp only [List.map_toArray, List.map_cons, List.map_nil]); first | done | rfl | (simp only [List.length_drop, List.length_take]; rfl)) ?_; (with_reducible refine (names_Call.calls a0 a1 t238 _ A6.out).mono ?_); rintro e w12 ⟨rfl, hb⟩; refine ⟨_, rfl, ?_⟩; have n0_ := Aside0.mk (below_step (by repeat (first | (with_reducible first | exact HB.out | apply below_alloc | apply pw_below_drewN | apply below_drew1) | exact HB.out)) hb); clear HB; have HB := n0_; clear n0_; (try clear hb); (try clear hb2); (try clear hk); (try clear hi)) | ((with_reducible refine gate_callee (f := 33) rfl ?_); refine goesL_ (some 26) rfl rfl Try.func33 (by kernel_rfl) rfl #[.int .u32 a0, .string t238] rfl (by (try simp only [List.map_toArray, List.map_cons, List.map_nil]); first | done | rfl | (simp only [List.length_drop, List.length_take]; rfl)) ?_; (with_reducible refine (names_ReadCall.calls a0 t238 t239 t240 _ A7.out).mono ?_); rintro e w13 ⟨rfl, hb⟩; refine ⟨_, rfl, ?_⟩; have n0_ := Aside0.mk (below_step (by repeat (first | (with_reducible first | exact HB.out | apply below_alloc | apply pw_below_drewN | apply below_drew1) | exact HB.out)) hb); clear HB; have HB := n0_; clear n0_; (try clear hb); (try clear hb2); (try clear hk); (try clear hi)) | ((with_reducible refine gate_callee (f := 24) rfl ?_); refine goesL_ (some 31) rfl rfl Try.func24 (by kernel_rfl) rfl #[.int .u32 a2] rfl (by (try simp only [List.map_toArray, List.map_cons, List.map_nil]); first | done | rfl | (simp only [List.length_drop, List.length_take]; rfl)) ?_; (with_reducible refine (names_Action.calls a2 t241 t242 _ A8.out).mono ?_); rintro e w14 ⟨rfl, hb⟩; refine ⟨_, rfl, ?_⟩; have n0_ := Aside0.mk (below_step (by repeat (first | (with_reducible first | exact HB.out | apply below_alloc | apply pw_below_drewN | apply below_drew1) | exact HB.out)) hb); clear HB; have HB := n0_; clear n0_; (try clear hb); (try clear hb2); (try clear hk); (try clear hi)))
  (try simp only [Act.put, List.setIfInBounds_toArray, List.set_cons_zero, List.set_cons_succ])
  go_cut [49] (fun v49 wc => ∃ (kq : Nat) (x49_8 : Bool), v49 = .bool x49_8 ∧ Aside0 (hurdlelaw09_NamesBack.j0 kq a2 t241 t242 x49_8 = some r) ∧ Aside0 (kq ≤ k) ∧ Aside0 (Below w.heap.size w wc))
  case first =>
    have H := HC9.out
    clear HC9
    by_cases c15 : t236 = a0
    · rw [if_pos c15] at H
      have c15b0 : (t236 == a0) = true := beq_iff_eq.mpr c15
      have c15b1 : (t236 != a0) = false := bne_eq_false_iff_eq.mpr c15
      clear c15
      (first | rw [c15b0] | (simp only [i64_w, i32_w]; rw [c15b0]) | skip)
      by_cases c16 : t237 = 0
      · rw [if_pos c16] at H
        have c16b0 : (t237 == 0) = true := beq_iff_eq.mpr c16
        have c16b1 : (t237 != 0) = false := bne_eq_false_iff_eq.mpr c16
        clear c16
        by_cases c17 : t239 = a1
        · rw [if_pos c17] at H
          have c17b0 : (t239 == a1) = true := beq_iff_eq.mpr c17
          have c17b1 : (t239 != a1) = false := bne_eq_false_iff_eq.mpr c17
          clear c17
          have H' := Aside0.mk H
          clear H
          go_wp2
          go_meet
          case rel => exact ⟨_, ((t240 != 0)), (by first | rfl | (simp; done) | (simp [*]; done)), H', ⟨by first | omega | exact Nat.le_refl _⟩, ⟨by repeat (first | (with_reducible first | exact HB.out | apply below_alloc | apply pw_below_drewN | apply below_drew1) | exact HB.out)⟩⟩
        · rw [if_neg c17] at H
          have c17b0 : (t239 == a1) = false := beq_eq_false_iff_ne.mpr c17
          have c17b1 : (t239 != a1) = true := bne_iff_ne.mpr c17
          have H' := Aside0.mk H
          clear H
          go_wp2
          go_meet
          case rel => exact ⟨_, (true), (by first | rfl | (simp; done) | (simp [*]; done)), H', ⟨by first | omega | exact Nat.le_refl _⟩, ⟨by repeat (first | (with_reducible first | exact HB.out | apply below_alloc | apply pw_below_drewN | apply below_drew1) | exact HB.out)⟩⟩
      · rw [if_neg c16] at H
        have c16b0 : (t237 == 0) = false := beq_eq_false_iff_ne.mpr c16
        have c16b1 : (t237 != 0) = true := bne_iff_ne.mpr c16
        have H' := Aside0.mk H
        clear H
        go_wp2
        go_meet
        case rel => exact ⟨_, (true), (by first | rfl | (simp; done) | (simp [*]; done)), H', ⟨by first | omega | exact Nat.le_refl _⟩, ⟨by repeat (first | (with_reducible first | exact HB.out | apply below_alloc | apply pw_below_drewN | apply below_drew1) | exact HB.out)⟩⟩
    · rw [if_neg c15] at H
      have c15b0 : (t236 == a0) = false := beq_eq_false_iff_ne.mpr c15
      have c15b1 : (t236 != a0) = true := bne_iff_ne.mpr c15
      (first | rw [c15b0] | (simp only [i64_w, i32_w]; rw [c15b0]) | skip)
      have H' := Aside0.mk H
      clear H
      go_wp2
      go_meet
      case rel => exact ⟨_, (true), (by first | rfl | (simp; done) | (simp [*]; done)), H', ⟨by first | omega | exact Nat.le_refl _⟩, ⟨by repeat (first | (with_reducible first | exact HB.out | apply below_alloc | apply pw_below_drewN | apply below_drew1) | exact HB.out)⟩⟩
  case rest =>
    clear HC9
    try clear c1
    try clear c2
    try clear p2
    try clear c3
    try clear c12
    try clear c15
    try clear c15b0
    try clear c15b1
    try clear c16
    try clear c16b0
    try clear c16b1
    try clear c17
    try clear c17b0
    try clear c17b1
    obtain ⟨kq, x49_8, rfl, HA, HJ8, HB⟩ := hcut
    cases kq with
    | zero => exact absurd HA.out (by simp [hurdlelaw09_NamesBack.j0])
    | succ kj8 =>
      have H := HA.out
      clear HA
      simp only [hurdlelaw09_NamesBack.j0] at H
      by_cases c18 : x49_8 = true
      · subst c18
        have H1 : (some false) = some r := by rw [if_pos rfl] at H; exact H
        clear H
        have H := H1
        clear H1
        obtain rfl := Option.some.inj H
        go_wp2
        go_ret
        exact ⟨by first | rfl | (simp [errW_none, errW_some] <;> rfl) | (simp [*, errW_none, errW_some] <;> rfl), by repeat (first | (with_reducible first | exact HB.out | apply below_alloc | apply pw_below_drewN | apply below_drew1) | exact HB.out)⟩
      · replace c18 := Bool.eq_false_iff.mpr c18
        subst c18
        have H1 : (if t242 = 0 then ((names_ReadAction.f t241).bind fun bt243 => (if bt243.1 = a2 then (if bt243.2 = 0 then ((hurdlelaw09_knows.f).bind fun t245 => (some t245)) else (some false)) else (some false))) else (if t241.toList = ([] : List UInt8) then ((hurdlelaw09_knows.f).bind fun t246 => (some t246)) else (some false))) = some r := by rw [if_neg (show ¬ (false = true) by decide)] at H; exact H
        clear H
        have H := H1
        clear H1
        by_cases c19 : t242 = 0
        · rw [if_pos c19] at H
          have c19b0 : (t242 == 0) = true := beq_iff_eq.mpr c19
          have c19b1 : (t242 != 0) = false := bne_eq_false_iff_eq.mpr c19
          clear c19
          replace H := Option.bind_eq_some_iff.mp H
          obtain ⟨⟨t243, t244⟩, A200, H⟩ := H
          replace H : (if t243 = a2 then (if t244 = 0 then ((hurdlelaw09_knows.f).bind fun t245 => (some t245)) else (some false)) else (some false)) = some r := H
          have A20 := Aside0.mk A200
          clear A200
          by_cases c21 : t243 = a2
          · rw [if_pos c21] at H
            have c21b0 : (t243 == a2) = true := beq_iff_eq.mpr c21
            have c21b1 : (t243 != a2) = false := bne_eq_false_iff_eq.mpr c21
            clear c21
            by_cases c22 : t244 = 0
            · rw [if_pos c22] at H
              have c22b0 : (t244 == 0) = true := beq_iff_eq.mpr c22
              have c22b1 : (t244 != 0) = false := bne_eq_false_iff_eq.mpr c22
              clear c22
              replace H := Option.bind_eq_some_iff.mp H
              obtain ⟨t245, A230, H⟩ := H
              replace H : (some t245) = some r := H
              have A23 := Aside0.mk A230
              clear A230
              obtain rfl := Option.some.inj H
              go_wp2_with (first | ((with_reducible refine gate_callee (f := 35) rfl ?_); refine goesL_ (some 59) rfl rfl Try.func35 (by kernel_rfl) rfl #[.string t241] rfl (by (try simp only [List.map_toArray, List.map_cons, List.map_nil]); first | done | rfl | (simp only [List.length_drop, List.length_take]; rfl)) ?_; (with_reducible refine (names_ReadAction.calls t241 t243 t244 _ A20.out).mono ?_); rintro e w24 ⟨rfl, hb⟩; refine ⟨_, rfl, ?_⟩; have n0_ := Aside0.mk (below_step (by repeat (first | (with_reducible first | exact HB.out | apply below_alloc | apply pw_below_drewN | apply below_drew1) | exact HB.out)) hb); clear HB; have HB := n0_; clear n0_; (try clear hb); (try clear hb2); (try clear hk); (try clear hi)) | (go_at_call 30; (with_reducible refine (hurdlelaw09_knows.calls  t245 _ A23.out).mono ?_); rintro e w25 ⟨rfl, hb⟩; have n0_ := Aside0.mk (below_step (by repeat (first | (with_reducible first | exact HB.out | apply below_alloc | apply pw_below_drewN | apply below_drew1) | exact HB.out)) hb); clear HB; have HB := n0_; clear n0_; (try clear hb); (try clear hb2); (try clear hk); (try clear hi)))
              go_ret
              exact ⟨by first | rfl | (simp [errW_none, errW_some] <;> rfl) | (simp [*, errW_none, errW_some] <;> rfl), by repeat (first | (with_reducible first | exact HB.out | apply below_alloc | apply pw_below_drewN | apply below_drew1) | exact HB.out)⟩
            · rw [if_neg c22] at H
              have c22b0 : (t244 == 0) = false := beq_eq_false_iff_ne.mpr c22
              have c22b1 : (t244 != 0) = true := bne_iff_ne.mpr c22
              obtain rfl := Option.some.inj H
              go_wp2_with (first | ((with_reducible refine gate_callee (f := 35) rfl ?_); refine goesL_ (some 59) rfl rfl Try.func35 (by kernel_rfl) rfl #[.string t241] rfl (by (try simp only [List.map_toArray, List.map_cons, List.map_nil]); first | done | rfl | (simp only [List.length_drop, List.length_take]; rfl)) ?_; (with_reducible refine (names_ReadAction.calls t241 t243 t244 _ A20.out).mono ?_); rintro e w26 ⟨rfl, hb⟩; refine ⟨_, rfl, ?_⟩; have n0_ := Aside0.mk (below_step (by repeat (first | (with_reducible first | exact HB.out | apply below_alloc | apply pw_below_drewN | apply below_drew1) | exact HB.out)) hb); clear HB; have HB := n0_; clear n0_; (try clear hb); (try clear hb2); (try clear hk); (try clear hi)))
              go_ret
              exact ⟨by first | rfl | (simp [errW_none, errW_some] <;> rfl) | (simp [*, errW_none, errW_some] <;> rfl), by repeat (first | (with_reducible first | exact HB.out | apply below_alloc | apply pw_below_drewN | apply below_drew1) | exact HB.out)⟩
          · rw [if_neg c21] at H
            have c21b0 : (t243 == a2) = false := beq_eq_false_iff_ne.mpr c21
            have c21b1 : (t243 != a2) = true := bne_iff_ne.mpr c21
            obtain rfl := Option.some.inj H
            go_wp2_with (first | ((with_reducible refine gate_callee (f := 35) rfl ?_); refine goesL_ (some 59) rfl rfl Try.func35 (by kernel_rfl) rfl #[.string t241] rfl (by (try simp only [List.map_toArray, List.map_cons, List.map_nil]); first | done | rfl | (simp only [List.length_drop, List.length_take]; rfl)) ?_; (with_reducible refine (names_ReadAction.calls t241 t243 t244 _ A20.out).mono ?_); rintro e w27 ⟨rfl, hb⟩; refine ⟨_, rfl, ?_⟩; have n0_ := Aside0.mk (below_step (by repeat (first | (with_reducible first | exact HB.out | apply below_alloc | apply pw_below_drewN | apply below_drew1) | exact HB.out)) hb); clear HB; have HB := n0_; clear n0_; (try clear hb); (try clear hb2); (try clear hk); (try clear hi)))
            go_ret
            exact ⟨by first | rfl | (simp [errW_none, errW_some] <;> rfl) | (simp [*, errW_none, errW_some] <;> rfl), by repeat (first | (with_reducible first | exact HB.out | apply below_alloc | apply pw_below_drewN | apply below_drew1) | exact HB.out)⟩
        · rw [if_neg c19] at H
          have c19b0 : (t242 == 0) = false := beq_eq_false_iff_ne.mpr c19
          have c19b1 : (t242 != 0) = true := bne_iff_ne.mpr c19
          by_cases c28 : t241.toList = ([] : List UInt8)
          · rw [if_pos c28] at H
            have c28b0 : (t241.toList == ([] : List UInt8)) = true := beq_iff_eq.mpr c28
            have c28b1 : (t241.toList != ([] : List UInt8)) = false := bne_eq_false_iff_eq.mpr c28
            clear c28
            replace H := Option.bind_eq_some_iff.mp H
            obtain ⟨t246, A290, H⟩ := H
            replace H : (some t246) = some r := H
            have A29 := Aside0.mk A290
            clear A290
            obtain rfl := Option.some.inj H
            go_wp2_with (first | (go_at_call 30; (with_reducible refine (hurdlelaw09_knows.calls  t246 _ A29.out).mono ?_); rintro e w30 ⟨rfl, hb⟩; have n0_ := Aside0.mk (below_step (by repeat (first | (with_reducible first | exact HB.out | apply below_alloc | apply pw_below_drewN | apply below_drew1) | exact HB.out)) hb); clear HB; have HB := n0_; clear n0_; (try clear hb); (try clear hb2); (try clear hk); (try clear hi)))
            go_ret
            exact ⟨by first | rfl | (simp [errW_none, errW_some] <;> rfl) | (simp [*, errW_none, errW_some] <;> rfl), by repeat (first | (with_reducible first | exact HB.out | apply below_alloc | apply pw_below_drewN | apply below_drew1) | exact HB.out)⟩
          · rw [if_neg c28] at H
            have c28b0 : (t241.toList == ([] : List UInt8)) = false := beq_eq_false_iff_ne.mpr c28
            have c28b1 : (t241.toList != ([] : List UInt8)) = true := bne_iff_ne.mpr c28
            obtain rfl := Option.some.inj H
            go_wp2
            go_ret
            exact ⟨by first | rfl | (simp [errW_none, errW_some] <;> rfl) | (simp [*, errW_none, errW_some] <;> rfl), by repeat (first | (with_reducible first | exact HB.out | apply below_alloc | apply pw_below_drewN | apply below_drew1) | exact HB.out)⟩

/-- THE ONE PURE STATEMENT of hurdlelaw09_NamesBack: yours. -/
def hurdlelaw09_NamesBack.Pure : Prop := ∀ (a0 : Int) (a1 : Int) (a2 : Int), (Lit.int .u32 a0).wf = true → (Lit.int .u32 a1).wf = true → (Lit.int .u32 a2).wf = true → ∃ k, hurdlelaw09_NamesBack.f k a0 a1 a2 = some true
theorem hurdlelaw09_NamesBack.walk (P : hurdlelaw09_NamesBack.Pure) (a0 : Int) (a1 : Int) (a2 : Int) (w : World) (w0 : (Lit.int .u32 a0).wf = true) (w1 : (Lit.int .u32 a1).wf = true) (w2 : (Lit.int .u32 a2).wf = true) :
    Calls Try.prog 12 #[.int .u32 a0, .int .u32 a1, .int .u32 a2] w fun e w' => e = .returned (.bool true) ∧ Below w.heap.size w w' := by
  obtain ⟨k, h⟩ := P a0 a1 a2 w0 w1 w2
  refine (hurdlelaw09_NamesBack.calls k a0 a1 a2 true w h).mono ?_
  rintro e w' ⟨rfl, hd⟩
  exact ⟨rfl, hd⟩

/-! ### hurdlelaw09_NamesOnly: function 13 -/
def hurdlelaw09_NamesOnly.j0 : Nat → ByteArray → Int → Int → Bool → Option (Bool)
  | 0, _, _, _, _ => none
  | k + 1, x1, x9, x10, x51 => if x51 = true then (some false) else (if x10 = 0 then ((names_Action.f x9).bind fun bt257 => (if bt257.1.toList = x1.toList then (if bt257.2 = 0 then ((hurdlelaw09_knows.f).bind fun t259 => (some t259)) else (some false)) else (some false))) else (if x9 = 0 then ((hurdlelaw09_knows.f).bind fun t260 => (some t260)) else (some false)))
def hurdlelaw09_NamesOnly.f (k : Nat) (a0 : Int) (a1 : ByteArray) : Option (Bool) := if (a1.size : Int) > 200 then ((hurdlelaw09_knows.f).bind fun t247 => (some t247)) else ((names_ReadMachine.f a1).bind fun bt248 => ((names_ReadCall.f a0 a1).bind fun bt250 => ((names_ReadAction.f a1).bind fun bt252 => (if bt248.2 = 0 then ((names_Machine.f bt248.1).bind fun t254 => (if t254.toList = a1.toList then (if bt250.2 = 0 then ((names_Call.f a0 bt250.1).bind fun t255 => (hurdlelaw09_NamesOnly.j0 k a1 bt252.1 bt252.2 (t255.toList != a1.toList))) else (hurdlelaw09_NamesOnly.j0 k a1 bt252.1 bt252.2 false)) else (hurdlelaw09_NamesOnly.j0 k a1 bt252.1 bt252.2 true))) else (if bt250.2 = 0 then ((names_Call.f a0 bt250.1).bind fun t256 => (hurdlelaw09_NamesOnly.j0 k a1 bt252.1 bt252.2 (t256.toList != a1.toList))) else (hurdlelaw09_NamesOnly.j0 k a1 bt252.1 bt252.2 false))))))
theorem hurdlelaw09_NamesOnly.mono_l : ∀ k, (∀ y0 y1 y2 y3, LeO (hurdlelaw09_NamesOnly.j0 k y0 y1 y2 y3) (hurdlelaw09_NamesOnly.j0 (k + 1) y0 y1 y2 y3))
  | 0 => fun _ _ _ _ r h => by simp [hurdlelaw09_NamesOnly.j0] at h
  | k + 1 => by
    have ih0 := hurdlelaw09_NamesOnly.mono_l k
    · intro y0 y1 y2 y3
      unfold hurdlelaw09_NamesOnly.j0
      repeat' first
      | (with_reducible exact ih0 _ _ _ _)
      | (with_reducible exact LeO.refl _)
      | (with_reducible exact LeO.none _)
      | (with_reducible refine LeO.ite ?_ ?_)
      | (with_reducible refine LeO.bind ?_ (fun _ => ?_))
      | exact ih0 _ _ _ _
      | exact LeO.none _
      | refine LeO.ite ?_ ?_
      | refine LeO.bind ?_ (fun _ => ?_)
theorem hurdlelaw09_NamesOnly.mono : ∀ a0 a1 k, LeO (hurdlelaw09_NamesOnly.f k a0 a1) (hurdlelaw09_NamesOnly.f (k + 1) a0 a1) := by
  intro a0 a1 k
  have ih0 := hurdlelaw09_NamesOnly.mono_l k
  unfold hurdlelaw09_NamesOnly.f
  repeat' first
      | (with_reducible exact ih0 _ _ _ _)
      | (with_reducible exact LeO.refl _)
      | (with_reducible exact LeO.none _)
      | (with_reducible refine LeO.ite ?_ ?_)
      | (with_reducible refine LeO.bind ?_ (fun _ => ?_))
      | exact ih0 _ _ _ _
      | exact LeO.none _
      | refine LeO.ite ?_ ?_
      | refine LeO.bind ?_ (fun _ => ?_)
set_option maxHeartbeats 8000000 in
set_option maxRecDepth 100000 in
theorem hurdlelaw09_NamesOnly.calls (k : Nat) (a0 : Int) (a1 : ByteArray) (r : Bool) (w : World) (h : hurdlelaw09_NamesOnly.f k a0 a1 = some r) :
    Calls Try.prog 13 #[.int .u32 a0, .string a1] w fun e w' => e = .returned (.bool r) ∧ Below w.heap.size w w' := by
  have HB := Aside0.mk (Below.refl w.heap.size w)
  have H : (if (a1.size : Int) > 200 then ((hurdlelaw09_knows.f).bind fun t247 => (some t247)) else ((names_ReadMachine.f a1).bind fun bt248 => ((names_ReadCall.f a0 a1).bind fun bt250 => ((names_ReadAction.f a1).bind fun bt252 => (if bt248.2 = 0 then ((names_Machine.f bt248.1).bind fun t254 => (if t254.toList = a1.toList then (if bt250.2 = 0 then ((names_Call.f a0 bt250.1).bind fun t255 => (hurdlelaw09_NamesOnly.j0 k a1 bt252.1 bt252.2 (t255.toList != a1.toList))) else (hurdlelaw09_NamesOnly.j0 k a1 bt252.1 bt252.2 false)) else (hurdlelaw09_NamesOnly.j0 k a1 bt252.1 bt252.2 true))) else (if bt250.2 = 0 then ((names_Call.f a0 bt250.1).bind fun t256 => (hurdlelaw09_NamesOnly.j0 k a1 bt252.1 bt252.2 (t256.toList != a1.toList))) else (hurdlelaw09_NamesOnly.j0 k a1 bt252.1 bt252.2 false))))))) = some r := h
  clear h
  by_cases c3 : (a1.size : Int) > 200
  · rw [if_pos c3] at H
    have c3b0 : decide (200 < (a1.size : Int)) = true := decide_eq_true c3
    have c3b1 : decide (200 < a1.size) = true := decide_eq_true (by omega)
    clear c3
    replace H := Option.bind_eq_some_iff.mp H
    obtain ⟨t247, A40, H⟩ := H
    replace H : (some t247) = some r := H
    have A4 := Aside0.mk A40
    clear A40
    obtain rfl := Option.some.inj H
    go_enter Try.func13, Try.ntmps13
    go_wp2_with (first | ((with_reducible refine gate_callee (f := 30) rfl ?_); refine goesL_ (some 16) rfl rfl Try.func30 (by kernel_rfl) rfl #[] rfl (by (try simp only [List.map_toArray, List.map_cons, List.map_nil]); first | done | rfl | (simp only [List.length_drop, List.length_take]; rfl)) ?_; (with_reducible refine (hurdlelaw09_knows.calls  t247 _ A4.out).mono ?_); rintro e w5 ⟨rfl, hb⟩; refine ⟨_, rfl, ?_⟩; have n0_ := Aside0.mk (below_step (by repeat (first | (with_reducible first | exact HB.out | apply below_alloc | apply pw_below_drewN | apply below_drew1) | exact HB.out)) hb); clear HB; have HB := n0_; clear n0_; (try clear hb); (try clear hb2); (try clear hk); (try clear hi)))
    go_ret
    exact ⟨by first | rfl | (simp [errW_none, errW_some] <;> rfl) | (simp [*, errW_none, errW_some] <;> rfl), by repeat (first | (with_reducible first | exact HB.out | apply below_alloc | apply pw_below_drewN | apply below_drew1) | exact HB.out)⟩
  · rw [if_neg c3] at H
    have c3b0 : decide (200 < (a1.size : Int)) = false := decide_eq_false c3
    have c3b1 : decide (200 < a1.size) = false := decide_eq_false (by omega)
    clear c3
    replace H := Option.bind_eq_some_iff.mp H
    obtain ⟨⟨t248, t249⟩, A60, H⟩ := H
    replace H : ((names_ReadCall.f a0 a1).bind fun bt250 => ((names_ReadAction.f a1).bind fun bt252 => (if t249 = 0 then ((names_Machine.f t248).bind fun t254 => (if t254.toList = a1.toList then (if bt250.2 = 0 then ((names_Call.f a0 bt250.1).bind fun t255 => (hurdlelaw09_NamesOnly.j0 k a1 bt252.1 bt252.2 (t255.toList != a1.toList))) else (hurdlelaw09_NamesOnly.j0 k a1 bt252.1 bt252.2 false)) else (hurdlelaw09_NamesOnly.j0 k a1 bt252.1 bt252.2 true))) else (if bt250.2 = 0 then ((names_Call.f a0 bt250.1).bind fun t256 => (hurdlelaw09_NamesOnly.j0 k a1 bt252.1 bt252.2 (t256.toList != a1.toList))) else (hurdlelaw09_NamesOnly.j0 k a1 bt252.1 bt252.2 false))))) = some r := H
    have A6 := Aside0.mk A60
    clear A60
    replace H := Option.bind_eq_some_iff.mp H
    obtain ⟨⟨t250, t251⟩, A70, H⟩ := H
    replace H : ((names_ReadAction.f a1).bind fun bt252 => (if t249 = 0 then ((names_Machine.f t248).bind fun t254 => (if t254.toList = a1.toList then (if t251 = 0 then ((names_Call.f a0 t250).bind fun t255 => (hurdlelaw09_NamesOnly.j0 k a1 bt252.1 bt252.2 (t255.toList != a1.toList))) else (hurdlelaw09_NamesOnly.j0 k a1 bt252.1 bt252.2 false)) else (hurdlelaw09_NamesOnly.j0 k a1 bt252.1 bt252.2 true))) else (if t251 = 0 then ((names_Call.f a0 t250).bind fun t256 => (hurdlelaw09_NamesOnly.j0 k a1 bt252.1 bt252.2 (t256.toList != a1.toList))) else (hurdlelaw09_NamesOnly.j0 k a1 bt252.1 bt252.2 false)))) = some r := H
    have A7 := Aside0.mk A70
    clear A70
    replace H := Option.bind_eq_some_iff.mp H
    obtain ⟨⟨t252, t253⟩, A80, H⟩ := H
    replace H : (if t249 = 0 then ((names_Machine.f t248).bind fun t254 => (if t254.toList = a1.toList then (if t251 = 0 then ((names_Call.f a0 t250).bind fun t255 => (hurdlelaw09_NamesOnly.j0 k a1 t252 t253 (t255.toList != a1.toList))) else (hurdlelaw09_NamesOnly.j0 k a1 t252 t253 false)) else (hurdlelaw09_NamesOnly.j0 k a1 t252 t253 true))) else (if t251 = 0 then ((names_Call.f a0 t250).bind fun t256 => (hurdlelaw09_NamesOnly.j0 k a1 t252 t253 (t256.toList != a1.toList))) else (hurdlelaw09_NamesOnly.j0 k a1 t252 t253 false))) = some r := H
    have A8 := Aside0.mk A80
    clear A80
    have HC9 := Aside0.mk H
    clear H
    go_enter Try.func13, Try.ntmps13
    go_upto_region 6 with (first | ((with_reducible refine gate_callee (f := 31) rfl ?_); refine goesL_ (some 19) rfl rfl Try.func31 (by kernel_rfl) rfl #[.string a1] rfl (by (try simp only [List.map_toArray, List.map_cons, List.map_nil]); first | done | rfl | (simp only [List.length_drop, List.length_take]; rfl)) ?_; (with_reducible refine (names_ReadMachine.calls a1 t248 t249 _ A6.out).mono ?_); rintro e w10 ⟨rfl, hb⟩; refine ⟨_, rfl, ?_⟩; have n0_ := Aside0.mk (below_step (by repeat (first | (with_reducible first | exact HB.out | apply below_alloc | apply pw_below_drewN | apply below_drew1) | exact HB.out)) hb); clear HB; have HB := n0_; clear n0_; (try clear hb); (try clear hb2); (try clear hk); (try clear hi)) | ((with_reducible refine gate_callee (f := 33) rfl ?_); refine goesL_ (some 25) rfl rfl Try.func33 (by kernel_rfl) rfl #[.int .u32 a0, .string a1] rfl (by (try simp only [List.map_toArray, List.map_cons, List.map_nil]); first | done | rfl | (simp only [List.length_drop, List.length_take]; rfl)) ?_; (with_reducible refine (names_ReadCall.calls a0 a1 t250 t251 _ A7.out).mono ?_); rintro e w11 ⟨rfl, hb⟩; refine ⟨_, rfl, ?_⟩; have n0_ := Aside0.mk (below_step (by repeat (first | (with_reducible first | exact HB.out | apply below_alloc | apply pw_below_drewN | apply below_drew1) | exact HB.out)) hb); clear HB; have HB := n0_; clear n0_; (try clear hb); (try clear hb2); (try clear hk); (try clear hi)) | ((with_reducible refine gate_callee (f := 35) rfl ?_); refine goesL_ (some 30) rfl rfl Try.func35 (by kernel_rfl) rfl #[.string a1] rfl (by (try simp only [List.map_toArray, List.map_cons, List.map_nil]); first | done | rfl | (simp only [List.length_drop, List.length_take]; rfl)) ?_; (with_reducible refine (names_ReadAction.calls a1 t252 t253 _ A8.out).mono ?_); rintro e w12 ⟨rfl, hb⟩; refine ⟨_, rfl, ?_⟩; have n0_ := Aside0.mk (below_step (by repeat (first | (with_reducible first | exact HB.out | apply below_alloc | apply pw_below_drewN | apply below_drew1) | exact HB.out)) hb); clear HB; have HB := n0_; clear n0_; (try clear hb); (try clear hb2); (try clear hk); (try clear hi)))
    (try simp only [Act.put, List.setIfInBounds_toArray, List.set_cons_zero, List.set_cons_succ])
    go_cut [51] (fun v51 wc => ∃ (kq : Nat) (x51_8 : Bool), v51 = .bool x51_8 ∧ Aside0 (hurdlelaw09_NamesOnly.j0 kq a1 t252 t253 x51_8 = some r) ∧ Aside0 (kq ≤ k) ∧ Aside0 (Below w.heap.size w wc))
    case first =>
      have H := HC9.out
      clear HC9
      by_cases c13 : t249 = 0
      · rw [if_pos c13] at H
        have c13b0 : (t249 == 0) = true := beq_iff_eq.mpr c13
        have c13b1 : (t249 != 0) = false := bne_eq_false_iff_eq.mpr c13
        clear c13
        (first | rw [c13b0] | (simp only [i64_w, i32_w]; rw [c13b0]) | skip)
        replace H := Option.bind_eq_some_iff.mp H
        obtain ⟨t254, A140, H⟩ := H
        replace H : (if t254.toList = a1.toList then (if t251 = 0 then ((names_Call.f a0 t250).bind fun t255 => (hurdlelaw09_NamesOnly.j0 k a1 t252 t253 (t255.toList != a1.toList))) else (hurdlelaw09_NamesOnly.j0 k a1 t252 t253 false)) else (hurdlelaw09_NamesOnly.j0 k a1 t252 t253 true)) = some r := H
        have A14 := Aside0.mk A140
        clear A140
        by_cases c15 : t254.toList = a1.toList
        · rw [if_pos c15] at H
          have c15b0 : (t254.toList == a1.toList) = true := beq_iff_eq.mpr c15
          have c15b1 : (t254.toList != a1.toList) = false := bne_eq_false_iff_eq.mpr c15
          clear c15
          by_cases c16 : t251 = 0
          · rw [if_pos c16] at H
            have c16b0 : (t251 == 0) = true := beq_iff_eq.mpr c16
            have c16b1 : (t251 != 0) = false := bne_eq_false_iff_eq.mpr c16
            clear c16
            replace H := Option.bind_eq_some_iff.mp H
            obtain ⟨t255, A170, H⟩ := H
            replace H : (hurdlelaw09_NamesOnly.j0 k a1 t252 t253 (t255.toList != a1.toList)) = some r := H
            have A17 := Aside0.mk A170
            clear A170
            have H' := Aside0.mk H
            clear H
            go_wp2_with (first | (go_at_call 26; (with_reducible refine (names_Machine.calls t248 t254 _ A14.out).mono ?_); rintro e w18 ⟨rfl, hb⟩; have n0_ := Aside0.mk (below_step (by repeat (first | (with_reducible first | exact HB.out | apply below_alloc | apply pw_below_drewN | apply below_drew1) | exact HB.out)) hb); clear HB; have HB := n0_; clear n0_; (try clear hb); (try clear hb2); (try clear hk); (try clear hi)) | (go_at_call 28; (with_reducible refine (names_Call.calls a0 t250 t255 _ A17.out).mono ?_); rintro e w19 ⟨rfl, hb⟩; have n0_ := Aside0.mk (below_step (by repeat (first | (with_reducible first | exact HB.out | apply below_alloc | apply pw_below_drewN | apply below_drew1) | exact HB.out)) hb); clear HB; have HB := n0_; clear n0_; (try clear hb); (try clear hb2); (try clear hk); (try clear hi)))
            go_meet
            case rel => exact ⟨_, ((t255.toList != a1.toList)), (by first | rfl | (simp; done) | (simp [*]; done)), H', ⟨by first | omega | exact Nat.le_refl _⟩, ⟨by repeat (first | (with_reducible first | exact HB.out | apply below_alloc | apply pw_below_drewN | apply below_drew1) | exact HB.out)⟩⟩
          · rw [if_neg c16] at H
            have c16b0 : (t251 == 0) = false := beq_eq_false_iff_ne.mpr c16
            have c16b1 : (t251 != 0) = true := bne_iff_ne.mpr c16
            have H' := Aside0.mk H
            clear H
            go_wp2_with (first | (go_at_call 26; (with_reducible refine (names_Machine.calls t248 t254 _ A14.out).mono ?_); rintro e w20 ⟨rfl, hb⟩; have n0_ := Aside0.mk (below_step (by repeat (first | (with_reducible first | exact HB.out | apply below_alloc | apply pw_below_drewN | apply below_drew1) | exact HB.out)) hb); clear HB; have HB := n0_; clear n0_; (try clear hb); (try clear hb2); (try clear hk); (try clear hi)))
            go_meet
            case rel => exact ⟨_, (false), (by first | rfl | (simp; done) | (simp [*]; done)), H', ⟨by first | omega | exact Nat.le_refl _⟩, ⟨by repeat (first | (with_reducible first | exact HB.out | apply below_alloc | apply pw_below_drewN | apply below_drew1) | exact HB.out)⟩⟩
        · rw [if_neg c15] at H
          have c15b0 : (t254.toList == a1.toList) = false := beq_eq_false_iff_ne.mpr c15
          have c15b1 : (t254.toList != a1.toList) = true := bne_iff_ne.mpr c15
          have H' := Aside0.mk H
          clear H
          go_wp2_with (first | (go_at_call 26; (with_reducible refine (names_Machine.calls t248 t254 _ A14.out).mono ?_); rintro e w21 ⟨rfl, hb⟩; have n0_ := Aside0.mk (below_step (by repeat (first | (with_reducible first | exact HB.out | apply below_alloc | apply pw_below_drewN | apply below_drew1) | exact HB.out)) hb); clear HB; have HB := n0_; clear n0_; (try clear hb); (try clear hb2); (try clear hk); (try clear hi)))
          go_meet
          case rel => exact ⟨_, (true), (by first | rfl | (simp; done) | (simp [*]; done)), H', ⟨by first | omega | exact Nat.le_refl _⟩, ⟨by repeat (first | (with_reducible first | exact HB.out | apply below_alloc | apply pw_below_drewN | apply below_drew1) | exact HB.out)⟩⟩
      · rw [if_neg c13] at H
        have c13b0 : (t249 == 0) = false := beq_eq_false_iff_ne.mpr c13
        have c13b1 : (t249 != 0) = true := bne_iff_ne.mpr c13
        (first | rw [c13b0] | (simp only [i64_w, i32_w]; rw [c13b0]) | skip)
        by_cases c22 : t251 = 0
        · rw [if_pos c22] at H
          have c22b0 : (t251 == 0) = true := beq_iff_eq.mpr c22
          have c22b1 : (t251 != 0) = false := bne_eq_false_iff_eq.mpr c22
          clear c22
          replace H := Option.bind_eq_some_iff.mp H
          obtain ⟨t256, A230, H⟩ := H
          replace H : (hurdlelaw09_NamesOnly.j0 k a1 t252 t253 (t256.toList != a1.toList)) = some r := H
          have A23 := Aside0.mk A230
          clear A230
          have H' := Aside0.mk H
          clear H
          go_wp2_with (first | (go_at_call 28; (with_reducible refine (names_Call.calls a0 t250 t256 _ A23.out).mono ?_); rintro e w24 ⟨rfl, hb⟩; have n0_ := Aside0.mk (below_step (by repeat (first | (with_reducible first | exact HB.out | apply below_alloc | apply pw_below_drewN | apply below_drew1) | exact HB.out)) hb); clear HB; have HB := n0_; clear n0_; (try clear hb); (try clear hb2); (try clear hk); (try clear hi)))
          go_meet
          case rel => exact ⟨_, ((t256.toList != a1.toList)), (by first | rfl | (simp; done) | (simp [*]; done)), H', ⟨by first | omega | exact Nat.le_refl _⟩, ⟨by repeat (first | (with_reducible first | exact HB.out | apply below_alloc | apply pw_below_drewN | apply below_drew1) | exact HB.out)⟩⟩
        · rw [if_neg c22] at H
          have c22b0 : (t251 == 0) = false := beq_eq_false_iff_ne.mpr c22
          have c22b1 : (t251 != 0) = true := bne_iff_ne.mpr c22
          have H' := Aside0.mk H
          clear H
          go_wp2
          go_meet
          case rel => exact ⟨_, (false), (by first | rfl | (simp; done) | (simp [*]; done)), H', ⟨by first | omega | exact Nat.le_refl _⟩, ⟨by repeat (first | (with_reducible first | exact HB.out | apply below_alloc | apply pw_below_drewN | apply below_drew1) | exact HB.out)⟩⟩
    case rest =>
      clear HC9
      try clear c1
      try clear c2
      try clear p2
      try clear c3
      try clear c3b0
      try clear c3b1
      try clear c13
      try clear c13b0
      try clear c13b1
      try clear c15
      try clear c15b0
      try clear c15b1
      try clear c16
      try clear c16b0
      try clear c16b1
      try clear c22
      try clear c22b0
      try clear c22b1
      obtain ⟨kq, x51_8, rfl, HA, HJ8, HB⟩ := hcut
      cases kq with
      | zero => exact absurd HA.out (by simp [hurdlelaw09_NamesOnly.j0])
      | succ kj8 =>
        have H := HA.out
        clear HA
        simp only [hurdlelaw09_NamesOnly.j0] at H
        by_cases c25 : x51_8 = true
        · subst c25
          have H1 : (some false) = some r := by rw [if_pos rfl] at H; exact H
          clear H
          have H := H1
          clear H1
          obtain rfl := Option.some.inj H
          go_wp2
          go_ret
          exact ⟨by first | rfl | (simp [errW_none, errW_some] <;> rfl) | (simp [*, errW_none, errW_some] <;> rfl), by repeat (first | (with_reducible first | exact HB.out | apply below_alloc | apply pw_below_drewN | apply below_drew1) | exact HB.out)⟩
        · replace c25 := Bool.eq_false_iff.mpr c25
          subst c25
          have H1 : (if t253 = 0 then ((names_Action.f t252).bind fun bt257 => (if bt257.1.toList = a1.toList then (if bt257.2 = 0 then ((hurdlelaw09_knows.f).bind fun t259 => (some t259)) else (some false)) else (some false))) else (if t252 = 0 then ((hurdlelaw09_knows.f).bind fun t260 => (some t260)) else (some false))) = some r := by rw [if_neg (show ¬ (false = true) by decide)] at H; exact H
          clear H
          have H := H1
          clear H1
          by_cases c26 : t253 = 0
          · rw [if_pos c26] at H
            have c26b0 : (t253 == 0) = true := beq_iff_eq.mpr c26
            have c26b1 : (t253 != 0) = false := bne_eq_false_iff_eq.mpr c26
            clear c26
            replace H := Option.bind_eq_some_iff.mp H
            obtain ⟨⟨t257, t258⟩, A270, H⟩ := H
            replace H : (if t257.toList = a1.toList then (if t258 = 0 then ((hurdlelaw09_knows.f).bind fun t259 => (some t259)) else (some false)) else (some false)) = some r := H
            have A27 := Aside0.mk A270
            clear A270
            by_cases c28 : t257.toList = a1.toList
            · rw [if_pos c28] at H
              have c28b0 : (t257.toList == a1.toList) = true := beq_iff_eq.mpr c28
              have c28b1 : (t257.toList != a1.toList) = false := bne_eq_false_iff_eq.mpr c28
              clear c28
              by_cases c29 : t258 = 0
              · rw [if_pos c29] at H
                have c29b0 : (t258 == 0) = true := beq_iff_eq.mpr c29
                have c29b1 : (t258 != 0) = false := bne_eq_false_iff_eq.mpr c29
                clear c29
                replace H := Option.bind_eq_some_iff.mp H
                obtain ⟨t259, A300, H⟩ := H
                replace H : (some t259) = some r := H
                have A30 := Aside0.mk A300
                clear A300
                obtain rfl := Option.some.inj H
                go_wp2_with (first | ((with_reducible refine gate_callee (f := 24) rfl ?_); refine goesL_ (some 61) rfl rfl Try.func24 (by kernel_rfl) rfl #[.int .u32 t252] rfl (by (try simp only [List.map_toArray, List.map_cons, List.map_nil]); first | done | rfl | (simp only [List.length_drop, List.length_take]; rfl)) ?_; (with_reducible refine (names_Action.calls t252 t257 t258 _ A27.out).mono ?_); rintro e w31 ⟨rfl, hb⟩; refine ⟨_, rfl, ?_⟩; have n0_ := Aside0.mk (below_step (by repeat (first | (with_reducible first | exact HB.out | apply below_alloc | apply pw_below_drewN | apply below_drew1) | exact HB.out)) hb); clear HB; have HB := n0_; clear n0_; (try clear hb); (try clear hb2); (try clear hk); (try clear hi)) | (go_at_call 30; (with_reducible refine (hurdlelaw09_knows.calls  t259 _ A30.out).mono ?_); rintro e w32 ⟨rfl, hb⟩; have n0_ := Aside0.mk (below_step (by repeat (first | (with_reducible first | exact HB.out | apply below_alloc | apply pw_below_drewN | apply below_drew1) | exact HB.out)) hb); clear HB; have HB := n0_; clear n0_; (try clear hb); (try clear hb2); (try clear hk); (try clear hi)))
                go_ret
                exact ⟨by first | rfl | (simp [errW_none, errW_some] <;> rfl) | (simp [*, errW_none, errW_some] <;> rfl), by repeat (first | (with_reducible first | exact HB.out | apply below_alloc | apply pw_below_drewN | apply below_drew1) | exact HB.out)⟩
              · rw [if_neg c29] at H
                have c29b0 : (t258 == 0) = false := beq_eq_false_iff_ne.mpr c29
                have c29b1 : (t258 != 0) = true := bne_iff_ne.mpr c29
                obtain rfl := Option.some.inj H
                go_wp2_with (first | ((with_reducible refine gate_callee (f := 24) rfl ?_); refine goesL_ (some 61) rfl rfl Try.func24 (by kernel_rfl) rfl #[.int .u32 t252] rfl (by (try simp only [List.map_toArray, List.map_cons, List.map_nil]); first | done | rfl | (simp only [List.length_drop, List.length_take]; rfl)) ?_; (with_reducible refine (names_Action.calls t252 t257 t258 _ A27.out).mono ?_); rintro e w33 ⟨rfl, hb⟩; refine ⟨_, rfl, ?_⟩; have n0_ := Aside0.mk (below_step (by repeat (first | (with_reducible first | exact HB.out | apply below_alloc | apply pw_below_drewN | apply below_drew1) | exact HB.out)) hb); clear HB; have HB := n0_; clear n0_; (try clear hb); (try clear hb2); (try clear hk); (try clear hi)))
                go_ret
                exact ⟨by first | rfl | (simp [errW_none, errW_some] <;> rfl) | (simp [*, errW_none, errW_some] <;> rfl), by repeat (first | (with_reducible first | exact HB.out | apply below_alloc | apply pw_below_drewN | apply below_drew1) | exact HB.out)⟩
            · rw [if_neg c28] at H
              have c28b0 : (t257.toList == a1.toList) = false := beq_eq_false_iff_ne.mpr c28
              have c28b1 : (t257.toList != a1.toList) = true := bne_iff_ne.mpr c28
              obtain rfl := Option.some.inj H
              go_wp2_with (first | ((with_reducible refine gate_callee (f := 24) rfl ?_); refine goesL_ (some 61) rfl rfl Try.func24 (by kernel_rfl) rfl #[.int .u32 t252] rfl (by (try simp only [List.map_toArray, List.map_cons, List.map_nil]); first | done | rfl | (simp only [List.length_drop, List.length_take]; rfl)) ?_; (with_reducible refine (names_Action.calls t252 t257 t258 _ A27.out).mono ?_); rintro e w34 ⟨rfl, hb⟩; refine ⟨_, rfl, ?_⟩; have n0_ := Aside0.mk (below_step (by repeat (first | (with_reducible first | exact HB.out | apply below_alloc | apply pw_below_drewN | apply below_drew1) | exact HB.out)) hb); clear HB; have HB := n0_; clear n0_; (try clear hb); (try clear hb2); (try clear hk); (try clear hi)))
              go_ret
              exact ⟨by first | rfl | (simp [errW_none, errW_some] <;> rfl) | (simp [*, errW_none, errW_some] <;> rfl), by repeat (first | (with_reducible first | exact HB.out | apply below_alloc | apply pw_below_drewN | apply below_drew1) | exact HB.out)⟩
          · rw [if_neg c26] at H
            have c26b0 : (t253 == 0) = false := beq_eq_false_iff_ne.mpr c26
            have c26b1 : (t253 != 0) = true := bne_iff_ne.mpr c26
            by_cases c35 : t252 = 0
            · rw [if_pos c35] at H
              have c35b0 : (t252 == 0) = true := beq_iff_eq.mpr c35
              have c35b1 : (t252 != 0) = false := bne_eq_false_iff_eq.mpr c35
              clear c35
              replace H := Option.bind_eq_some_iff.mp H
              obtain ⟨t260, A360, H⟩ := H
              replace H : (some t260) = some r := H
              have A36 := Aside0.mk A360
              clear A360
              obtain rfl := Option.some.inj H
              go_wp2_with (first | (go_at_call 30; (with_reducible refine (hurdlelaw09_knows.calls  t260 _ A36.out).mono ?_); rintro e w37 ⟨rfl, hb⟩; have n0_ := Aside0.mk (below_step (by repeat (first | (with_reducible first | exact HB.out | apply below_alloc | apply pw_below_drewN | apply below_drew1) | exact HB.out)) hb); clear HB; have HB := n0_; clear n0_; (try clear hb); (try clear hb2); (try clear hk); (try clear hi)))
              go_ret
              exact ⟨by first | rfl | (simp [errW_none, errW_some] <;> rfl) | (simp [*, errW_none, errW_some] <;> rfl), by repeat (first | (with_reducible first | exact HB.out | apply below_alloc | apply pw_below_drewN | apply below_drew1) | exact HB.out)⟩
            · rw [if_neg c35] at H
              have c35b0 : (t252 == 0) = false := beq_eq_false_iff_ne.mpr c35
              have c35b1 : (t252 != 0) = true := bne_iff_ne.mpr c35
              obtain rfl := Option.some.inj H
              go_wp2
              go_ret
              exact ⟨by first | rfl | (simp [errW_none, errW_some] <;> rfl) | (simp [*, errW_none, errW_some] <;> rfl), by repeat (first | (with_reducible first | exact HB.out | apply below_alloc | apply pw_below_drewN | apply below_drew1) | exact HB.out)⟩

/-- THE ONE PURE STATEMENT of hurdlelaw09_NamesOnly: yours. -/
def hurdlelaw09_NamesOnly.Pure : Prop := ∀ (a0 : Int) (a1 : ByteArray), (Lit.int .u32 a0).wf = true → a1.size ≤ 140737488351232 → ∃ k, hurdlelaw09_NamesOnly.f k a0 a1 = some true
theorem hurdlelaw09_NamesOnly.walk (P : hurdlelaw09_NamesOnly.Pure) (a0 : Int) (a1 : ByteArray) (w : World) (w0 : (Lit.int .u32 a0).wf = true) (w1 : a1.size ≤ 140737488351232) :
    Calls Try.prog 13 #[.int .u32 a0, .string a1] w fun e w' => e = .returned (.bool true) ∧ Below w.heap.size w w' := by
  obtain ⟨k, h⟩ := P a0 a1 w0 w1
  refine (hurdlelaw09_NamesOnly.calls k a0 a1 true w h).mono ?_
  rintro e w' ⟨rfl, hd⟩
  exact ⟨rfl, hd⟩

end Go.Proofs.Ythdkgpmpopjnaaa.R
