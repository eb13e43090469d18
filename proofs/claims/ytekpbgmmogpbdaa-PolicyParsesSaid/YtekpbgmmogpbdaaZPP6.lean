/- A text is the policy that the document says, or the place and the error are told (any text of up to 25000 bytes). -/
import Derived.Test.YtekpbgmmogpbdaaRows
import Derived.WalkKit
import Derived.ProofKit
import Derived.OpenShut
import Derived.ShutString
import Derived.ChangeOld
import Derived.Below
import Derived.SizedLaws
import Derived.Test.YtekpbgmmogpbdaaZPP0
import Derived.Test.YtekpbgmmogpbdaaZPP1
import Derived.Test.YtekpbgmmogpbdaaZPP2
import Derived.Test.YtekpbgmmogpbdaaZPP3
import Derived.Test.YtekpbgmmogpbdaaZPP4
import Derived.Test.YtekpbgmmogpbdaaZPP5
set_option linter.unusedVariables false
set_option linter.unusedSimpArgs false
namespace Go.Proofs.Ytekpbgmmogpbdaa.P
open Go.RowKit Go.Proofs.Ytekpbgmmogpbdaa.H Go.Proofs.YtekpbgmmogpbdaaW.PrintWords Go.Proofs.YtekpbgmmogpbdaaW.PrintLast Go.Proofs.YtekpbgmmogpbdaaW.PrintMore
attribute [local go_sem] max2_int min2_int max_two min_two max_three min_three max_four min_four
def hurdlelaw10_knows.f (k : Nat)  : Option (Bool) := (policy_Parse.f (⟨#[111, 110, 32, 120, 54, 52, 32, 119, 114, 105, 116, 101, 32, 97, 108, 108, 111, 119, 32, 105, 102, 32, 97, 48, 32, 48, 120, 102, 102, 102, 102, 102, 102, 102, 102, 32, 101, 113, 32, 48, 120, 49, 10, 100, 101, 102, 97, 117, 108, 116, 32, 107, 105, 108, 108, 10]⟩ : ByteArray)).bind fun bt211 => ((policy_Print.f k bt211.1 bt211.2.1).bind fun bt218 => ((policy_Parse.f (⟨#[100, 101, 102, 97, 117, 108, 116, 32, 107, 105, 108, 108, 10, 104, 97, 121, 10]⟩ : ByteArray)).bind fun bt220 => (if bt211.2.2.2 = 0 then (if (bt211.1.length : Int) = 1 then (if 0 < (bt211.1.length : Int) then (if ((rd_T40 bt211.1 0).f1) = 1 then (if (((rd_T40 bt211.1 0).f2).length : Int) = 1 then (if bt218.1.toList = ([111, 110, 32, 120, 54, 52, 32, 119, 114, 105, 116, 101, 32, 97, 108, 108, 111, 119, 32, 105, 102, 32, 97, 48, 32, 48, 120, 102, 102, 102, 102, 102, 102, 102, 102, 32, 101, 113, 32, 48, 120, 49, 10, 100, 101, 102, 97, 117, 108, 116, 32, 107, 105, 108, 108, 10] : List UInt8) then (if bt218.2 = 0 then (if bt220.2.2.1 = 13 then (if bt220.2.2.2 = 2 then ((policy_Right.f k bt211.1 bt211.2.1).bind fun t229 => (some t229)) else (some false)) else (some false)) else (some false)) else (some false)) else (some false)) else (some false)) else (none)) else (some false)) else (some false))))
set_option maxHeartbeats 8000000 in
set_option maxRecDepth 100000 in
theorem hurdlelaw10_knows.calls (k : Nat)  (r : Bool) (w : World) (h : hurdlelaw10_knows.f k  = some r) (ht : r = true := by first | rfl | assumption) :
 Calls Try.prog 15 #[] w fun e w' => e = .returned (.bool r) ∧ Below w.heap.size w w' := by
 have hu25 := Try.underlying25
 have HB := aM (Below.refl w.heap.size w)
 have H : ((policy_Parse.f (⟨#[111, 110, 32, 120, 54, 52, 32, 119, 114, 105, 116, 101, 32, 97, 108, 108, 111, 119, 32, 105, 102, 32, 97, 48, 32, 48, 120, 102, 102, 102, 102, 102, 102, 102, 102, 32, 101, 113, 32, 48, 120, 49, 10, 100, 101, 102, 97, 117, 108, 116, 32, 107, 105, 108, 108, 10]⟩ : ByteArray)).bind fun bt211 => ((policy_Print.f k bt211.1 bt211.2.1).bind fun bt218 => ((policy_Parse.f (⟨#[100, 101, 102, 97, 117, 108, 116, 32, 107, 105, 108, 108, 10, 104, 97, 121, 10]⟩ : ByteArray)).bind fun bt220 => (if bt211.2.2.2 = 0 then (if (bt211.1.length : Int) = 1 then (if 0 < (bt211.1.length : Int) then (if ((rd_T40 bt211.1 0).f1) = 1 then (if (((rd_T40 bt211.1 0).f2).length : Int) = 1 then (if bt218.1.toList = ([111, 110, 32, 120, 54, 52, 32, 119, 114, 105, 116, 101, 32, 97, 108, 108, 111, 119, 32, 105, 102, 32, 97, 48, 32, 48, 120, 102, 102, 102, 102, 102, 102, 102, 102, 32, 101, 113, 32, 48, 120, 49, 10, 100, 101, 102, 97, 117, 108, 116, 32, 107, 105, 108, 108, 10] : List UInt8) then (if bt218.2 = 0 then (if bt220.2.2.1 = 13 then (if bt220.2.2.2 = 2 then ((policy_Right.f k bt211.1 bt211.2.1).bind fun t229 => (some t229)) else (some false)) else (some false)) else (some false)) else (some false)) else (some false)) else (some false)) else (none)) else (some false)) else (some false))))) = some r := h
 clear h
 replace H := Option.bind_eq_some_iff.mp H
 obtain ⟨⟨t211, t214, t215, t216⟩, A10, H⟩ := H
 replace H : ((policy_Print.f k t211 t214).bind fun bt218 => ((policy_Parse.f (⟨#[100, 101, 102, 97, 117, 108, 116, 32, 107, 105, 108, 108, 10, 104, 97, 121, 10]⟩ : ByteArray)).bind fun bt220 => (if t216 = 0 then (if (t211.length : Int) = 1 then (if 0 < (t211.length : Int) then (if ((rd_T40 t211 0).f1) = 1 then (if (((rd_T40 t211 0).f2).length : Int) = 1 then (if bt218.1.toList = ([111, 110, 32, 120, 54, 52, 32, 119, 114, 105, 116, 101, 32, 97, 108, 108, 111, 119, 32, 105, 102, 32, 97, 48, 32, 48, 120, 102, 102, 102, 102, 102, 102, 102, 102, 32, 101, 113, 32, 48, 120, 49, 10, 100, 101, 102, 97, 117, 108, 116, 32, 107, 105, 108, 108, 10] : List UInt8) then (if bt218.2 = 0 then (if bt220.2.2.1 = 13 then (if bt220.2.2.2 = 2 then ((policy_Right.f k t211 t214).bind fun t229 => (some t229)) else (some false)) else (some false)) else (some false)) else (some false)) else (some false)) else (some false)) else (none)) else (some false)) else (some false)))) = some r := H
 have A1 := aM A10
 clear A10
 replace H := Option.bind_eq_some_iff.mp H
 obtain ⟨⟨t218, t219⟩, A20, H⟩ := H
 replace H : ((policy_Parse.f (⟨#[100, 101, 102, 97, 117, 108, 116, 32, 107, 105, 108, 108, 10, 104, 97, 121, 10]⟩ : ByteArray)).bind fun bt220 => (if t216 = 0 then (if (t211.length : Int) = 1 then (if 0 < (t211.length : Int) then (if ((rd_T40 t211 0).f1) = 1 then (if (((rd_T40 t211 0).f2).length : Int) = 1 then (if t218.toList = ([111, 110, 32, 120, 54, 52, 32, 119, 114, 105, 116, 101, 32, 97, 108, 108, 111, 119, 32, 105, 102, 32, 97, 48, 32, 48, 120, 102, 102, 102, 102, 102, 102, 102, 102, 32, 101, 113, 32, 48, 120, 49, 10, 100, 101, 102, 97, 117, 108, 116, 32, 107, 105, 108, 108, 10] : List UInt8) then (if t219 = 0 then (if bt220.2.2.1 = 13 then (if bt220.2.2.2 = 2 then ((policy_Right.f k t211 t214).bind fun t229 => (some t229)) else (some false)) else (some false)) else (some false)) else (some false)) else (some false)) else (some false)) else (none)) else (some false)) else (some false))) = some r := H
 have A2 := aM A20
 clear A20
 replace H := Option.bind_eq_some_iff.mp H
 obtain ⟨⟨t220, t223, t224, t225⟩, A30, H⟩ := H
 replace H : (if t216 = 0 then (if (t211.length : Int) = 1 then (if 0 < (t211.length : Int) then (if ((rd_T40 t211 0).f1) = 1 then (if (((rd_T40 t211 0).f2).length : Int) = 1 then (if t218.toList = ([111, 110, 32, 120, 54, 52, 32, 119, 114, 105, 116, 101, 32, 97, 108, 108, 111, 119, 32, 105, 102, 32, 97, 48, 32, 48, 120, 102, 102, 102, 102, 102, 102, 102, 102, 32, 101, 113, 32, 48, 120, 49, 10, 100, 101, 102, 97, 117, 108, 116, 32, 107, 105, 108, 108, 10] : List UInt8) then (if t219 = 0 then (if t224 = 13 then (if t225 = 2 then ((policy_Right.f k t211 t214).bind fun t229 => (some t229)) else (some false)) else (some false)) else (some false)) else (some false)) else (some false)) else (some false)) else (none)) else (some false)) else (some false)) = some r := H
 have A3 := aM A30
 clear A30
 by_cases c4 : t216 = 0
 rotate_left
 · rw [if_neg c4] at H
   exact absurd ((Option.some.inj H).trans ht) Bool.false_ne_true
 rw [if_pos c4] at H
 have c4b0 : (t216 == 0) = true := beq_iff_eq.mpr c4
 have c4b1 : (t216 != 0) = false := bne_eq_false_iff_eq.mpr c4
 clear c4
 by_cases c5 : (t211.length : Int) = 1
 rotate_left
 · rw [if_neg c5] at H
   exact absurd ((Option.some.inj H).trans ht) Bool.false_ne_true
 rw [if_pos c5] at H
 have c5b0 : ((t211.length : Int) == 1) = true := beq_iff_eq.mpr c5
 have c5b1 : ((t211.length : Int) != 1) = false := bne_eq_false_iff_eq.mpr c5
 clear c5
 by_cases c6 : 0 < (t211.length : Int)
 rotate_left
 · rw [if_neg c6] at H
   exact absurd H (by simp)
 rw [if_pos c6] at H
 have c6b0 : decide (0 < (t211.length : Int)) = true := decide_eq_true c6
 have c6b1 : decide (0 < t211.length) = true := decide_eq_true (by omega)
 clear c6
 by_cases c7 : ((rd_T40 t211 0).f1) = 1
 rotate_left
 · rw [if_neg c7] at H
   exact absurd ((Option.some.inj H).trans ht) Bool.false_ne_true
 rw [if_pos c7] at H
 have c7b0 : (((rd_T40 t211 0).f1) == 1) = true := beq_iff_eq.mpr c7
 have c7b1 : (((rd_T40 t211 0).f1) != 1) = false := bne_eq_false_iff_eq.mpr c7
 clear c7
 by_cases c8 : (((rd_T40 t211 0).f2).length : Int) = 1
 rotate_left
 · rw [if_neg c8] at H
   exact absurd ((Option.some.inj H).trans ht) Bool.false_ne_true
 rw [if_pos c8] at H
 have c8b0 : ((((rd_T40 t211 0).f2).length : Int) == 1) = true := beq_iff_eq.mpr c8
 have c8b1 : ((((rd_T40 t211 0).f2).length : Int) != 1) = false := bne_eq_false_iff_eq.mpr c8
 clear c8
 by_cases c9 : t218.toList = ([111, 110, 32, 120, 54, 52, 32, 119, 114, 105, 116, 101, 32, 97, 108, 108, 111, 119, 32, 105, 102, 32, 97, 48, 32, 48, 120, 102, 102, 102, 102, 102, 102, 102, 102, 32, 101, 113, 32, 48, 120, 49, 10, 100, 101, 102, 97, 117, 108, 116, 32, 107, 105, 108, 108, 10] : List UInt8)
 rotate_left
 · rw [if_neg c9] at H
   exact absurd ((Option.some.inj H).trans ht) Bool.false_ne_true
 rw [if_pos c9] at H
 have c9b0 : (t218.toList == ([111, 110, 32, 120, 54, 52, 32, 119, 114, 105, 116, 101, 32, 97, 108, 108, 111, 119, 32, 105, 102, 32, 97, 48, 32, 48, 120, 102, 102, 102, 102, 102, 102, 102, 102, 32, 101, 113, 32, 48, 120, 49, 10, 100, 101, 102, 97, 117, 108, 116, 32, 107, 105, 108, 108, 10] : List UInt8)) = true := beq_iff_eq.mpr c9
 have c9b1 : (t218.toList != ([111, 110, 32, 120, 54, 52, 32, 119, 114, 105, 116, 101, 32, 97, 108, 108, 111, 119, 32, 105, 102, 32, 97, 48, 32, 48, 120, 102, 102, 102, 102, 102, 102, 102, 102, 32, 101, 113, 32, 48, 120, 49, 10, 100, 101, 102, 97, 117, 108, 116, 32, 107, 105, 108, 108, 10] : List UInt8)) = false := bne_eq_false_iff_eq.mpr c9
 clear c9
 by_cases c10 : t219 = 0
 rotate_left
 · rw [if_neg c10] at H
   exact absurd ((Option.some.inj H).trans ht) Bool.false_ne_true
 rw [if_pos c10] at H
 have c10b0 : (t219 == 0) = true := beq_iff_eq.mpr c10
 have c10b1 : (t219 != 0) = false := bne_eq_false_iff_eq.mpr c10
 clear c10
 by_cases c11 : t224 = 13
 rotate_left
 · rw [if_neg c11] at H
   exact absurd ((Option.some.inj H).trans ht) Bool.false_ne_true
 rw [if_pos c11] at H
 have c11b0 : (t224 == 13) = true := beq_iff_eq.mpr c11
 have c11b1 : (t224 != 13) = false := bne_eq_false_iff_eq.mpr c11
 clear c11
 by_cases c12 : t225 = 2
 rotate_left
 · rw [if_neg c12] at H
   exact absurd ((Option.some.inj H).trans ht) Bool.false_ne_true
 rw [if_pos c12] at H
 have c12b0 : (t225 == 2) = true := beq_iff_eq.mpr c12
 have c12b1 : (t225 != 2) = false := bne_eq_false_iff_eq.mpr c12
 clear c12
 replace H := Option.bind_eq_some_iff.mp H
 obtain ⟨t229, A130, H⟩ := H
 replace H : (some t229) = some r := H
 have A13 := aM A130
 clear A130
 obtain rfl := Option.some.inj H
 go_enter Try.func15, Try.ntmps15
 go_wp2_with (first | ((with_reducible refine gate_callee (f := 20) rfl ?_); refine goesL_ (some 12) rfl rfl Try.func20 kR rfl #[.string (⟨#[111, 110, 32, 120, 54, 52, 32, 119, 114, 105, 116, 101, 32, 97, 108, 108, 111, 119, 32, 105, 102, 32, 97, 48, 32, 48, 120, 102, 102, 102, 102, 102, 102, 102, 102, 32, 101, 113, 32, 48, 120, 49, 10, 100, 101, 102, 97, 117, 108, 116, 32, 107, 105, 108, 108, 10]⟩ : ByteArray)] rfl mpA ?_; (with_reducible refine (policy_Parse.calls (⟨#[111, 110, 32, 120, 54, 52, 32, 119, 114, 105, 116, 101, 32, 97, 108, 108, 111, 119, 32, 105, 102, 32, 97, 48, 32, 48, 120, 102, 102, 102, 102, 102, 102, 102, 102, 32, 101, 113, 32, 48, 120, 49, 10, 100, 101, 102, 97, 117, 108, 116, 32, 107, 105, 108, 108, 10]⟩ : ByteArray) t211 t214 t215 t216 _ A1.out).mono ?_); rintro e w14 ⟨v212, rfl, ho0, hb⟩; refine ⟨_, rfl, ?_⟩; have n0_ := aM (Kd.S_lower ho0 (below_size bl0)); have n1_ := aM (below_step bl0 hb); clear HB; have HO213 := n0_; have HB := n1_; clear n0_ n1_; (try clear hb); (try clear hb2); (try clear hk); (try clear hi); (try clear ho0)) | ((with_reducible refine gate_dst (N := 2) rfl ?_); (try (refine gate_guard (by rfl) ?_; dsimp only)); refine box_event ?hg (N := 2) ?hd (cs := #[.slice none 0 0, .int .u32 0]) (t := 25) ?hr ?_; (case hd => rfl); (case hg => rfl); (case hr => first | (go_simp; done) | (go_simp; rfl)); intro gb217 hg w15 hbox hb; have n0_ := aM (Kd.S_below (sdS HO213.out) hb); have n1_ := aM (below_step bl0 hb); have n2_ := aM (hbox); have n3_ := aM ((by rw [hg]; exact (below_size bl0) : w.heap.size ≤ gb217)); have n4_ := aM ((by rw [hg]; exact (below_size bl0) : w.heap.size ≤ gb217)); clear HO213; clear HB; have HO213 := n0_; have HB := n1_; have BK217 := n2_; have GW217 := n3_; have GE217 := n4_; clear n0_ n1_ n2_ n3_ n4_; clear hb hbox hg; obtain ⟨Ao16, co16, eo16⟩ := Kd.S_slice HO213.out; subst eo16; have hcz17_0 : w15.cell? ⟨gb217, 0, none⟩ = some (.slice none 0 0) := (blk_cell BK217.out 0).trans rfl; have hcz17_1 : w15.cell? ⟨gb217, 1, none⟩ = some (.int .u32 0) := (blk_cell BK217.out 1).trans rfl; have hfz17_0 := blk_frozen BK217.out 0; have hfz17_1 := blk_frozen BK217.out 1) | ((with_reducible refine gate_callee (f := 16) rfl ?_); refine goesL_ (some 18) rfl rfl Try.func16 kR rfl #[.agg #[.slice Ao16 t211.length co16, .int .u32 t214]] rfl mpA ?_; (with_reducible refine (policy_Print.calls k _ _ t211 t214 t218 t219 _ ?side1 ?side2 A2.out).mono ?_); (case side1 => refine (Kd.S_reads' (e := 40) (base := w.heap.size) (ok := fun k_ => True) (n := t211.length) (c := co16) ?_).2.2; exact (by refine sdS ?_; exact (Kd.S_mono (Kd.S_far (p := ⟨gb217, 1, none⟩) (Kd.S_far (p := ⟨gb217, 0, none⟩) (Kd.S_types HO213.out BK217.out (by decide)) (fun _ hk => hk.2) (.slice Ao16 t211.length co16)) (fun _ hk => hk.2) (.int .u32 t214)) (fun _ h_ => h_.1)))); (case side2 => exact (Kd.S_reads' HO213.out).2.1); rintro e w18 ⟨rfl, hb⟩; refine ⟨_, rfl, ?_⟩; have n0_ := aM (Kd.S_below (by refine sdS ?_; exact (Kd.S_mono (Kd.S_far (p := ⟨gb217, 1, none⟩) (Kd.S_far (p := ⟨gb217, 0, none⟩) (Kd.S_types HO213.out BK217.out (by decide)) (fun _ hk => hk.2) (.slice Ao16 t211.length co16)) (fun _ hk => hk.2) (.int .u32 t214)) (fun _ h_ => h_.1))) hb); have n1_ := aM (blk_below (g := gb217) (o := .cells #[.slice Ao16 t211.length co16, .int .u32 t214] 25 (0, 0)) (by refine bkS ?_; refine blk_put (cs := #[.slice Ao16 t211.length co16, .int .u32 0]) ?_ 1 _ rfl; refine bkS ?_; refine blk_put (cs := #[.slice none 0 0, .int .u32 0]) ?_ 0 _ rfl; refine bkS ?_; exact BK217.out) hb); have n2_ := aM (below_step (bl1 GE217.out) hb); clear HO213; clear BK217; clear HB; have HO213 := n0_; have BK217 := n1_; have HB := n2_; clear n0_ n1_ n2_; (try clear hb); (try clear hb2); (try clear hk); (try clear hi)) | ((with_reducible refine gate_callee (f := 20) rfl ?_); refine goesL_ (some 22) rfl rfl Try.func20 kR rfl #[.string (⟨#[100, 101, 102, 97, 117, 108, 116, 32, 107, 105, 108, 108, 10, 104, 97, 121, 10]⟩ : ByteArray)] rfl mpA ?_; (with_reducible refine (policy_Parse.calls (⟨#[100, 101, 102, 97, 117, 108, 116, 32, 107, 105, 108, 108, 10, 104, 97, 121, 10]⟩ : ByteArray) t220 t223 t224 t225 _ A3.out).mono ?_); rintro e w19 ⟨v221, rfl, ho0, hb⟩; refine ⟨_, rfl, ?_⟩; have n0_ := aM (Kd.S_elder' (sdS HO213.out) (Kd.S_base ho0) hb); have n1_ := aM (Kd.S_lower (Kd.S_new' ho0 (Kd.S_lt (sdS HO213.out))) (below_size (bl1 GE217.out))); have n2_ := aM (blk_below (g := gb217) (o := .cells #[.slice Ao16 t211.length co16, .int .u32 t214] 25 (0, 0)) (bkS BK217.out) hb); have n3_ := aM (below_step (bl1 GE217.out) hb); clear HO213; clear BK217; clear HB; have HO213 := n0_; have HO222 := n1_; have BK217 := n2_; have HB := n3_; clear n0_ n1_ n2_ n3_; (try clear hb); (try clear hb2); (try clear hk); (try clear hi); (try clear ho0)) | ((with_reducible refine gate_dst (N := 7) rfl ?_); (try (refine gate_guard (by rfl) ?_; dsimp only)); refine box_event ?hg (N := 7) ?hd (cs := #[.slice none 0 0, .int .u32 0]) (t := 25) ?hr ?_; (case hd => rfl); (case hg => rfl); (case hr => first | (go_simp; done) | (go_simp; rfl)); intro gb226 hg w20 hbox hb; have n0_ := aM (Kd.S_below (sdS HO213.out) hb); have n1_ := aM (Kd.S_below (sdS HO222.out) hb); have n2_ := aM (blk_below (g := gb217) (o := .cells #[.slice Ao16 t211.length co16, .int .u32 t214] 25 (0, 0)) (bkS BK217.out) hb); have n3_ := aM (below_step (bl1 GE217.out) hb); have n4_ := aM (hbox); have n5_ := aM ((by rw [hg]; exact (below_size (bl1 GE217.out)) : w.heap.size ≤ gb226)); have n6_ := aM ((by rw [hg]; exact (below_size (bl1 GE217.out)) : w.heap.size ≤ gb226)); have n7_ := aM ((by rw [hg]; exact Nat.ne_of_lt (blk_lt (g := gb217) (o := .cells #[.slice Ao16 t211.length co16, .int .u32 t214] 25 (0, 0)) (bkS BK217.out)) : gb217 ≠ gb226)); have n8_ := aM ((by rw [hg]; exact Nat.ne_of_gt (blk_lt (g := gb217) (o := .cells #[.slice Ao16 t211.length co16, .int .u32 t214] 25 (0, 0)) (bkS BK217.out)) : gb226 ≠ gb217)); clear HO213; clear HO222; clear BK217; clear HB; have HO213 := n0_; have HO222 := n1_; have BK217 := n2_; have HB := n3_; have BK226 := n4_; have GW226 := n5_; have GE226 := n6_; have NB217_226 := n7_; have NB226_217 := n8_; clear n0_ n1_ n2_ n3_ n4_ n5_ n6_ n7_ n8_; clear hb hbox hg; obtain ⟨Ao21, co21, eo21⟩ := Kd.S_slice HO222.out; subst eo21; have hnb22 := NB226_217.out; have hnc22 := NB217_226.out; have hcz23_0 : w20.cell? ⟨gb226, 0, none⟩ = some (.slice none 0 0) := (blk_cell BK226.out 0).trans rfl; have hcz23_1 : w20.cell? ⟨gb226, 1, none⟩ = some (.int .u32 0) := (blk_cell BK226.out 1).trans rfl; have hfz23_0 := blk_frozen BK226.out 0; have hfz23_1 := blk_frozen BK226.out 1) | ((with_reducible refine gate_store (t := 25) (p := 7) rfl ?_); refine store_event (t := 25) (p := 7) (v := ?vo_w24) (w1 := ((w20.setCell ⟨gb226, 0, none⟩ (.slice Ao21 t220.length co21)).setCell ⟨gb226, 1, none⟩ (.int .u32 t223))) ?hg ?ho ?hn ?hr ?_; (case ho => rfl); (case hg => rfl); (case hn => rfl); (case hr => first | (go_simp; done) | (go_simp; rfl)); intro w24 hw; have n0_ : Aside0 (Kd.S k40 40 w24 w.heap.size (fun k_ => some k_ ≠ (.slice Ao21 t220.length co21 : Value).ownBlock) (.slice Ao16 t211.length co16) t211) := ⟨(by rw [hw]; exact (by refine sdS ?_; exact Kd.S_mono (Kd.S_far (p := ⟨gb226, 1, none⟩) (Kd.S_far (p := ⟨gb226, 0, none⟩) (Kd.S_types HO213.out BK226.out (by decide)) (fun _ hk => hk.2) (.slice Ao21 t220.length co21)) (fun _ hk => hk.2) (.int .u32 t223)) (fun _ hk => hk.1.2)))⟩; have n1_ : Aside0 (Kd.S k40 40 w24 w.heap.size (fun k_ => some k_ ≠ (.slice Ao16 t211.length co16 : Value).ownBlock) (.slice Ao21 t220.length co21) t220) := ⟨(by rw [hw]; exact (by refine sdS ?_; exact Kd.S_mono (Kd.S_far (p := ⟨gb226, 1, none⟩) (Kd.S_far (p := ⟨gb226, 0, none⟩) (Kd.S_types HO222.out BK226.out (by decide)) (fun _ hk => hk.2) (.slice Ao21 t220.length co21)) (fun _ hk => hk.2) (.int .u32 t223)) (fun _ hk => hk.1.2)))⟩; have n2_ : Aside0 (w24.heap[gb217]? = some (.cells #[.slice Ao16 t211.length co16, .int .u32 t214] 25 (0, 0))) := ⟨(by rw [hw]; exact (by refine bkS ?_; refine blk_far ?_ NB217_226.out _; refine bkS ?_; refine blk_far ?_ NB217_226.out _; refine bkS ?_; exact BK217.out))⟩; have n3_ : Aside0 (w24.heap[gb226]? = some (.cells #[.slice Ao21 t220.length co21, .int .u32 t223] 25 (0, 0))) := ⟨(by rw [hw]; exact (by refine bkS ?_; refine blk_put (cs := #[.slice Ao21 t220.length co21, .int .u32 0]) ?_ 1 _ rfl; refine bkS ?_; refine blk_put (cs := #[.slice none 0 0, .int .u32 0]) ?_ 0 _ rfl; refine bkS ?_; exact BK226.out))⟩; have n4_ : Aside0 (Below w.heap.size w w24) := ⟨(by rw [hw]; exact (bl2 GE217.out GE226.out))⟩; clear hw; clear HO213; clear HO222; clear BK217; clear BK226; clear HB; have HO213 := n0_; have HO222 := n1_; have BK217 := n2_; have BK226 := n3_; have HB := n4_; clear n0_ n1_ n2_ n3_ n4_; have hcz25_0 : w24.cell? ⟨gb217, 0, none⟩ = some (.slice Ao16 t211.length co16) := (blk_cell BK217.out 0).trans rfl; have hcz25_1 : w24.cell? ⟨gb217, 1, none⟩ = some (.int .u32 t214) := (blk_cell BK217.out 1).trans rfl; have hfz25_0 := blk_frozen BK217.out 0; have hfz25_1 := blk_frozen BK217.out 1; have p227 : 0 ≤ (0 : Int) := (by omega); have q227 : 0 < (t211.length : Int) := of_decide_eq_true as_; obtain ⟨ad227, A227_2, c227_2, e227, hx227_0, hx227_1, hx227_2, hx227_3, hl227_2, hi227_2⟩ := at_T40 (Kd.S_reads' HO213.out).2.2 0 p227 q227; cases e227; obtain ⟨ce227, hce227, hMe227, hcc227⟩ := Kd.S_get HO213.out z40 0 p227 (by first | exact q227 | exact of_decide_eq_true as_ | (have e_ := (Kd.S_reads' HO213.out).1; omega)); obtain ⟨ve227_2, rfl, ge227_2⟩ := k40_openM hMe227; have hv227_2 := hcc227 2 _ rfl; rw [add_field _ _ 2 (by omega)] at hv227_2; replace hv227_2 := Option.some.inj (hv227_2.symm.trans hx227_2); rw [hv227_2] at ge227_2; have HL227_2 := aM (show Kd.R k61 61 _ _ _ _ ((rd_T40 t211 0).f2) from ge227_2); clear hv227_2 ge227_2; clear hcc227 hce227; have qi227 : (0 < t211.length) = True := eq_true (by omega); (try rw [show ((0 : Int)).toNat = 0 from rfl] at hx227_0); (try rw [show 0 * 4 = 0 from rfl] at hx227_0); (try rw [Addr.add_zero'] at hx227_0); (try rw [show ((0 : Int)).toNat = 0 from rfl] at hx227_1); (try rw [show 0 * 4 = 0 from rfl] at hx227_1); (try rw [Addr.add_zero'] at hx227_1); (try rw [show ((0 : Int)).toNat = 0 from rfl] at hx227_2); (try rw [show 0 * 4 = 0 from rfl] at hx227_2); (try rw [Addr.add_zero'] at hx227_2); (try rw [show ((0 : Int)).toNat = 0 from rfl] at hx227_3); (try rw [show 0 * 4 = 0 from rfl] at hx227_3); (try rw [Addr.add_zero'] at hx227_3); have HR227_2 := aM hi227_2; have HC227_2 := aM hl227_2; clear hi227_2 hl227_2; replace p227 := eq_true p227; replace q227 := eq_true q227; have p228 : 0 ≤ (0 : Int) := (by omega); have q228 : 0 < (t211.length : Int) := of_decide_eq_true as_; obtain ⟨ad228, A228_2, c228_2, e228, hx228_0, hx228_1, hx228_2, hx228_3, hl228_2, hi228_2⟩ := at_T40 (Kd.S_reads' HO213.out).2.2 0 p228 q228; obtain rfl : ad227 = ad228 := (by injection e228); obtain ⟨ce228, hce228, hMe228, hcc228⟩ := Kd.S_get HO213.out z40 0 p228 (by first | exact q228 | exact of_decide_eq_true as_ | (have e_ := (Kd.S_reads' HO213.out).1; omega)); obtain ⟨ve228_2, rfl, ge228_2⟩ := k40_openM hMe228; have hv228_2 := hcc228 2 _ rfl; rw [add_field _ _ 2 (by omega)] at hv228_2; replace hv228_2 := Option.some.inj (hv228_2.symm.trans hx228_2); rw [hv228_2] at ge228_2; have HL228_2 := aM (show Kd.R k61 61 _ _ _ _ ((rd_T40 t211 0).f2) from ge228_2); clear hv228_2 ge228_2; clear hcc228 hce228; have qi228 : (0 < t211.length) = True := eq_true (by omega); (try rw [show ((0 : Int)).toNat = 0 from rfl] at hx228_0); (try rw [show 0 * 4 = 0 from rfl] at hx228_0); (try rw [Addr.add_zero'] at hx228_0); (try rw [show ((0 : Int)).toNat = 0 from rfl] at hx228_1); (try rw [show 0 * 4 = 0 from rfl] at hx228_1); (try rw [Addr.add_zero'] at hx228_1); (try rw [show ((0 : Int)).toNat = 0 from rfl] at hx228_2); (try rw [show 0 * 4 = 0 from rfl] at hx228_2); (try rw [Addr.add_zero'] at hx228_2); (try rw [show ((0 : Int)).toNat = 0 from rfl] at hx228_3); (try rw [show 0 * 4 = 0 from rfl] at hx228_3); (try rw [Addr.add_zero'] at hx228_3); have HR228_2 := aM hi228_2; have HC228_2 := aM hl228_2; clear hi228_2 hl228_2; replace p228 := eq_true p228; replace q228 := eq_true q228; have ea_ := Option.some.inj (hx227_2.symm.trans hx228_2); injection ea_ with ea_ en_ ec_; subst ea_; subst ec_; clear en_) | (go_at_call 18; (with_reducible refine (policy_Right.calls k _ _ t211 t214 t229 _ ?side1 ?side2 A13.out).mono ?_); (case side1 => repeat (first | exact (Kd.S_reads' HO213.out).2.2 | (with_reducible refine Kd.C_alloc ?_ _) | (with_reducible refine Kd.C_drewN ?_ _) | (with_reducible refine Kd.C_drew ?_))); (case side2 => exact (Kd.S_reads' HO213.out).2.1); rintro e w26 ⟨rfl, hb⟩; have n0_ := aM (Kd.S_below (sdS HO213.out) hb); have n1_ := aM (Kd.S_below (sdS HO222.out) hb); have n2_ := aM (Kd.R_below (rdS HL227_2.out) hb); have n3_ := aM (Kd.R_below (rdS HL228_2.out) hb); have n4_ := aM (blk_below (g := gb217) (o := .cells #[.slice (some ad227) t211.length co16, .int .u32 t214] 25 (0, 0)) (bkS BK217.out) hb); have n5_ := aM (blk_below (g := gb226) (o := .cells #[.slice Ao21 t220.length co21, .int .u32 t223] 25 (0, 0)) (bkS BK226.out) hb); have n6_ := aM (Kd.C_below (by repeat (first | (with_reducible exact HR227_2.out) | (with_reducible refine Kd.C_alloc ?_ _) | (with_reducible refine Kd.C_drewN ?_ _) | (with_reducible refine Kd.C_drew ?_) | exact HR227_2.out)) hb); have n7_ := aM (Kd.C_below (by repeat (first | (with_reducible exact HR228_2.out) | (with_reducible refine Kd.C_alloc ?_ _) | (with_reducible refine Kd.C_drewN ?_ _) | (with_reducible refine Kd.C_drew ?_) | exact HR228_2.out)) hb); have n8_ := aM (below_step (bl2 GE217.out GE226.out) hb); clear HO213; clear HO222; clear HL227_2; clear HL228_2; clear BK217; clear BK226; clear HR227_2; clear HR228_2; clear HB; have HO213 := n0_; have HO222 := n1_; have HL227_2 := n2_; have HL228_2 := n3_; have BK217 := n4_; have BK226 := n5_; have HR227_2 := n6_; have HR228_2 := n7_; have HB := n8_; clear n0_ n1_ n2_ n3_ n4_ n5_ n6_ n7_ n8_; (try clear hb); (try clear hb2); (try clear hk); (try clear hi)))
 go_ret
 exact ⟨erA, bl2 GE217.out GE226.out⟩
end Go.Proofs.Ytekpbgmmogpbdaa.P
namespace Go.Proofs.Ytekpbgmmogpbdaa.P
open Go.RowKit Go.Proofs.Ytekpbgmmogpbdaa.H Go.Proofs.YtekpbgmmogpbdaaW.PrintWords Go.Proofs.YtekpbgmmogpbdaaW.PrintLast Go.Proofs.YtekpbgmmogpbdaaW.PrintMore
attribute [local go_sem] max2_int min2_int max_two min_two max_three min_three max_four min_four
theorem eqA61 (d : Nat) (w : World) (x0 y0 : Int) (x1 y1 : Int) (x2 y2 : Int) (x3 y3 : Int) :
 (Op.equalIn (d + 2) 61 (.agg #[.int .i64 x0, .int .i64 x1, .int .u64 x2, .int .u64 x3]) (.agg #[.int .i64 y0, .int .i64 y1, .int .u64 y2, .int .u64 y3])).run Try.prog w = .ok (x0 == y0 && (x1 == y1 && (x2 == y2 && (x3 == y3)))) w := by
 refine eqA_of Try.underlying61 kR ?_
 refine eqf_cons (by rfl) (by go_simp; rfl) (by go_simp; rfl) (by go_simp) ?_
 refine eqf_cons (by rfl) (by go_simp; rfl) (by go_simp; rfl) (by go_simp) ?_
 refine eqf_cons (by rfl) (by go_simp; rfl) (by go_simp; rfl) (by go_simp) ?_
 exact eqf_last (by rfl) (by go_simp; rfl) (by go_simp; rfl) (by go_simp)
end Go.Proofs.Ytekpbgmmogpbdaa.P
namespace Go.Proofs.Ytekpbgmmogpbdaa.P
open Go.RowKit Go.Proofs.Ytekpbgmmogpbdaa.H Go.Proofs.YtekpbgmmogpbdaaW.PrintWords Go.Proofs.YtekpbgmmogpbdaaW.PrintLast Go.Proofs.YtekpbgmmogpbdaaW.PrintMore
attribute [local go_sem] max2_int min2_int max_two min_two max_three min_three max_four min_four
attribute [local go_sem high] eqA61
mutual
def hurdleref10_SameRule.j0 : Nat → Bool → Int → Int → List (S61) → Int → Int → Int → List (S61) → Int → Option (Bool)
 | 0, _, _, _, _, _, _, _, _, _ => none
 | k + 1, x33, x441000, x441001, x441002, x441003, x442000, x442001, x442002, x442003 => if x33 = true then (some false) else (hurdleref10_SameRule.l0 k 0 x441000 x441001 x441002 x441003 x442000 x442001 x442002 x442003)
def hurdleref10_SameRule.l0 : Nat → Int → Int → Int → List (S61) → Int → Int → Int → List (S61) → Int → Option (Bool)
 | 0, _, _, _, _, _, _, _, _, _ => none
 | k + 1, x5, x441000, x441001, x441002, x441003, x442000, x442001, x442002, x442003 => if x5 < (x441002.length : Int) then (if 0 ≤ x5 then (if x5 < (x442002.length : Int) then (if (!(((rd_T61 x441002 x5).f0) == ((rd_T61 x442002 x5).f0)) || (!(((rd_T61 x441002 x5).f1) == ((rd_T61 x442002 x5).f1)) || (!(((rd_T61 x441002 x5).f2) == ((rd_T61 x442002 x5).f2)) || (!(((rd_T61 x441002 x5).f3) == ((rd_T61 x442002 x5).f3)))))) = true then (some false) else (hurdleref10_SameRule.l0 k (wrap64 (x5 + 1)) x441000 x441001 x441002 x441003 x442000 x442001 x442002 x442003)) else (none)) else (none)) else (some true)
end
def hurdleref10_SameRule.f (k : Nat) (a0_0 : Int) (a0_1 : Int) (l0_2 : List (S61)) (a0_3 : Int) (a1_0 : Int) (a1_1 : Int) (l1_2 : List (S61)) (a1_3 : Int) : Option (Bool) := if a0_0 = a1_0 then (if a0_1 = a1_1 then (if a0_3 = a1_3 then (hurdleref10_SameRule.j0 k ((l0_2.length : Int) != (l1_2.length : Int)) a0_0 a0_1 l0_2 a0_3 a1_0 a1_1 l1_2 a1_3) else (hurdleref10_SameRule.j0 k true a0_0 a0_1 l0_2 a0_3 a1_0 a1_1 l1_2 a1_3)) else (hurdleref10_SameRule.j0 k true a0_0 a0_1 l0_2 a0_3 a1_0 a1_1 l1_2 a1_3)) else (hurdleref10_SameRule.j0 k true a0_0 a0_1 l0_2 a0_3 a1_0 a1_1 l1_2 a1_3)
set_option maxHeartbeats 8000000 in
set_option maxRecDepth 100000 in
theorem hurdleref10_SameRule.calls (k : Nat) (a0_0 : Int) (a0_1 : Int) (A0_2 : Option Addr) (c0_2 : Nat) (l0_2 : List (S61)) (a0_3 : Int) (a1_0 : Int) (a1_1 : Int) (A1_2 : Option Addr) (c1_2 : Nat) (l1_2 : List (S61)) (a1_3 : Int) (r : Bool) (w : World) (hr0_2 : Kd.C k61 w A0_2 l0_2.length l0_2) (hc0_2 : l0_2.length ≤ c0_2) (hr1_2 : Kd.C k61 w A1_2 l1_2.length l1_2) (hc1_2 : l1_2.length ≤ c1_2) (h : hurdleref10_SameRule.f k a0_0 a0_1 l0_2 a0_3 a1_0 a1_1 l1_2 a1_3 = some r) :
 Calls Try.prog 44 #[.agg #[.int .u32 a0_0, .int .u32 a0_1, .slice A0_2 l0_2.length c0_2, .int .u32 a0_3], .agg #[.int .u32 a1_0, .int .u32 a1_1, .slice A1_2 l1_2.length c1_2, .int .u32 a1_3]] w fun e w' => e = .returned (.bool r) ∧ Below w.heap.size w w' := by
 have hu40 := Try.underlying40
 have hu61 := Try.underlying61
 have HR0_2 := aM hr0_2
 have HC0_2 := aM hc0_2
 clear hr0_2 hc0_2
 have HR1_2 := aM hr1_2
 have HC1_2 := aM hc1_2
 clear hr1_2 hc1_2
 have HB := aM (Below.refl w.heap.size w)
 have H : (if a0_0 = a1_0 then (if a0_1 = a1_1 then (if a0_3 = a1_3 then (hurdleref10_SameRule.j0 k ((l0_2.length : Int) != (l1_2.length : Int)) a0_0 a0_1 l0_2 a0_3 a1_0 a1_1 l1_2 a1_3) else (hurdleref10_SameRule.j0 k true a0_0 a0_1 l0_2 a0_3 a1_0 a1_1 l1_2 a1_3)) else (hurdleref10_SameRule.j0 k true a0_0 a0_1 l0_2 a0_3 a1_0 a1_1 l1_2 a1_3)) else (hurdleref10_SameRule.j0 k true a0_0 a0_1 l0_2 a0_3 a1_0 a1_1 l1_2 a1_3)) = some r := h
 clear h
 have HC3 := aM H
 clear H
 go_enter Try.func44, Try.ntmps44
 go_upto_region 1 with (first | ((with_reducible refine gate_dst (N := 2) rfl ?_); (try (refine gate_guard (by rfl) ?_; dsimp only)); refine box_event ?hg (N := 2) ?hd (cs := #[.int .u32 a0_0, .int .u32 a0_1, .slice A0_2 l0_2.length c0_2, .int .u32 a0_3]) (t := 40) ?hr ?_; (case hd => rfl); (case hg => rfl); (case hr => first | (go_simp; done) | (go_simp; rfl)); intro gb440 hg w4 hbox hb; have n0_ := aM (below_step bl0 hb); have n1_ := aM (hbox); have n2_ := aM ((by rw [hg]; exact (below_size bl0) : w.heap.size ≤ gb440)); have n3_ := aM ((by rw [hg]; exact (below_size bl0) : w.heap.size ≤ gb440)); clear HB; have HB := n0_; have BK440 := n1_; have GW440 := n2_; have GE440 := n3_; clear n0_ n1_ n2_ n3_; clear hb hbox hg) | ((with_reducible refine gate_dst (N := 3) rfl ?_); (try (refine gate_guard (by rfl) ?_; dsimp only)); refine box_event ?hg (N := 3) ?hd (cs := #[.int .u32 a1_0, .int .u32 a1_1, .slice A1_2 l1_2.length c1_2, .int .u32 a1_3]) (t := 40) ?hr ?_; (case hd => rfl); (case hg => rfl); (case hr => first | (go_simp; done) | (go_simp; rfl)); intro gb441 hg w5 hbox hb; have n0_ := aM (blk_below (g := gb440) (o := .cells #[.int .u32 a0_0, .int .u32 a0_1, .slice A0_2 l0_2.length c0_2, .int .u32 a0_3] 40 (0, 0)) (bkS BK440.out) hb); have n1_ := aM (below_step (bl1 GE440.out) hb); have n2_ := aM (hbox); have n3_ := aM ((by rw [hg]; exact (below_size (bl1 GE440.out)) : w.heap.size ≤ gb441)); have n4_ := aM ((by rw [hg]; exact (below_size (bl1 GE440.out)) : w.heap.size ≤ gb441)); have n5_ := aM ((by rw [hg]; exact Nat.ne_of_lt (blk_lt (g := gb440) (o := .cells #[.int .u32 a0_0, .int .u32 a0_1, .slice A0_2 l0_2.length c0_2, .int .u32 a0_3] 40 (0, 0)) (bkS BK440.out)) : gb440 ≠ gb441)); have n6_ := aM ((by rw [hg]; exact Nat.ne_of_gt (blk_lt (g := gb440) (o := .cells #[.int .u32 a0_0, .int .u32 a0_1, .slice A0_2 l0_2.length c0_2, .int .u32 a0_3] 40 (0, 0)) (bkS BK440.out)) : gb441 ≠ gb440)); clear BK440; clear HB; have BK440 := n0_; have HB := n1_; have BK441 := n2_; have GW441 := n3_; have GE441 := n4_; have NB440_441 := n5_; have NB441_440 := n6_; clear n0_ n1_ n2_ n3_ n4_ n5_ n6_; clear hb hbox hg))
 repeat (go_quiet (first | ((with_reducible refine gate_dst (N := 2) rfl ?_); (try (refine gate_guard (by rfl) ?_; dsimp only)); refine box_event ?hg (N := 2) ?hd (cs := #[.int .u32 a0_0, .int .u32 a0_1, .slice A0_2 l0_2.length c0_2, .int .u32 a0_3]) (t := 40) ?hr ?_; (case hd => rfl); (case hg => rfl); (case hr => first | (go_simp; done) | (go_simp; rfl)); intro gb440 hg w4 hbox hb; have n0_ := aM (below_step bl0 hb); have n1_ := aM (hbox); have n2_ := aM ((by rw [hg]; exact (below_size bl0) : w.heap.size ≤ gb440)); have n3_ := aM ((by rw [hg]; exact (below_size bl0) : w.heap.size ≤ gb440)); clear HB; have HB := n0_; have BK440 := n1_; have GW440 := n2_; have GE440 := n3_; clear n0_ n1_ n2_ n3_; clear hb hbox hg) | ((with_reducible refine gate_dst (N := 3) rfl ?_); (try (refine gate_guard (by rfl) ?_; dsimp only)); refine box_event ?hg (N := 3) ?hd (cs := #[.int .u32 a1_0, .int .u32 a1_1, .slice A1_2 l1_2.length c1_2, .int .u32 a1_3]) (t := 40) ?hr ?_; (case hd => rfl); (case hg => rfl); (case hr => first | (go_simp; done) | (go_simp; rfl)); intro gb441 hg w5 hbox hb; have n0_ := aM (blk_below (g := gb440) (o := .cells #[.int .u32 a0_0, .int .u32 a0_1, .slice A0_2 l0_2.length c0_2, .int .u32 a0_3] 40 (0, 0)) (bkS BK440.out) hb); have n1_ := aM (below_step (bl1 GE440.out) hb); have n2_ := aM (hbox); have n3_ := aM ((by rw [hg]; exact (below_size (bl1 GE440.out)) : w.heap.size ≤ gb441)); have n4_ := aM ((by rw [hg]; exact (below_size (bl1 GE440.out)) : w.heap.size ≤ gb441)); have n5_ := aM ((by rw [hg]; exact Nat.ne_of_lt (blk_lt (g := gb440) (o := .cells #[.int .u32 a0_0, .int .u32 a0_1, .slice A0_2 l0_2.length c0_2, .int .u32 a0_3] 40 (0, 0)) (bkS BK440.out)) : gb440 ≠ gb441)); have n6_ := aM ((by rw [hg]; exact Nat.ne_of_gt (blk_lt (g := gb440) (o := .cells #[.int .u32 a0_0, .int .u32 a0_1, .slice A0_2 l0_2.length c0_2, .int .u32 a0_3] 40 (0, 0)) (bkS BK440.out)) : gb441 ≠ gb440)); clear BK440; clear HB; have BK440 := n0_; have HB := n1_; have BK441 := n2_; have GW441 := n3_; have GE441 := n4_; have NB440_441 := n5_; have NB441_440 := n6_; clear n0_ n1_ n2_ n3_ n4_ n5_ n6_; clear hb hbox hg)); go_upto_region 1 with (first | ((with_reducible refine gate_dst (N := 2) rfl ?_); (try (refine gate_guard (by rfl) ?_; dsimp only)); refine box_event ?hg (N := 2) ?hd (cs := #[.int .u32 a0_0, .int .u32 a0_1, .slice A0_2 l0_2.length c0_2, .int .u32 a0_3]) (t := 40) ?hr ?_; (case hd => rfl); (case hg => rfl); (case hr => first | (go_simp; done) | (go_simp; rfl)); intro gb440 hg w4 hbox hb; have n0_ := aM (below_step bl0 hb); have n1_ := aM (hbox); have n2_ := aM ((by rw [hg]; exact (below_size bl0) : w.heap.size ≤ gb440)); have n3_ := aM ((by rw [hg]; exact (below_size bl0) : w.heap.size ≤ gb440)); clear HB; have HB := n0_; have BK440 := n1_; have GW440 := n2_; have GE440 := n3_; clear n0_ n1_ n2_ n3_; clear hb hbox hg) | ((with_reducible refine gate_dst (N := 3) rfl ?_); (try (refine gate_guard (by rfl) ?_; dsimp only)); refine box_event ?hg (N := 3) ?hd (cs := #[.int .u32 a1_0, .int .u32 a1_1, .slice A1_2 l1_2.length c1_2, .int .u32 a1_3]) (t := 40) ?hr ?_; (case hd => rfl); (case hg => rfl); (case hr => first | (go_simp; done) | (go_simp; rfl)); intro gb441 hg w5 hbox hb; have n0_ := aM (blk_below (g := gb440) (o := .cells #[.int .u32 a0_0, .int .u32 a0_1, .slice A0_2 l0_2.length c0_2, .int .u32 a0_3] 40 (0, 0)) (bkS BK440.out) hb); have n1_ := aM (below_step (bl1 GE440.out) hb); have n2_ := aM (hbox); have n3_ := aM ((by rw [hg]; exact (below_size (bl1 GE440.out)) : w.heap.size ≤ gb441)); have n4_ := aM ((by rw [hg]; exact (below_size (bl1 GE440.out)) : w.heap.size ≤ gb441)); have n5_ := aM ((by rw [hg]; exact Nat.ne_of_lt (blk_lt (g := gb440) (o := .cells #[.int .u32 a0_0, .int .u32 a0_1, .slice A0_2 l0_2.length c0_2, .int .u32 a0_3] 40 (0, 0)) (bkS BK440.out)) : gb440 ≠ gb441)); have n6_ := aM ((by rw [hg]; exact Nat.ne_of_gt (blk_lt (g := gb440) (o := .cells #[.int .u32 a0_0, .int .u32 a0_1, .slice A0_2 l0_2.length c0_2, .int .u32 a0_3] 40 (0, 0)) (bkS BK440.out)) : gb441 ≠ gb440)); clear BK440; clear HB; have BK440 := n0_; have HB := n1_; have BK441 := n2_; have GW441 := n3_; have GE441 := n4_; have NB440_441 := n5_; have NB441_440 := n6_; clear n0_ n1_ n2_ n3_ n4_ n5_ n6_; clear hb hbox hg)))
 (try simp only [Act.put, List.setIfInBounds_toArray, List.set_cons_zero, List.set_cons_succ])
 go_cut [33] (fun v33 wc => ∃ (kq : Nat) (x33_2 : Bool), v33 = .bool x33_2 ∧ Aside0 (hurdleref10_SameRule.j0 kq x33_2 a0_0 a0_1 l0_2 a0_3 a1_0 a1_1 l1_2 a1_3 = some r) ∧ Aside0 (kq ≤ k) ∧ Aside0 (wc.heap[gb440]? = some (.cells #[.int .u32 a0_0, .int .u32 a0_1, (.slice A0_2 l0_2.length c0_2), .int .u32 a0_3] 40 (0, 0))) ∧ Aside0 (wc.heap[gb441]? = some (.cells #[.int .u32 a1_0, .int .u32 a1_1, (.slice A1_2 l1_2.length c1_2), .int .u32 a1_3] 40 (0, 0))) ∧ Aside0 (Below w.heap.size w wc))
 case first =>
  have H := HC3.out
  clear HC3
  by_cases c6 : a0_0 = a1_0
  rotate_left
  · rw [if_neg c6] at H
    have c6b0 : (a0_0 == a1_0) = false := beq_eq_false_iff_ne.mpr c6
    have c6b1 : (a0_0 != a1_0) = true := bne_iff_ne.mpr c6
    (first | rw [c6b0] | (simp only [i64_w, i32_w]; rw [c6b0]) | skip)
    have H' := aM H
    clear H
    have hnb18 := NB440_441.out
    have hnc18 := NB441_440.out
    have hcz19_0 : w5.cell? ⟨gb440, 0, none⟩ = some (.int .u32 a0_0) := (blk_cell BK440.out 0).trans rfl
    have hcz19_1 : w5.cell? ⟨gb440, 1, none⟩ = some (.int .u32 a0_1) := (blk_cell BK440.out 1).trans rfl
    have hcz19_2 : w5.cell? ⟨gb440, 2, none⟩ = some (.slice A0_2 l0_2.length c0_2) := (blk_cell BK440.out 2).trans rfl
    have hcz19_3 : w5.cell? ⟨gb440, 3, none⟩ = some (.int .u32 a0_3) := (blk_cell BK440.out 3).trans rfl
    have hfz19_0 := blk_frozen BK440.out 0
    have hfz19_1 := blk_frozen BK440.out 1
    have hfz19_2 := blk_frozen BK440.out 2
    have hfz19_3 := blk_frozen BK440.out 3
    have hcz20_0 : w5.cell? ⟨gb441, 0, none⟩ = some (.int .u32 a1_0) := (blk_cell BK441.out 0).trans rfl
    have hcz20_1 : w5.cell? ⟨gb441, 1, none⟩ = some (.int .u32 a1_1) := (blk_cell BK441.out 1).trans rfl
    have hcz20_2 : w5.cell? ⟨gb441, 2, none⟩ = some (.slice A1_2 l1_2.length c1_2) := (blk_cell BK441.out 2).trans rfl
    have hcz20_3 : w5.cell? ⟨gb441, 3, none⟩ = some (.int .u32 a1_3) := (blk_cell BK441.out 3).trans rfl
    have hfz20_0 := blk_frozen BK441.out 0
    have hfz20_1 := blk_frozen BK441.out 1
    have hfz20_2 := blk_frozen BK441.out 2
    have hfz20_3 := blk_frozen BK441.out 3
    go_wp2
    repeat (go_quiet (fail); try go_wp2)
    go_meet
    case rel => exact ⟨_, (true), (by first | rfl | (simp; done) | (simp [*]; done)), H', ⟨by first | omega | exact Nat.le_refl _⟩, ⟨by refine bkS ?_; exact BK440.out⟩, ⟨by refine bkS ?_; exact BK441.out⟩, ⟨bl2 GE440.out GE441.out⟩⟩
  rw [if_pos c6] at H
  have c6b0 : (a0_0 == a1_0) = true := beq_iff_eq.mpr c6
  have c6b1 : (a0_0 != a1_0) = false := bne_eq_false_iff_eq.mpr c6
  clear c6
  (first | rw [c6b0] | (simp only [i64_w, i32_w]; rw [c6b0]) | skip)
  by_cases c7 : a0_1 = a1_1
  rotate_left
  · rw [if_neg c7] at H
    have c7b0 : (a0_1 == a1_1) = false := beq_eq_false_iff_ne.mpr c7
    have c7b1 : (a0_1 != a1_1) = true := bne_iff_ne.mpr c7
    have H' := aM H
    clear H
    have hnb15 := NB440_441.out
    have hnc15 := NB441_440.out
    have hcz16_0 : w5.cell? ⟨gb440, 0, none⟩ = some (.int .u32 a0_0) := (blk_cell BK440.out 0).trans rfl
    have hcz16_1 : w5.cell? ⟨gb440, 1, none⟩ = some (.int .u32 a0_1) := (blk_cell BK440.out 1).trans rfl
    have hcz16_2 : w5.cell? ⟨gb440, 2, none⟩ = some (.slice A0_2 l0_2.length c0_2) := (blk_cell BK440.out 2).trans rfl
    have hcz16_3 : w5.cell? ⟨gb440, 3, none⟩ = some (.int .u32 a0_3) := (blk_cell BK440.out 3).trans rfl
    have hfz16_0 := blk_frozen BK440.out 0
    have hfz16_1 := blk_frozen BK440.out 1
    have hfz16_2 := blk_frozen BK440.out 2
    have hfz16_3 := blk_frozen BK440.out 3
    have hcz17_0 : w5.cell? ⟨gb441, 0, none⟩ = some (.int .u32 a1_0) := (blk_cell BK441.out 0).trans rfl
    have hcz17_1 : w5.cell? ⟨gb441, 1, none⟩ = some (.int .u32 a1_1) := (blk_cell BK441.out 1).trans rfl
    have hcz17_2 : w5.cell? ⟨gb441, 2, none⟩ = some (.slice A1_2 l1_2.length c1_2) := (blk_cell BK441.out 2).trans rfl
    have hcz17_3 : w5.cell? ⟨gb441, 3, none⟩ = some (.int .u32 a1_3) := (blk_cell BK441.out 3).trans rfl
    have hfz17_0 := blk_frozen BK441.out 0
    have hfz17_1 := blk_frozen BK441.out 1
    have hfz17_2 := blk_frozen BK441.out 2
    have hfz17_3 := blk_frozen BK441.out 3
    go_wp2
    repeat (go_quiet (fail); try go_wp2)
    go_meet
    case rel => exact ⟨_, (true), (by first | rfl | (simp; done) | (simp [*]; done)), H', ⟨by first | omega | exact Nat.le_refl _⟩, ⟨by refine bkS ?_; exact BK440.out⟩, ⟨by refine bkS ?_; exact BK441.out⟩, ⟨bl2 GE440.out GE441.out⟩⟩
  rw [if_pos c7] at H
  have c7b0 : (a0_1 == a1_1) = true := beq_iff_eq.mpr c7
  have c7b1 : (a0_1 != a1_1) = false := bne_eq_false_iff_eq.mpr c7
  clear c7
  by_cases c8 : a0_3 = a1_3
  rotate_left
  · rw [if_neg c8] at H
    have c8b0 : (a0_3 == a1_3) = false := beq_eq_false_iff_ne.mpr c8
    have c8b1 : (a0_3 != a1_3) = true := bne_iff_ne.mpr c8
    have H' := aM H
    clear H
    have hnb12 := NB440_441.out
    have hnc12 := NB441_440.out
    have hcz13_0 : w5.cell? ⟨gb440, 0, none⟩ = some (.int .u32 a0_0) := (blk_cell BK440.out 0).trans rfl
    have hcz13_1 : w5.cell? ⟨gb440, 1, none⟩ = some (.int .u32 a0_1) := (blk_cell BK440.out 1).trans rfl
    have hcz13_2 : w5.cell? ⟨gb440, 2, none⟩ = some (.slice A0_2 l0_2.length c0_2) := (blk_cell BK440.out 2).trans rfl
    have hcz13_3 : w5.cell? ⟨gb440, 3, none⟩ = some (.int .u32 a0_3) := (blk_cell BK440.out 3).trans rfl
    have hfz13_0 := blk_frozen BK440.out 0
    have hfz13_1 := blk_frozen BK440.out 1
    have hfz13_2 := blk_frozen BK440.out 2
    have hfz13_3 := blk_frozen BK440.out 3
    have hcz14_0 : w5.cell? ⟨gb441, 0, none⟩ = some (.int .u32 a1_0) := (blk_cell BK441.out 0).trans rfl
    have hcz14_1 : w5.cell? ⟨gb441, 1, none⟩ = some (.int .u32 a1_1) := (blk_cell BK441.out 1).trans rfl
    have hcz14_2 : w5.cell? ⟨gb441, 2, none⟩ = some (.slice A1_2 l1_2.length c1_2) := (blk_cell BK441.out 2).trans rfl
    have hcz14_3 : w5.cell? ⟨gb441, 3, none⟩ = some (.int .u32 a1_3) := (blk_cell BK441.out 3).trans rfl
    have hfz14_0 := blk_frozen BK441.out 0
    have hfz14_1 := blk_frozen BK441.out 1
    have hfz14_2 := blk_frozen BK441.out 2
    have hfz14_3 := blk_frozen BK441.out 3
    go_wp2
    repeat (go_quiet (fail); try go_wp2)
    go_meet
    case rel => exact ⟨_, (true), (by first | rfl | (simp; done) | (simp [*]; done)), H', ⟨by first | omega | exact Nat.le_refl _⟩, ⟨by refine bkS ?_; exact BK440.out⟩, ⟨by refine bkS ?_; exact BK441.out⟩, ⟨bl2 GE440.out GE441.out⟩⟩
  rw [if_pos c8] at H
  have c8b0 : (a0_3 == a1_3) = true := beq_iff_eq.mpr c8
  have c8b1 : (a0_3 != a1_3) = false := bne_eq_false_iff_eq.mpr c8
  clear c8
  have H' := aM H
  clear H
  have hnb9 := NB440_441.out
  have hnc9 := NB441_440.out
  have hcz10_0 : w5.cell? ⟨gb440, 0, none⟩ = some (.int .u32 a0_0) := (blk_cell BK440.out 0).trans rfl
  have hcz10_1 : w5.cell? ⟨gb440, 1, none⟩ = some (.int .u32 a0_1) := (blk_cell BK440.out 1).trans rfl
  have hcz10_2 : w5.cell? ⟨gb440, 2, none⟩ = some (.slice A0_2 l0_2.length c0_2) := (blk_cell BK440.out 2).trans rfl
  have hcz10_3 : w5.cell? ⟨gb440, 3, none⟩ = some (.int .u32 a0_3) := (blk_cell BK440.out 3).trans rfl
  have hfz10_0 := blk_frozen BK440.out 0
  have hfz10_1 := blk_frozen BK440.out 1
  have hfz10_2 := blk_frozen BK440.out 2
  have hfz10_3 := blk_frozen BK440.out 3
  have hcz11_0 : w5.cell? ⟨gb441, 0, none⟩ = some (.int .u32 a1_0) := (blk_cell BK441.out 0).trans rfl
  have hcz11_1 : w5.cell? ⟨gb441, 1, none⟩ = some (.int .u32 a1_1) := (blk_cell BK441.out 1).trans rfl
  have hcz11_2 : w5.cell? ⟨gb441, 2, none⟩ = some (.slice A1_2 l1_2.length c1_2) := (blk_cell BK441.out 2).trans rfl
  have hcz11_3 : w5.cell? ⟨gb441, 3, none⟩ = some (.int .u32 a1_3) := (blk_cell BK441.out 3).trans rfl
  have hfz11_0 := blk_frozen BK441.out 0
  have hfz11_1 := blk_frozen BK441.out 1
  have hfz11_2 := blk_frozen BK441.out 2
  have hfz11_3 := blk_frozen BK441.out 3
  go_wp2
  repeat (go_quiet (fail); try go_wp2)
  go_meet
  case rel => exact ⟨_, (((l0_2.length : Int) != (l1_2.length : Int))), (by first | rfl | (simp; done) | (simp [*]; done)), H', ⟨by first | omega | exact Nat.le_refl _⟩, ⟨by refine bkS ?_; exact BK440.out⟩, ⟨by refine bkS ?_; exact BK441.out⟩, ⟨bl2 GE440.out GE441.out⟩⟩
 case rest =>
  clear HC3
  try clear c1
  try clear p2
  try clear c4
  try clear c6
  try clear c6b0
  try clear c6b1
  try clear c7
  try clear c7b0
  try clear c7b1
  try clear c8
  try clear c8b0
  try clear c8b1
  try clear c9
  try clear c12
  try clear c15
  try clear c18
  try clear hcz10_0
  try clear hcz10_1
  try clear hcz10_2
  try clear hcz10_3
  try clear hcz11_0
  try clear hcz11_1
  try clear hcz11_2
  try clear hcz11_3
  try clear hcz13_0
  try clear hcz13_1
  try clear hcz13_2
  try clear hcz13_3
  try clear hcz14_0
  try clear hcz14_1
  try clear hcz14_2
  try clear hcz14_3
  try clear hcz16_0
  try clear hcz16_1
  try clear hcz16_2
  try clear hcz16_3
  try clear hcz17_0
  try clear hcz17_1
  try clear hcz17_2
  try clear hcz17_3
  try clear hcz19_0
  try clear hcz19_1
  try clear hcz19_2
  try clear hcz19_3
  try clear hcz20_0
  try clear hcz20_1
  try clear hcz20_2
  try clear hcz20_3
  try clear hfz10_0
  try clear hfz10_1
  try clear hfz10_2
  try clear hfz10_3
  try clear hfz11_0
  try clear hfz11_1
  try clear hfz11_2
  try clear hfz11_3
  try clear hfz13_0
  try clear hfz13_1
  try clear hfz13_2
  try clear hfz13_3
  try clear hfz14_0
  try clear hfz14_1
  try clear hfz14_2
  try clear hfz14_3
  try clear hfz16_0
  try clear hfz16_1
  try clear hfz16_2
  try clear hfz16_3
  try clear hfz17_0
  try clear hfz17_1
  try clear hfz17_2
  try clear hfz17_3
  try clear hfz19_0
  try clear hfz19_1
  try clear hfz19_2
  try clear hfz19_3
  try clear hfz20_0
  try clear hfz20_1
  try clear hfz20_2
  try clear hfz20_3
  obtain ⟨kq, x33_2, rfl, HA, HJ2, BK440, BK441, HB⟩ := hcut
  cases kq with
  | zero => exact absurd HA.out (by simp [hurdleref10_SameRule.j0])
  | succ kj2 =>
   have H := HA.out
   clear HA
   simp only [hurdleref10_SameRule.j0] at H
   by_cases c21 : x33_2 = true
   · subst c21
     have H1 : (some false) = some r := by rw [if_pos rfl] at H; exact H
     clear H
     have H := H1
     clear H1
     obtain rfl := Option.some.inj H
     go_wp2
     repeat (go_quiet (fail); try go_wp2)
     go_ret
     exact ⟨erA, bl2 GE440.out GE441.out⟩
   replace c21 := Bool.eq_false_iff.mpr c21
   subst c21
   have H1 : (hurdleref10_SameRule.l0 kj2 0 a0_0 a0_1 l0_2 a0_3 a1_0 a1_1 l1_2 a1_3) = some r := by rw [if_neg (show ¬ (false = true) by decide)] at H; exact H
   clear H
   have H := H1
   clear H1
   have H' := aM H
   clear H
   go_wp2
   repeat (go_quiet (fail); try go_wp2)
   go_loopg [5] kj2 (fun kq v5 w' => ∃ (x5_2 : Int), v5 = .int .i64 x5_2 ∧ Aside0 (hurdleref10_SameRule.l0 kq x5_2 a0_0 a0_1 l0_2 a0_3 a1_0 a1_1 l1_2 a1_3 = some r) ∧ Aside0 (kq ≤ kj2) ∧ Aside0 (w'.heap[gb440]? = some (.cells #[.int .u32 a0_0, .int .u32 a0_1, (.slice A0_2 l0_2.length c0_2), .int .u32 a0_3] 40 (0, 0))) ∧ Aside0 (w'.heap[gb441]? = some (.cells #[.int .u32 a1_0, .int .u32 a1_1, (.slice A1_2 l1_2.length c1_2), .int .u32 a1_3] 40 (0, 0))) ∧ Aside0 (Below w.heap.size w w'))
   case atStart => exact ⟨(0), (by first | rfl | (simp; done) | (simp [*]; done)), H', ⟨Nat.le_refl _⟩, ⟨by refine bkS ?_; exact BK440.out⟩, ⟨by refine bkS ?_; exact BK441.out⟩, ⟨bl2 GE440.out GE441.out⟩⟩
   case round =>
    clear H'
    try clear c1
    try clear c2
    try clear p2
    try clear c4
    try clear c6
    try clear c6b0
    try clear c6b1
    try clear c7
    try clear c7b0
    try clear c7b1
    try clear c8
    try clear c8b0
    try clear c8b1
    try clear c9
    try clear c12
    try clear c15
    try clear c18
    try clear c21
    try clear hcz10_0
    try clear hcz10_1
    try clear hcz10_2
    try clear hcz10_3
    try clear hcz11_0
    try clear hcz11_1
    try clear hcz11_2
    try clear hcz11_3
    try clear hcz13_0
    try clear hcz13_1
    try clear hcz13_2
    try clear hcz13_3
    try clear hcz14_0
    try clear hcz14_1
    try clear hcz14_2
    try clear hcz14_3
    try clear hcz16_0
    try clear hcz16_1
    try clear hcz16_2
    try clear hcz16_3
    try clear hcz17_0
    try clear hcz17_1
    try clear hcz17_2
    try clear hcz17_3
    try clear hcz19_0
    try clear hcz19_1
    try clear hcz19_2
    try clear hcz19_3
    try clear hcz20_0
    try clear hcz20_1
    try clear hcz20_2
    try clear hcz20_3
    try clear hfz10_0
    try clear hfz10_1
    try clear hfz10_2
    try clear hfz10_3
    try clear hfz11_0
    try clear hfz11_1
    try clear hfz11_2
    try clear hfz11_3
    try clear hfz13_0
    try clear hfz13_1
    try clear hfz13_2
    try clear hfz13_3
    try clear hfz14_0
    try clear hfz14_1
    try clear hfz14_2
    try clear hfz14_3
    try clear hfz16_0
    try clear hfz16_1
    try clear hfz16_2
    try clear hfz16_3
    try clear hfz17_0
    try clear hfz17_1
    try clear hfz17_2
    try clear hfz17_3
    try clear hfz19_0
    try clear hfz19_1
    try clear hfz19_2
    try clear hfz19_3
    try clear hfz20_0
    try clear hfz20_1
    try clear hfz20_2
    try clear hfz20_3
    try clear p2
    obtain ⟨x5_2, rfl, HA, HK2, BK440, BK441, HB⟩ := hrel
    cases gk with
    | zero => exact absurd HA.out (by simp [hurdleref10_SameRule.l0])
    | succ k2 =>
     have H := HA.out
     clear HA
     simp only [hurdleref10_SameRule.l0] at H
     by_cases c22 : x5_2 < (l0_2.length : Int)
     rotate_left
     · rw [if_neg c22] at H
       have c22b0 : decide (x5_2 < (l0_2.length : Int)) = false := decide_eq_false c22
       clear c22
       obtain rfl := Option.some.inj H
       have hnb32 := NB440_441.out
       have hnc32 := NB441_440.out
       have hcz33_0 : wr.cell? ⟨gb440, 0, none⟩ = some (.int .u32 a0_0) := (blk_cell BK440.out 0).trans rfl
       have hcz33_1 : wr.cell? ⟨gb440, 1, none⟩ = some (.int .u32 a0_1) := (blk_cell BK440.out 1).trans rfl
       have hcz33_2 : wr.cell? ⟨gb440, 2, none⟩ = some (.slice A0_2 l0_2.length c0_2) := (blk_cell BK440.out 2).trans rfl
       have hcz33_3 : wr.cell? ⟨gb440, 3, none⟩ = some (.int .u32 a0_3) := (blk_cell BK440.out 3).trans rfl
       have hfz33_0 := blk_frozen BK440.out 0
       have hfz33_1 := blk_frozen BK440.out 1
       have hfz33_2 := blk_frozen BK440.out 2
       have hfz33_3 := blk_frozen BK440.out 3
       go_wp2
       repeat (go_quiet (fail); try go_wp2)
       go_ret
       exact ⟨erA, bl2 GE440.out GE441.out⟩
     rw [if_pos c22] at H
     have c22b0 : decide (x5_2 < (l0_2.length : Int)) = true := decide_eq_true c22
     clear c22
     by_cases c23 : 0 ≤ x5_2
     rotate_left
     · rw [if_neg c23] at H
       exact absurd H (by simp)
     rw [if_pos c23] at H
     have c23b0 : decide (0 ≤ x5_2) = true := decide_eq_true c23
     clear c23
     by_cases c24 : x5_2 < (l1_2.length : Int)
     rotate_left
     · rw [if_neg c24] at H
       exact absurd H (by simp)
     rw [if_pos c24] at H
     have c24b0 : decide (x5_2 < (l1_2.length : Int)) = true := decide_eq_true c24
     clear c24
     by_cases c25 : (!(((rd_T61 l0_2 x5_2).f0) == ((rd_T61 l1_2 x5_2).f0)) || (!(((rd_T61 l0_2 x5_2).f1) == ((rd_T61 l1_2 x5_2).f1)) || (!(((rd_T61 l0_2 x5_2).f2) == ((rd_T61 l1_2 x5_2).f2)) || (!(((rd_T61 l0_2 x5_2).f3) == ((rd_T61 l1_2 x5_2).f3)))))) = true
     · rw [if_pos c25] at H
       have c25b0 : (!(((rd_T61 l0_2 x5_2).f0) == ((rd_T61 l1_2 x5_2).f0)) || (!(((rd_T61 l0_2 x5_2).f1) == ((rd_T61 l1_2 x5_2).f1)) || (!(((rd_T61 l0_2 x5_2).f2) == ((rd_T61 l1_2 x5_2).f2)) || (!(((rd_T61 l0_2 x5_2).f3) == ((rd_T61 l1_2 x5_2).f3)))))) = true := c25
       clear c25
       obtain rfl := Option.some.inj H
       have hnb26 := NB440_441.out
       have hnc26 := NB441_440.out
       have hcz27_0 : wr.cell? ⟨gb440, 0, none⟩ = some (.int .u32 a0_0) := (blk_cell BK440.out 0).trans rfl
       have hcz27_1 : wr.cell? ⟨gb440, 1, none⟩ = some (.int .u32 a0_1) := (blk_cell BK440.out 1).trans rfl
       have hcz27_2 : wr.cell? ⟨gb440, 2, none⟩ = some (.slice A0_2 l0_2.length c0_2) := (blk_cell BK440.out 2).trans rfl
       have hcz27_3 : wr.cell? ⟨gb440, 3, none⟩ = some (.int .u32 a0_3) := (blk_cell BK440.out 3).trans rfl
       have hfz27_0 := blk_frozen BK440.out 0
       have hfz27_1 := blk_frozen BK440.out 1
       have hfz27_2 := blk_frozen BK440.out 2
       have hfz27_3 := blk_frozen BK440.out 3
       have p442 : 0 ≤ (x5_2 : Int) := of_decide_eq_true as_
       have q442 : x5_2 < (l0_2.length : Int) := of_decide_eq_true as_
       obtain ⟨ad442, e442, hx442_0, hx442_1, hx442_2, hx442_3⟩ := at_T61 HR0_2.out x5_2 p442 q442
       cases e442
       replace hx442_0 := (HB.out.cell (World.block_lt_of_cell? w _ hx442_0)).trans hx442_0
       replace hx442_1 := (HB.out.cell (World.block_lt_of_cell? w _ hx442_1)).trans hx442_1
       replace hx442_2 := (HB.out.cell (World.block_lt_of_cell? w _ hx442_2)).trans hx442_2
       replace hx442_3 := (HB.out.cell (World.block_lt_of_cell? w _ hx442_3)).trans hx442_3
       replace p442 := eq_true p442
       replace q442 := eq_true q442
       have hcz28_0 : wr.cell? ⟨gb441, 0, none⟩ = some (.int .u32 a1_0) := (blk_cell BK441.out 0).trans rfl
       have hcz28_1 : wr.cell? ⟨gb441, 1, none⟩ = some (.int .u32 a1_1) := (blk_cell BK441.out 1).trans rfl
       have hcz28_2 : wr.cell? ⟨gb441, 2, none⟩ = some (.slice A1_2 l1_2.length c1_2) := (blk_cell BK441.out 2).trans rfl
       have hcz28_3 : wr.cell? ⟨gb441, 3, none⟩ = some (.int .u32 a1_3) := (blk_cell BK441.out 3).trans rfl
       have hfz28_0 := blk_frozen BK441.out 0
       have hfz28_1 := blk_frozen BK441.out 1
       have hfz28_2 := blk_frozen BK441.out 2
       have hfz28_3 := blk_frozen BK441.out 3
       have p443 : 0 ≤ (x5_2 : Int) := of_decide_eq_true as_
       have q443 : x5_2 < (l1_2.length : Int) := of_decide_eq_true as_
       obtain ⟨ad443, e443, hx443_0, hx443_1, hx443_2, hx443_3⟩ := at_T61 HR1_2.out x5_2 p443 q443
       cases e443
       replace hx443_0 := (HB.out.cell (World.block_lt_of_cell? w _ hx443_0)).trans hx443_0
       replace hx443_1 := (HB.out.cell (World.block_lt_of_cell? w _ hx443_1)).trans hx443_1
       replace hx443_2 := (HB.out.cell (World.block_lt_of_cell? w _ hx443_2)).trans hx443_2
       replace hx443_3 := (HB.out.cell (World.block_lt_of_cell? w _ hx443_3)).trans hx443_3
       replace p443 := eq_true p443
       replace q443 := eq_true q443
       go_wp2
       repeat (go_quiet (fail); try go_wp2)
       go_ret
       exact ⟨erA, bl2 GE440.out GE441.out⟩
     rw [if_neg c25] at H
     have c25b0 : (!(((rd_T61 l0_2 x5_2).f0) == ((rd_T61 l1_2 x5_2).f0)) || (!(((rd_T61 l0_2 x5_2).f1) == ((rd_T61 l1_2 x5_2).f1)) || (!(((rd_T61 l0_2 x5_2).f2) == ((rd_T61 l1_2 x5_2).f2)) || (!(((rd_T61 l0_2 x5_2).f3) == ((rd_T61 l1_2 x5_2).f3)))))) = false := by simpa using c25
     clear c25
     have H' := aM H
     clear H
     have hnb29 := NB440_441.out
     have hnc29 := NB441_440.out
     have hcz30_0 : wr.cell? ⟨gb440, 0, none⟩ = some (.int .u32 a0_0) := (blk_cell BK440.out 0).trans rfl
     have hcz30_1 : wr.cell? ⟨gb440, 1, none⟩ = some (.int .u32 a0_1) := (blk_cell BK440.out 1).trans rfl
     have hcz30_2 : wr.cell? ⟨gb440, 2, none⟩ = some (.slice A0_2 l0_2.length c0_2) := (blk_cell BK440.out 2).trans rfl
     have hcz30_3 : wr.cell? ⟨gb440, 3, none⟩ = some (.int .u32 a0_3) := (blk_cell BK440.out 3).trans rfl
     have hfz30_0 := blk_frozen BK440.out 0
     have hfz30_1 := blk_frozen BK440.out 1
     have hfz30_2 := blk_frozen BK440.out 2
     have hfz30_3 := blk_frozen BK440.out 3
     have p442 : 0 ≤ (x5_2 : Int) := of_decide_eq_true as_
     have q442 : x5_2 < (l0_2.length : Int) := of_decide_eq_true as_
     obtain ⟨ad442, e442, hx442_0, hx442_1, hx442_2, hx442_3⟩ := at_T61 HR0_2.out x5_2 p442 q442
     cases e442
     replace hx442_0 := (HB.out.cell (World.block_lt_of_cell? w _ hx442_0)).trans hx442_0
     replace hx442_1 := (HB.out.cell (World.block_lt_of_cell? w _ hx442_1)).trans hx442_1
     replace hx442_2 := (HB.out.cell (World.block_lt_of_cell? w _ hx442_2)).trans hx442_2
     replace hx442_3 := (HB.out.cell (World.block_lt_of_cell? w _ hx442_3)).trans hx442_3
     replace p442 := eq_true p442
     replace q442 := eq_true q442
     have hcz31_0 : wr.cell? ⟨gb441, 0, none⟩ = some (.int .u32 a1_0) := (blk_cell BK441.out 0).trans rfl
     have hcz31_1 : wr.cell? ⟨gb441, 1, none⟩ = some (.int .u32 a1_1) := (blk_cell BK441.out 1).trans rfl
     have hcz31_2 : wr.cell? ⟨gb441, 2, none⟩ = some (.slice A1_2 l1_2.length c1_2) := (blk_cell BK441.out 2).trans rfl
     have hcz31_3 : wr.cell? ⟨gb441, 3, none⟩ = some (.int .u32 a1_3) := (blk_cell BK441.out 3).trans rfl
     have hfz31_0 := blk_frozen BK441.out 0
     have hfz31_1 := blk_frozen BK441.out 1
     have hfz31_2 := blk_frozen BK441.out 2
     have hfz31_3 := blk_frozen BK441.out 3
     have p443 : 0 ≤ (x5_2 : Int) := of_decide_eq_true as_
     have q443 : x5_2 < (l1_2.length : Int) := of_decide_eq_true as_
     obtain ⟨ad443, e443, hx443_0, hx443_1, hx443_2, hx443_3⟩ := at_T61 HR1_2.out x5_2 p443 q443
     cases e443
     replace hx443_0 := (HB.out.cell (World.block_lt_of_cell? w _ hx443_0)).trans hx443_0
     replace hx443_1 := (HB.out.cell (World.block_lt_of_cell? w _ hx443_1)).trans hx443_1
     replace hx443_2 := (HB.out.cell (World.block_lt_of_cell? w _ hx443_2)).trans hx443_2
     replace hx443_3 := (HB.out.cell (World.block_lt_of_cell? w _ hx443_3)).trans hx443_3
     replace p443 := eq_true p443
     replace q443 := eq_true q443
     go_wp2
     repeat (go_quiet (fail); try go_wp2)
     go_roundg k2
     case measure => have := HJ2.out; have := HK2.out; omega
     case rel => exact ⟨(wrap64 (x5_2 + 1)), (by first | rfl | (simp; done) | (simp [*]; done)), H', ⟨by have := HJ2.out; have := HK2.out; omega⟩, ⟨by refine bkS ?_; exact BK440.out⟩, ⟨by refine bkS ?_; exact BK441.out⟩, ⟨bl2 GE440.out GE441.out⟩⟩
end Go.Proofs.Ytekpbgmmogpbdaa.P
namespace Go.Proofs.Ytekpbgmmogpbdaa.P
open Go.RowKit Go.Proofs.Ytekpbgmmogpbdaa.H Go.Proofs.YtekpbgmmogpbdaaW.PrintWords Go.Proofs.YtekpbgmmogpbdaaW.PrintLast Go.Proofs.YtekpbgmmogpbdaaW.PrintMore
attribute [local go_sem] max2_int min2_int max_two min_two max_three min_three max_four min_four
mutual
def hurdleref10_Same.j0 : Nat → Bool → List (S40) → Int → List (S40) → Int → Option (Bool)
 | 0, _, _, _, _, _ => none
 | k + 1, x19, x445000, x445001, x446000, x446001 => if x19 = true then (some false) else (hurdleref10_Same.l0 k 0 x445000 x445001 x446000 x446001)
def hurdleref10_Same.l0 : Nat → Int → List (S40) → Int → List (S40) → Int → Option (Bool)
 | 0, _, _, _, _, _ => none
 | k + 1, x5, x445000, x445001, x446000, x446001 => if x5 < (x445000.length : Int) then (if 0 ≤ x5 then (if x5 < (x446000.length : Int) then ((hurdleref10_SameRule.f k ((rd_T40 x445000 x5).f0) ((rd_T40 x445000 x5).f1) ((rd_T40 x445000 x5).f2) ((rd_T40 x445000 x5).f3) ((rd_T40 x446000 x5).f0) ((rd_T40 x446000 x5).f1) ((rd_T40 x446000 x5).f2) ((rd_T40 x446000 x5).f3)).bind fun t448 => (if t448 = true then (hurdleref10_Same.l0 k (wrap64 (x5 + 1)) x445000 x445001 x446000 x446001) else (some false))) else (none)) else (none)) else (some true)
end
def hurdleref10_Same.f (k : Nat) (l0_0 : List (S40)) (a0_1 : Int) (l1_0 : List (S40)) (a1_1 : Int) : Option (Bool) := if a0_1 = a1_1 then (hurdleref10_Same.j0 k ((l0_0.length : Int) != (l1_0.length : Int)) l0_0 a0_1 l1_0 a1_1) else (hurdleref10_Same.j0 k true l0_0 a0_1 l1_0 a1_1)
def hurdleref10_Same.T6 : Bool × List (List Nat × List Nat) := (true, [([], []), ([0], [0]), ([], []), ([1, 2], [1, 2]), ([3], [3]), ([], []), ([5], [5]), ([], []), ([6, 7], [6, 7]), ([8], [8]), ([4, 9], [4, 9]), ([10], [10])])
def hurdleref10_Same.B6 : List Nat := [0, 1, 0, 7, 15, 0, 32, 0, 224, 480, 1023, 2047]
theorem hurdleref10_Same.tab6 : rtab .any (opsOf Try.f22 6) = hurdleref10_Same.T6 := by kernel_rfl
theorem hurdleref10_Same.bits6 : waitsOk hurdleref10_Same.T6.2 hurdleref10_Same.B6 = true := by kernel_rfl
set_option maxHeartbeats 8000000 in
set_option maxRecDepth 100000 in
theorem hurdleref10_Same.calls (k : Nat) (A0_0 : Option Addr) (c0_0 : Nat) (l0_0 : List (S40)) (a0_1 : Int) (A1_0 : Option Addr) (c1_0 : Nat) (l1_0 : List (S40)) (a1_1 : Int) (r : Bool) (w : World) (hr0_0 : Kd.C k40 w A0_0 l0_0.length l0_0) (hc0_0 : l0_0.length ≤ c0_0) (hr1_0 : Kd.C k40 w A1_0 l1_0.length l1_0) (hc1_0 : l1_0.length ≤ c1_0) (h : hurdleref10_Same.f k l0_0 a0_1 l1_0 a1_1 = some r) :
 Calls Try.prog 22 #[.agg #[.slice A0_0 l0_0.length c0_0, .int .u32 a0_1], .agg #[.slice A1_0 l1_0.length c1_0, .int .u32 a1_1]] w fun e w' => e = .returned (.bool r) ∧ Below w.heap.size w w' := by
 have hu25 := Try.underlying25
 have hu40 := Try.underlying40
 have HR0_0 := aM hr0_0
 have HC0_0 := aM hc0_0
 clear hr0_0 hc0_0
 have HR1_0 := aM hr1_0
 have HC1_0 := aM hc1_0
 clear hr1_0 hc1_0
 have HB := aM (Below.refl w.heap.size w)
 have H : (if a0_1 = a1_1 then (hurdleref10_Same.j0 k ((l0_0.length : Int) != (l1_0.length : Int)) l0_0 a0_1 l1_0 a1_1) else (hurdleref10_Same.j0 k true l0_0 a0_1 l1_0 a1_1)) = some r := h
 clear h
 have HC3 := aM H
 clear H
 go_enter Try.func22, Try.ntmps22
 go_upto_region 1 with (first | ((with_reducible refine gate_dst (N := 2) rfl ?_); (try (refine gate_guard (by rfl) ?_; dsimp only)); refine box_event ?hg (N := 2) ?hd (cs := #[.slice A0_0 l0_0.length c0_0, .int .u32 a0_1]) (t := 25) ?hr ?_; (case hd => rfl); (case hg => rfl); (case hr => first | (go_simp; done) | (go_simp; rfl)); intro gb444 hg w4 hbox hb; have n0_ := aM (below_step bl0 hb); have n1_ := aM (hbox); have n2_ := aM ((by rw [hg]; exact (below_size bl0) : w.heap.size ≤ gb444)); have n3_ := aM ((by rw [hg]; exact (below_size bl0) : w.heap.size ≤ gb444)); clear HB; have HB := n0_; have BK444 := n1_; have GW444 := n2_; have GE444 := n3_; clear n0_ n1_ n2_ n3_; clear hb hbox hg) | ((with_reducible refine gate_dst (N := 3) rfl ?_); (try (refine gate_guard (by rfl) ?_; dsimp only)); refine box_event ?hg (N := 3) ?hd (cs := #[.slice A1_0 l1_0.length c1_0, .int .u32 a1_1]) (t := 25) ?hr ?_; (case hd => rfl); (case hg => rfl); (case hr => first | (go_simp; done) | (go_simp; rfl)); intro gb445 hg w5 hbox hb; have n0_ := aM (blk_below (g := gb444) (o := .cells #[.slice A0_0 l0_0.length c0_0, .int .u32 a0_1] 25 (0, 0)) (bkS BK444.out) hb); have n1_ := aM (below_step (bl1 GE444.out) hb); have n2_ := aM (hbox); have n3_ := aM ((by rw [hg]; exact (below_size (bl1 GE444.out)) : w.heap.size ≤ gb445)); have n4_ := aM ((by rw [hg]; exact (below_size (bl1 GE444.out)) : w.heap.size ≤ gb445)); have n5_ := aM ((by rw [hg]; exact Nat.ne_of_lt (blk_lt (g := gb444) (o := .cells #[.slice A0_0 l0_0.length c0_0, .int .u32 a0_1] 25 (0, 0)) (bkS BK444.out)) : gb444 ≠ gb445)); have n6_ := aM ((by rw [hg]; exact Nat.ne_of_gt (blk_lt (g := gb444) (o := .cells #[.slice A0_0 l0_0.length c0_0, .int .u32 a0_1] 25 (0, 0)) (bkS BK444.out)) : gb445 ≠ gb444)); clear BK444; clear HB; have BK444 := n0_; have HB := n1_; have BK445 := n2_; have GW445 := n3_; have GE445 := n4_; have NB444_445 := n5_; have NB445_444 := n6_; clear n0_ n1_ n2_ n3_ n4_ n5_ n6_; clear hb hbox hg))
 (try simp only [Act.put, List.setIfInBounds_toArray, List.set_cons_zero, List.set_cons_succ])
 go_cut [19] (fun v19 wc => ∃ (kq : Nat) (x19_2 : Bool), v19 = .bool x19_2 ∧ Aside0 (hurdleref10_Same.j0 kq x19_2 l0_0 a0_1 l1_0 a1_1 = some r) ∧ Aside0 (kq ≤ k) ∧ Aside0 (wc.heap[gb444]? = some (.cells #[(.slice A0_0 l0_0.length c0_0), .int .u32 a0_1] 25 (0, 0))) ∧ Aside0 (wc.heap[gb445]? = some (.cells #[(.slice A1_0 l1_0.length c1_0), .int .u32 a1_1] 25 (0, 0))) ∧ Aside0 (Below w.heap.size w wc))
 case first =>
  have H := HC3.out
  clear HC3
  by_cases c6 : a0_1 = a1_1
  rotate_left
  · rw [if_neg c6] at H
    have c6b0 : (a0_1 == a1_1) = false := beq_eq_false_iff_ne.mpr c6
    have c6b1 : (a0_1 != a1_1) = true := bne_iff_ne.mpr c6
    (first | rw [c6b0] | (simp only [i64_w, i32_w]; rw [c6b0]) | skip)
    have H' := aM H
    clear H
    have hnb10 := NB444_445.out
    have hnc10 := NB445_444.out
    have hcz11_0 : w5.cell? ⟨gb444, 0, none⟩ = some (.slice A0_0 l0_0.length c0_0) := (blk_cell BK444.out 0).trans rfl
    have hcz11_1 : w5.cell? ⟨gb444, 1, none⟩ = some (.int .u32 a0_1) := (blk_cell BK444.out 1).trans rfl
    have hfz11_0 := blk_frozen BK444.out 0
    have hfz11_1 := blk_frozen BK444.out 1
    have hcz12_0 : w5.cell? ⟨gb445, 0, none⟩ = some (.slice A1_0 l1_0.length c1_0) := (blk_cell BK445.out 0).trans rfl
    have hcz12_1 : w5.cell? ⟨gb445, 1, none⟩ = some (.int .u32 a1_1) := (blk_cell BK445.out 1).trans rfl
    have hfz12_0 := blk_frozen BK445.out 0
    have hfz12_1 := blk_frozen BK445.out 1
    go_wp2
    go_meet
    case rel => exact ⟨_, (true), (by first | rfl | (simp; done) | (simp [*]; done)), H', ⟨by first | omega | exact Nat.le_refl _⟩, ⟨by refine bkS ?_; exact BK444.out⟩, ⟨by refine bkS ?_; exact BK445.out⟩, ⟨bl2 GE444.out GE445.out⟩⟩
  rw [if_pos c6] at H
  have c6b0 : (a0_1 == a1_1) = true := beq_iff_eq.mpr c6
  have c6b1 : (a0_1 != a1_1) = false := bne_eq_false_iff_eq.mpr c6
  clear c6
  (first | rw [c6b0] | (simp only [i64_w, i32_w]; rw [c6b0]) | skip)
  have H' := aM H
  clear H
  have hnb7 := NB444_445.out
  have hnc7 := NB445_444.out
  have hcz8_0 : w5.cell? ⟨gb444, 0, none⟩ = some (.slice A0_0 l0_0.length c0_0) := (blk_cell BK444.out 0).trans rfl
  have hcz8_1 : w5.cell? ⟨gb444, 1, none⟩ = some (.int .u32 a0_1) := (blk_cell BK444.out 1).trans rfl
  have hfz8_0 := blk_frozen BK444.out 0
  have hfz8_1 := blk_frozen BK444.out 1
  have hcz9_0 : w5.cell? ⟨gb445, 0, none⟩ = some (.slice A1_0 l1_0.length c1_0) := (blk_cell BK445.out 0).trans rfl
  have hcz9_1 : w5.cell? ⟨gb445, 1, none⟩ = some (.int .u32 a1_1) := (blk_cell BK445.out 1).trans rfl
  have hfz9_0 := blk_frozen BK445.out 0
  have hfz9_1 := blk_frozen BK445.out 1
  go_wp2
  go_meet
  case rel => exact ⟨_, (((l0_0.length : Int) != (l1_0.length : Int))), (by first | rfl | (simp; done) | (simp [*]; done)), H', ⟨by first | omega | exact Nat.le_refl _⟩, ⟨by refine bkS ?_; exact BK444.out⟩, ⟨by refine bkS ?_; exact BK445.out⟩, ⟨bl2 GE444.out GE445.out⟩⟩
 case rest =>
  clear HC3
  try clear c1
  try clear c2
  try clear p2
  try clear c6
  try clear c6b0
  try clear c6b1
  try clear c7
  try clear c10
  try clear hcz11_0
  try clear hcz11_1
  try clear hcz12_0
  try clear hcz12_1
  try clear hcz8_0
  try clear hcz8_1
  try clear hcz9_0
  try clear hcz9_1
  try clear hfz11_0
  try clear hfz11_1
  try clear hfz12_0
  try clear hfz12_1
  try clear hfz8_0
  try clear hfz8_1
  try clear hfz9_0
  try clear hfz9_1
  obtain ⟨kq, x19_2, rfl, HA, HJ2, BK444, BK445, HB⟩ := hcut
  cases kq with
  | zero => exact absurd HA.out (by simp [hurdleref10_Same.j0])
  | succ kj2 =>
   have H := HA.out
   clear HA
   simp only [hurdleref10_Same.j0] at H
   by_cases c13 : x19_2 = true
   · subst c13
     have H1 : (some false) = some r := by rw [if_pos rfl] at H; exact H
     clear H
     have H := H1
     clear H1
     obtain rfl := Option.some.inj H
     go_wp2
     go_ret
     exact ⟨erA, bl2 GE444.out GE445.out⟩
   replace c13 := Bool.eq_false_iff.mpr c13
   subst c13
   have H1 : (hurdleref10_Same.l0 kj2 0 l0_0 a0_1 l1_0 a1_1) = some r := by rw [if_neg (show ¬ (false = true) by decide)] at H; exact H
   clear H
   have H := H1
   clear H1
   have H' := aM H
   clear H
   go_wp2
   go_loopg [5] kj2 (fun kq v5 w' => ∃ (x5_2 : Int), v5 = .int .i64 x5_2 ∧ Aside0 (hurdleref10_Same.l0 kq x5_2 l0_0 a0_1 l1_0 a1_1 = some r) ∧ Aside0 (kq ≤ kj2) ∧ Aside0 (w'.heap[gb444]? = some (.cells #[(.slice A0_0 l0_0.length c0_0), .int .u32 a0_1] 25 (0, 0))) ∧ Aside0 (w'.heap[gb445]? = some (.cells #[(.slice A1_0 l1_0.length c1_0), .int .u32 a1_1] 25 (0, 0))) ∧ Aside0 (Below w.heap.size w w'))
   case atStart => exact ⟨(0), (by first | rfl | (simp; done) | (simp [*]; done)), H', ⟨Nat.le_refl _⟩, ⟨by refine bkS ?_; exact BK444.out⟩, ⟨by refine bkS ?_; exact BK445.out⟩, ⟨bl2 GE444.out GE445.out⟩⟩
   case round =>
    clear H'
    try clear c1
    try clear c2
    try clear p2
    try clear c6
    try clear c6b0
    try clear c6b1
    try clear c7
    try clear c10
    try clear c13
    try clear hcz11_0
    try clear hcz11_1
    try clear hcz12_0
    try clear hcz12_1
    try clear hcz8_0
    try clear hcz8_1
    try clear hcz9_0
    try clear hcz9_1
    try clear hfz11_0
    try clear hfz11_1
    try clear hfz12_0
    try clear hfz12_1
    try clear hfz8_0
    try clear hfz8_1
    try clear hfz9_0
    try clear hfz9_1
    try clear p2
    obtain ⟨x5_2, rfl, HA, HK2, BK444, BK445, HB⟩ := hrel
    cases gk with
    | zero => exact absurd HA.out (by simp [hurdleref10_Same.l0])
    | succ k2 =>
     have H := HA.out
     clear HA
     simp only [hurdleref10_Same.l0] at H
     by_cases c14 : x5_2 < (l0_0.length : Int)
     rotate_left
     · rw [if_neg c14] at H
       have c14b0 : decide (x5_2 < (l0_0.length : Int)) = false := decide_eq_false c14
       clear c14
       obtain rfl := Option.some.inj H
       have hnb27 := NB444_445.out
       have hnc27 := NB445_444.out
       have hcz28_0 : wr.cell? ⟨gb444, 0, none⟩ = some (.slice A0_0 l0_0.length c0_0) := (blk_cell BK444.out 0).trans rfl
       have hcz28_1 : wr.cell? ⟨gb444, 1, none⟩ = some (.int .u32 a0_1) := (blk_cell BK444.out 1).trans rfl
       have hfz28_0 := blk_frozen BK444.out 0
       have hfz28_1 := blk_frozen BK444.out 1
       go_wp2
       go_ret
       exact ⟨erA, bl2 GE444.out GE445.out⟩
     rw [if_pos c14] at H
     have c14b0 : decide (x5_2 < (l0_0.length : Int)) = true := decide_eq_true c14
     clear c14
     by_cases c15 : 0 ≤ x5_2
     rotate_left
     · rw [if_neg c15] at H
       exact absurd H (by simp)
     rw [if_pos c15] at H
     have c15b0 : decide (0 ≤ x5_2) = true := decide_eq_true c15
     clear c15
     by_cases c16 : x5_2 < (l1_0.length : Int)
     rotate_left
     · rw [if_neg c16] at H
       exact absurd H (by simp)
     rw [if_pos c16] at H
     have c16b0 : decide (x5_2 < (l1_0.length : Int)) = true := decide_eq_true c16
     clear c16
     replace H := Option.bind_eq_some_iff.mp H
     obtain ⟨t448, A170, H⟩ := H
     replace H : (if t448 = true then (hurdleref10_Same.l0 k2 (wrap64 (x5_2 + 1)) l0_0 a0_1 l1_0 a1_1) else (some false)) = some r := H
     have A17 := aM A170
     clear A170
     by_cases c18 : t448 = true
     rotate_left
     · replace c18 := Bool.eq_false_iff.mpr c18
       subst c18
       have H1 : (some false) = some r := by rw [if_neg (show ¬ (false = true) by decide)] at H; exact H
       clear H
       have H := H1
       clear H1
       obtain rfl := Option.some.inj H
       have hnb23 := NB444_445.out
       have hnc23 := NB445_444.out
       have hcz24_0 : wr.cell? ⟨gb444, 0, none⟩ = some (.slice A0_0 l0_0.length c0_0) := (blk_cell BK444.out 0).trans rfl
       have hcz24_1 : wr.cell? ⟨gb444, 1, none⟩ = some (.int .u32 a0_1) := (blk_cell BK444.out 1).trans rfl
       have hfz24_0 := blk_frozen BK444.out 0
       have hfz24_1 := blk_frozen BK444.out 1
       try go_wp2
       have n0_ := aM (blk_drew BK444.out)
       have n1_ := aM (blk_drew BK445.out)
       have n2_ := aM (below_drew1 HB.out)
       clear BK444
       clear BK445
       clear HB
       have BK444 := n0_
       have BK445 := n1_
       have HB := n2_
       clear n0_ n1_ n2_
       have p446 : 0 ≤ (x5_2 : Int) := of_decide_eq_true as_
       have q446 : x5_2 < (l0_0.length : Int) := of_decide_eq_true as_
       obtain ⟨ad446, A446_2, c446_2, e446, hx446_0, hx446_1, hx446_2, hx446_3, hl446_2, hi446_2⟩ := at_T40 HR0_0.out x5_2 p446 q446
       have hw446_3 := hx446_3
       have hw446_2 := hx446_2
       have hw446_1 := hx446_1
       have hw446_0 := hx446_0
       cases e446
       replace hx446_0 := (HB.out.cell (World.block_lt_of_cell? w _ hx446_0)).trans hx446_0
       replace hx446_1 := (HB.out.cell (World.block_lt_of_cell? w _ hx446_1)).trans hx446_1
       replace hx446_2 := (HB.out.cell (World.block_lt_of_cell? w _ hx446_2)).trans hx446_2
       replace hx446_3 := (HB.out.cell (World.block_lt_of_cell? w _ hx446_3)).trans hx446_3
       have HR446_2 := aM hi446_2
       have HC446_2 := aM hl446_2
       clear hi446_2 hl446_2
       replace p446 := eq_true p446
       replace q446 := eq_true q446
       have p447 : 0 ≤ (x5_2 : Int) := of_decide_eq_true as_
       have q447 : x5_2 < (l1_0.length : Int) := of_decide_eq_true as_
       obtain ⟨ad447, A447_2, c447_2, e447, hx447_0, hx447_1, hx447_2, hx447_3, hl447_2, hi447_2⟩ := at_T40 HR1_0.out x5_2 p447 q447
       have hw447_3 := hx447_3
       have hw447_2 := hx447_2
       have hw447_1 := hx447_1
       have hw447_0 := hx447_0
       cases e447
       replace hx447_0 := (HB.out.cell (World.block_lt_of_cell? w _ hx447_0)).trans hx447_0
       replace hx447_1 := (HB.out.cell (World.block_lt_of_cell? w _ hx447_1)).trans hx447_1
       replace hx447_2 := (HB.out.cell (World.block_lt_of_cell? w _ hx447_2)).trans hx447_2
       replace hx447_3 := (HB.out.cell (World.block_lt_of_cell? w _ hx447_3)).trans hx447_3
       have HR447_2 := aM hi447_2
       have HC447_2 := aM hl447_2
       clear hi447_2 hl447_2
       replace p447 := eq_true p447
       replace q447 := eq_true q447
       refine start_ (n := 12) (S := fun w' => w'.cell? ⟨gb444, 0, none⟩ = some (.slice (some ad446) l0_0.length c0_0) ∧ w'.cell? ⟨gb444, 1, none⟩ = some (.int .u32 a0_1) ∧ w'.cell? ⟨gb445, 0, none⟩ = some (.slice (some ad447) l1_0.length c1_0) ∧ w'.cell? ⟨gb445, 1, none⟩ = some (.int .u32 a1_1) ∧ w'.cell? (ad446.add ((x5_2).toNat * 4)) = some (.int .u32 ((rd_T40 l0_0 x5_2).f0)) ∧ w'.cell? ⟨(ad446.add ((x5_2).toNat * 4)).block, (ad446.add ((x5_2).toNat * 4)).off + 1, none⟩ = some (.int .u32 ((rd_T40 l0_0 x5_2).f1)) ∧ w'.cell? ⟨(ad446.add ((x5_2).toNat * 4)).block, (ad446.add ((x5_2).toNat * 4)).off + 2, none⟩ = some (.slice A446_2 ((rd_T40 l0_0 x5_2).f2).length c446_2) ∧ w'.cell? ⟨(ad446.add ((x5_2).toNat * 4)).block, (ad446.add ((x5_2).toNat * 4)).off + 3, none⟩ = some (.int .u32 ((rd_T40 l0_0 x5_2).f3)) ∧ w'.cell? (ad447.add ((x5_2).toNat * 4)) = some (.int .u32 ((rd_T40 l1_0 x5_2).f0)) ∧ w'.cell? ⟨(ad447.add ((x5_2).toNat * 4)).block, (ad447.add ((x5_2).toNat * 4)).off + 1, none⟩ = some (.int .u32 ((rd_T40 l1_0 x5_2).f1)) ∧ w'.cell? ⟨(ad447.add ((x5_2).toNat * 4)).block, (ad447.add ((x5_2).toNat * 4)).off + 2, none⟩ = some (.slice A447_2 ((rd_T40 l1_0 x5_2).f2).length c447_2) ∧ w'.cell? ⟨(ad447.add ((x5_2).toNat * 4)).block, (ad447.add ((x5_2).toNat * 4)).off + 3, none⟩ = some (.int .u32 ((rd_T40 l1_0 x5_2).f3))) (ds := []) #[false, false, false, false, false, false, false, false, false, false, false, false] kR rfl rfl ⟨(blk_cell BK444.out 0).trans rfl, (blk_cell BK444.out 1).trans rfl, (blk_cell BK445.out 0).trans rfl, (blk_cell BK445.out 1).trans rfl, ((HB.out.cell (World.block_lt_of_cell? w _ hw446_0)).trans hw446_0), ((HB.out.cell (World.block_lt_of_cell? w _ hw446_1)).trans hw446_1), ((HB.out.cell (World.block_lt_of_cell? w _ hw446_2)).trans hw446_2), ((HB.out.cell (World.block_lt_of_cell? w _ hw446_3)).trans hw446_3), ((HB.out.cell (World.block_lt_of_cell? w _ hw447_0)).trans hw447_0), ((HB.out.cell (World.block_lt_of_cell? w _ hw447_1)).trans hw447_1), ((HB.out.cell (World.block_lt_of_cell? w _ hw447_2)).trans hw447_2), ((HB.out.cell (World.block_lt_of_cell? w _ hw447_3)).trans hw447_3)⟩ (fun hHeld => ?_); refine with_tabW hurdleref10_Same.tab6 hurdleref10_Same.bits6 (fun HT_ HW_ => ?_)
       generalize wr.drew = w25 at BK444 BK445 HB HR446_2 HR447_2 hx446_0 hx446_1 hx446_2 hx446_3 hx447_0 hx447_1 hx447_2 hx447_3 hHeld ⊢
       refine pure_ (i := 0) (N := some 27) (v := ?_) (a' := ?_) #[true, false, false, false, false, false, false, false, false, false, false, false] rfl rfl (any_of HT_.out kR) (fun _ _ _ h => h) (Or.inl ⟨by rfl, ?_⟩) ?_ ?_
       rotate_left
       · intro w'
         go_simp
         with_reducible rfl
       rotate_left
       · refine apW ?_
         rfl
       refine pure_ (i := 2) (N := some 29) (v := ?_) (a' := ?_) #[true, false, true, false, false, false, false, false, false, false, false, false] rfl rfl (any_of HT_.out kR) (fun _ _ _ h => h) (Or.inl ⟨by rfl, ?_⟩) ?_ ?_
       rotate_left
       · intro w'
         go_simp
         with_reducible rfl
       rotate_left
       · refine apW ?_
         rfl
       refine pure_ (i := 5) (N := some 32) (v := ?_) (a' := ?_) #[true, false, true, false, false, true, false, false, false, false, false, false] rfl rfl (any_of HT_.out kR) (fun _ _ _ h => h) (Or.inl ⟨by rfl, ?_⟩) ?_ ?_
       rotate_left
       · intro w'
         go_simp
         with_reducible rfl
       rotate_left
       · refine apW ?_
         rfl
       refine pure_ (i := 7) (N := some 34) (v := ?_) (a' := ?_) #[true, false, true, false, false, true, false, true, false, false, false, false] rfl rfl (any_of HT_.out kR) (fun _ _ _ h => h) (Or.inl ⟨by rfl, ?_⟩) ?_ ?_
       rotate_left
       · intro w'
         go_simp
         with_reducible rfl
       rotate_left
       · refine apW ?_
         rfl
       refine take_ (i := 1) (N := some 28) (v := ?_) (a' := ?_) #[true, true, true, false, false, true, false, true, false, false, false, false] rfl rfl (take_ofW HT_.out HW_.out kR) (fun _ _ _ h => h) (Or.inl ⟨by rfl, ?_⟩) hHeld ?_ ?_
       rotate_left
       · rintro w' ⟨s0, s1, s2, s3, s4, s5, s6, s7, s8, s9, s10, s11⟩
         go_simp
         with_reducible rfl
       rotate_left
       · refine apW ?_
         rfl
       refine pure_ (i := 3) (N := some 30) (v := ?_) (a' := ?_) #[true, true, true, true, false, true, false, true, false, false, false, false] rfl rfl (any_of HT_.out kR) (fun _ _ _ h => h) (Or.inl ⟨by rfl, ?_⟩) ?_ ?_
       rotate_left
       · intro w'
         go_simp
         with_reducible rfl
       rotate_left
       · refine apW ?_
         rfl
       refine take_ (i := 4) (N := some 31) (v := ?_) (a' := ?_) #[true, true, true, true, true, true, false, true, false, false, false, false] rfl rfl (take_ofW HT_.out HW_.out kR) (fun _ _ _ h => h) (Or.inl ⟨by rfl, ?_⟩) hHeld ?_ ?_
       rotate_left
       · rintro w' ⟨s0, s1, s2, s3, s4, s5, s6, s7, s8, s9, s10, s11⟩
         go_simp
         with_reducible rfl
       rotate_left
       · refine apW ?_
         rfl
       refine take_ (i := 6) (N := some 33) (v := ?_) (a' := ?_) #[true, true, true, true, true, true, true, true, false, false, false, false] rfl rfl (take_ofW HT_.out HW_.out kR) (fun _ _ _ h => h) (Or.inl ⟨by rfl, ?_⟩) hHeld ?_ ?_
       rotate_left
       · rintro w' ⟨s0, s1, s2, s3, s4, s5, s6, s7, s8, s9, s10, s11⟩
         go_simp
         with_reducible rfl
       rotate_left
       · refine apW ?_
         rfl
       refine pure_ (i := 8) (N := some 35) (v := ?_) (a' := ?_) #[true, true, true, true, true, true, true, true, true, false, false, false] rfl rfl (any_of HT_.out kR) (fun _ _ _ h => h) (Or.inl ⟨by rfl, ?_⟩) ?_ ?_
       rotate_left
       · intro w'
         go_simp
         with_reducible rfl
       rotate_left
       · refine apW ?_
         rfl
       refine take_ (i := 9) (N := some 36) (v := ?_) (a' := ?_) #[true, true, true, true, true, true, true, true, true, true, false, false] rfl rfl (take_ofW HT_.out HW_.out kR) (fun _ _ _ h => h) (Or.inl ⟨by rfl, ?_⟩) hHeld ?_ ?_
       rotate_left
       · rintro w' ⟨s0, s1, s2, s3, s4, s5, s6, s7, s8, s9, s10, s11⟩
         go_simp
         with_reducible rfl
       rotate_left
       · refine apW ?_
         rfl
       refine one_ (i := 10) (N := some 37) #[true, true, true, true, true, true, true, true, true, true, true, false] rfl rfl (one_of HT_.out kR) (by decide) (fun K hK => ?_)
       refine goes_ Try.func44 kR rfl #[.agg #[.int .u32 ((rd_T40 l0_0 x5_2).f0), .int .u32 ((rd_T40 l0_0 x5_2).f1), .slice A446_2 ((rd_T40 l0_0 x5_2).f2).length c446_2, .int .u32 ((rd_T40 l0_0 x5_2).f3)], .agg #[.int .u32 ((rd_T40 l1_0 x5_2).f0), .int .u32 ((rd_T40 l1_0 x5_2).f1), .slice A447_2 ((rd_T40 l1_0 x5_2).f2).length c447_2, .int .u32 ((rd_T40 l1_0 x5_2).f3)]] (by rfl) rfl rfl mpA ?_
       with_reducible refine (hurdleref10_SameRule.calls k2 ((rd_T40 l0_0 x5_2).f0) ((rd_T40 l0_0 x5_2).f1) _ _ ((rd_T40 l0_0 x5_2).f2) ((rd_T40 l0_0 x5_2).f3) ((rd_T40 l1_0 x5_2).f0) ((rd_T40 l1_0 x5_2).f1) _ _ ((rd_T40 l1_0 x5_2).f2) ((rd_T40 l1_0 x5_2).f3) false _ ?side1 ?side2 ?side3 ?side4 A17.out).mono ?_
       (case side1 => repeat (first | exact (Kd.C_below HR446_2.out HB.out) | (with_reducible refine Kd.C_alloc ?_ _) | (with_reducible refine Kd.C_drewN ?_ _) | (with_reducible refine Kd.C_drew ?_)))
       (case side2 => exact HC446_2.out)
       (case side3 => repeat (first | exact (Kd.C_below HR447_2.out HB.out) | (with_reducible refine Kd.C_alloc ?_ _) | (with_reducible refine Kd.C_drewN ?_ _) | (with_reducible refine Kd.C_drew ?_)))
       (case side4 => exact HC447_2.out)
       rintro e w26 ⟨rfl, hb⟩
       refine ⟨_, rfl, ?_⟩
       have n0_ := aM (blk_below (g := gb444) (o := .cells #[.slice (some ad446) l0_0.length c0_0, .int .u32 a0_1] 25 (0, 0)) (bkS BK444.out) hb)
       have n1_ := aM (blk_below (g := gb445) (o := .cells #[.slice (some ad447) l1_0.length c1_0, .int .u32 a1_1] 25 (0, 0)) (bkS BK445.out) hb)
       have n2_ := aM (below_step (bl2 GE444.out GE445.out) hb)
       clear BK444
       clear BK445
       clear HB
       have BK444 := n0_
       have BK445 := n1_
       have HB := n2_
       clear n0_ n1_ n2_
       (try clear hb)
       (try clear hb2)
       (try clear hk)
       (try clear hi)
       refine hK.out _ _ ⟨(blk_cell BK444.out 0).trans rfl, (blk_cell BK444.out 1).trans rfl, (blk_cell BK445.out 0).trans rfl, (blk_cell BK445.out 1).trans rfl, ((HB.out.cell (World.block_lt_of_cell? w _ hw446_0)).trans hw446_0), ((HB.out.cell (World.block_lt_of_cell? w _ hw446_1)).trans hw446_1), ((HB.out.cell (World.block_lt_of_cell? w _ hw446_2)).trans hw446_2), ((HB.out.cell (World.block_lt_of_cell? w _ hw446_3)).trans hw446_3), ((HB.out.cell (World.block_lt_of_cell? w _ hw447_0)).trans hw447_0), ((HB.out.cell (World.block_lt_of_cell? w _ hw447_1)).trans hw447_1), ((HB.out.cell (World.block_lt_of_cell? w _ hw447_2)).trans hw447_2), ((HB.out.cell (World.block_lt_of_cell? w _ hw447_3)).trans hw447_3)⟩ (fun hHeld => ?_)
       clear hK K
       refine norm_ (a' := ?_) ?_ ?_
       rotate_left
       · show Act.put _ (some 37) _ = _
         refine apW ?_
         rfl
       refine pure_ (i := 11) (N := some 38) (v := ?_) (a' := ?_) #[true, true, true, true, true, true, true, true, true, true, true, true] rfl rfl (any_of HT_.out kR) (fun _ _ _ h => h) (Or.inl ⟨by rfl, ?_⟩) ?_ ?_
       rotate_left
       · intro w'
         go_simp
         with_reducible rfl
       rotate_left
       · refine apW ?_
         rfl
       refine done_ (done_of HT_.out kR) ?_
       try go_wp2
       go_ret
       exact ⟨erA, bl2 GE444.out GE445.out⟩
     subst c18
     have H1 : (hurdleref10_Same.l0 k2 (wrap64 (x5_2 + 1)) l0_0 a0_1 l1_0 a1_1) = some r := by rw [if_pos rfl] at H; exact H
     clear H
     have H := H1
     clear H1
     have H' := aM H
     clear H
     have hnb19 := NB444_445.out
     have hnc19 := NB445_444.out
     have hcz20_0 : wr.cell? ⟨gb444, 0, none⟩ = some (.slice A0_0 l0_0.length c0_0) := (blk_cell BK444.out 0).trans rfl
     have hcz20_1 : wr.cell? ⟨gb444, 1, none⟩ = some (.int .u32 a0_1) := (blk_cell BK444.out 1).trans rfl
     have hfz20_0 := blk_frozen BK444.out 0
     have hfz20_1 := blk_frozen BK444.out 1
     try go_wp2
     have n0_ := aM (blk_drew BK444.out)
     have n1_ := aM (blk_drew BK445.out)
     have n2_ := aM (below_drew1 HB.out)
     clear BK444
     clear BK445
     clear HB
     have BK444 := n0_
     have BK445 := n1_
     have HB := n2_
     clear n0_ n1_ n2_
     have p446 : 0 ≤ (x5_2 : Int) := of_decide_eq_true as_
     have q446 : x5_2 < (l0_0.length : Int) := of_decide_eq_true as_
     obtain ⟨ad446, A446_2, c446_2, e446, hx446_0, hx446_1, hx446_2, hx446_3, hl446_2, hi446_2⟩ := at_T40 HR0_0.out x5_2 p446 q446
     have hw446_3 := hx446_3
     have hw446_2 := hx446_2
     have hw446_1 := hx446_1
     have hw446_0 := hx446_0
     cases e446
     replace hx446_0 := (HB.out.cell (World.block_lt_of_cell? w _ hx446_0)).trans hx446_0
     replace hx446_1 := (HB.out.cell (World.block_lt_of_cell? w _ hx446_1)).trans hx446_1
     replace hx446_2 := (HB.out.cell (World.block_lt_of_cell? w _ hx446_2)).trans hx446_2
     replace hx446_3 := (HB.out.cell (World.block_lt_of_cell? w _ hx446_3)).trans hx446_3
     have HR446_2 := aM hi446_2
     have HC446_2 := aM hl446_2
     clear hi446_2 hl446_2
     replace p446 := eq_true p446
     replace q446 := eq_true q446
     have p447 : 0 ≤ (x5_2 : Int) := of_decide_eq_true as_
     have q447 : x5_2 < (l1_0.length : Int) := of_decide_eq_true as_
     obtain ⟨ad447, A447_2, c447_2, e447, hx447_0, hx447_1, hx447_2, hx447_3, hl447_2, hi447_2⟩ := at_T40 HR1_0.out x5_2 p447 q447
     have hw447_3 := hx447_3
     have hw447_2 := hx447_2
     have hw447_1 := hx447_1
     have hw447_0 := hx447_0
     cases e447
     replace hx447_0 := (HB.out.cell (World.block_lt_of_cell? w _ hx447_0)).trans hx447_0
     replace hx447_1 := (HB.out.cell (World.block_lt_of_cell? w _ hx447_1)).trans hx447_1
     replace hx447_2 := (HB.out.cell (World.block_lt_of_cell? w _ hx447_2)).trans hx447_2
     replace hx447_3 := (HB.out.cell (World.block_lt_of_cell? w _ hx447_3)).trans hx447_3
     have HR447_2 := aM hi447_2
     have HC447_2 := aM hl447_2
     clear hi447_2 hl447_2
     replace p447 := eq_true p447
     replace q447 := eq_true q447
     refine start_ (n := 12) (S := fun w' => w'.cell? ⟨gb444, 0, none⟩ = some (.slice (some ad446) l0_0.length c0_0) ∧ w'.cell? ⟨gb444, 1, none⟩ = some (.int .u32 a0_1) ∧ w'.cell? ⟨gb445, 0, none⟩ = some (.slice (some ad447) l1_0.length c1_0) ∧ w'.cell? ⟨gb445, 1, none⟩ = some (.int .u32 a1_1) ∧ w'.cell? (ad446.add ((x5_2).toNat * 4)) = some (.int .u32 ((rd_T40 l0_0 x5_2).f0)) ∧ w'.cell? ⟨(ad446.add ((x5_2).toNat * 4)).block, (ad446.add ((x5_2).toNat * 4)).off + 1, none⟩ = some (.int .u32 ((rd_T40 l0_0 x5_2).f1)) ∧ w'.cell? ⟨(ad446.add ((x5_2).toNat * 4)).block, (ad446.add ((x5_2).toNat * 4)).off + 2, none⟩ = some (.slice A446_2 ((rd_T40 l0_0 x5_2).f2).length c446_2) ∧ w'.cell? ⟨(ad446.add ((x5_2).toNat * 4)).block, (ad446.add ((x5_2).toNat * 4)).off + 3, none⟩ = some (.int .u32 ((rd_T40 l0_0 x5_2).f3)) ∧ w'.cell? (ad447.add ((x5_2).toNat * 4)) = some (.int .u32 ((rd_T40 l1_0 x5_2).f0)) ∧ w'.cell? ⟨(ad447.add ((x5_2).toNat * 4)).block, (ad447.add ((x5_2).toNat * 4)).off + 1, none⟩ = some (.int .u32 ((rd_T40 l1_0 x5_2).f1)) ∧ w'.cell? ⟨(ad447.add ((x5_2).toNat * 4)).block, (ad447.add ((x5_2).toNat * 4)).off + 2, none⟩ = some (.slice A447_2 ((rd_T40 l1_0 x5_2).f2).length c447_2) ∧ w'.cell? ⟨(ad447.add ((x5_2).toNat * 4)).block, (ad447.add ((x5_2).toNat * 4)).off + 3, none⟩ = some (.int .u32 ((rd_T40 l1_0 x5_2).f3))) (ds := []) #[false, false, false, false, false, false, false, false, false, false, false, false] kR rfl rfl ⟨(blk_cell BK444.out 0).trans rfl, (blk_cell BK444.out 1).trans rfl, (blk_cell BK445.out 0).trans rfl, (blk_cell BK445.out 1).trans rfl, ((HB.out.cell (World.block_lt_of_cell? w _ hw446_0)).trans hw446_0), ((HB.out.cell (World.block_lt_of_cell? w _ hw446_1)).trans hw446_1), ((HB.out.cell (World.block_lt_of_cell? w _ hw446_2)).trans hw446_2), ((HB.out.cell (World.block_lt_of_cell? w _ hw446_3)).trans hw446_3), ((HB.out.cell (World.block_lt_of_cell? w _ hw447_0)).trans hw447_0), ((HB.out.cell (World.block_lt_of_cell? w _ hw447_1)).trans hw447_1), ((HB.out.cell (World.block_lt_of_cell? w _ hw447_2)).trans hw447_2), ((HB.out.cell (World.block_lt_of_cell? w _ hw447_3)).trans hw447_3)⟩ (fun hHeld => ?_); refine with_tabW hurdleref10_Same.tab6 hurdleref10_Same.bits6 (fun HT_ HW_ => ?_)
     generalize wr.drew = w21 at BK444 BK445 HB HR446_2 HR447_2 hx446_0 hx446_1 hx446_2 hx446_3 hx447_0 hx447_1 hx447_2 hx447_3 hHeld ⊢
     refine pure_ (i := 0) (N := some 27) (v := ?_) (a' := ?_) #[true, false, false, false, false, false, false, false, false, false, false, false] rfl rfl (any_of HT_.out kR) (fun _ _ _ h => h) (Or.inl ⟨by rfl, ?_⟩) ?_ ?_
     rotate_left
     · intro w'
       go_simp
       with_reducible rfl
     rotate_left
     · refine apW ?_
       rfl
     refine pure_ (i := 2) (N := some 29) (v := ?_) (a' := ?_) #[true, false, true, false, false, false, false, false, false, false, false, false] rfl rfl (any_of HT_.out kR) (fun _ _ _ h => h) (Or.inl ⟨by rfl, ?_⟩) ?_ ?_
     rotate_left
     · intro w'
       go_simp
       with_reducible rfl
     rotate_left
     · refine apW ?_
       rfl
     refine pure_ (i := 5) (N := some 32) (v := ?_) (a' := ?_) #[true, false, true, false, false, true, false, false, false, false, false, false] rfl rfl (any_of HT_.out kR) (fun _ _ _ h => h) (Or.inl ⟨by rfl, ?_⟩) ?_ ?_
     rotate_left
     · intro w'
       go_simp
       with_reducible rfl
     rotate_left
     · refine apW ?_
       rfl
     refine pure_ (i := 7) (N := some 34) (v := ?_) (a' := ?_) #[true, false, true, false, false, true, false, true, false, false, false, false] rfl rfl (any_of HT_.out kR) (fun _ _ _ h => h) (Or.inl ⟨by rfl, ?_⟩) ?_ ?_
     rotate_left
     · intro w'
       go_simp
       with_reducible rfl
     rotate_left
     · refine apW ?_
       rfl
     refine take_ (i := 1) (N := some 28) (v := ?_) (a' := ?_) #[true, true, true, false, false, true, false, true, false, false, false, false] rfl rfl (take_ofW HT_.out HW_.out kR) (fun _ _ _ h => h) (Or.inl ⟨by rfl, ?_⟩) hHeld ?_ ?_
     rotate_left
     · rintro w' ⟨s0, s1, s2, s3, s4, s5, s6, s7, s8, s9, s10, s11⟩
       go_simp
       with_reducible rfl
     rotate_left
     · refine apW ?_
       rfl
     refine pure_ (i := 3) (N := some 30) (v := ?_) (a' := ?_) #[true, true, true, true, false, true, false, true, false, false, false, false] rfl rfl (any_of HT_.out kR) (fun _ _ _ h => h) (Or.inl ⟨by rfl, ?_⟩) ?_ ?_
     rotate_left
     · intro w'
       go_simp
       with_reducible rfl
     rotate_left
     · refine apW ?_
       rfl
     refine take_ (i := 4) (N := some 31) (v := ?_) (a' := ?_) #[true, true, true, true, true, true, false, true, false, false, false, false] rfl rfl (take_ofW HT_.out HW_.out kR) (fun _ _ _ h => h) (Or.inl ⟨by rfl, ?_⟩) hHeld ?_ ?_
     rotate_left
     · rintro w' ⟨s0, s1, s2, s3, s4, s5, s6, s7, s8, s9, s10, s11⟩
       go_simp
       with_reducible rfl
     rotate_left
     · refine apW ?_
       rfl
     refine take_ (i := 6) (N := some 33) (v := ?_) (a' := ?_) #[true, true, true, true, true, true, true, true, false, false, false, false] rfl rfl (take_ofW HT_.out HW_.out kR) (fun _ _ _ h => h) (Or.inl ⟨by rfl, ?_⟩) hHeld ?_ ?_
     rotate_left
     · rintro w' ⟨s0, s1, s2, s3, s4, s5, s6, s7, s8, s9, s10, s11⟩
       go_simp
       with_reducible rfl
     rotate_left
     · refine apW ?_
       rfl
     refine pure_ (i := 8) (N := some 35) (v := ?_) (a' := ?_) #[true, true, true, true, true, true, true, true, true, false, false, false] rfl rfl (any_of HT_.out kR) (fun _ _ _ h => h) (Or.inl ⟨by rfl, ?_⟩) ?_ ?_
     rotate_left
     · intro w'
       go_simp
       with_reducible rfl
     rotate_left
     · refine apW ?_
       rfl
     refine take_ (i := 9) (N := some 36) (v := ?_) (a' := ?_) #[true, true, true, true, true, true, true, true, true, true, false, false] rfl rfl (take_ofW HT_.out HW_.out kR) (fun _ _ _ h => h) (Or.inl ⟨by rfl, ?_⟩) hHeld ?_ ?_
     rotate_left
     · rintro w' ⟨s0, s1, s2, s3, s4, s5, s6, s7, s8, s9, s10, s11⟩
       go_simp
       with_reducible rfl
     rotate_left
     · refine apW ?_
       rfl
     refine one_ (i := 10) (N := some 37) #[true, true, true, true, true, true, true, true, true, true, true, false] rfl rfl (one_of HT_.out kR) (by decide) (fun K hK => ?_)
     refine goes_ Try.func44 kR rfl #[.agg #[.int .u32 ((rd_T40 l0_0 x5_2).f0), .int .u32 ((rd_T40 l0_0 x5_2).f1), .slice A446_2 ((rd_T40 l0_0 x5_2).f2).length c446_2, .int .u32 ((rd_T40 l0_0 x5_2).f3)], .agg #[.int .u32 ((rd_T40 l1_0 x5_2).f0), .int .u32 ((rd_T40 l1_0 x5_2).f1), .slice A447_2 ((rd_T40 l1_0 x5_2).f2).length c447_2, .int .u32 ((rd_T40 l1_0 x5_2).f3)]] (by rfl) rfl rfl mpA ?_
     with_reducible refine (hurdleref10_SameRule.calls k2 ((rd_T40 l0_0 x5_2).f0) ((rd_T40 l0_0 x5_2).f1) _ _ ((rd_T40 l0_0 x5_2).f2) ((rd_T40 l0_0 x5_2).f3) ((rd_T40 l1_0 x5_2).f0) ((rd_T40 l1_0 x5_2).f1) _ _ ((rd_T40 l1_0 x5_2).f2) ((rd_T40 l1_0 x5_2).f3) true _ ?side1 ?side2 ?side3 ?side4 A17.out).mono ?_
     (case side1 => repeat (first | exact (Kd.C_below HR446_2.out HB.out) | (with_reducible refine Kd.C_alloc ?_ _) | (with_reducible refine Kd.C_drewN ?_ _) | (with_reducible refine Kd.C_drew ?_)))
     (case side2 => exact HC446_2.out)
     (case side3 => repeat (first | exact (Kd.C_below HR447_2.out HB.out) | (with_reducible refine Kd.C_alloc ?_ _) | (with_reducible refine Kd.C_drewN ?_ _) | (with_reducible refine Kd.C_drew ?_)))
     (case side4 => exact HC447_2.out)
     rintro e w22 ⟨rfl, hb⟩
     refine ⟨_, rfl, ?_⟩
     have n0_ := aM (blk_below (g := gb444) (o := .cells #[.slice (some ad446) l0_0.length c0_0, .int .u32 a0_1] 25 (0, 0)) (bkS BK444.out) hb)
     have n1_ := aM (blk_below (g := gb445) (o := .cells #[.slice (some ad447) l1_0.length c1_0, .int .u32 a1_1] 25 (0, 0)) (bkS BK445.out) hb)
     have n2_ := aM (below_step (bl2 GE444.out GE445.out) hb)
     clear BK444
     clear BK445
     clear HB
     have BK444 := n0_
     have BK445 := n1_
     have HB := n2_
     clear n0_ n1_ n2_
     (try clear hb)
     (try clear hb2)
     (try clear hk)
     (try clear hi)
     refine hK.out _ _ ⟨(blk_cell BK444.out 0).trans rfl, (blk_cell BK444.out 1).trans rfl, (blk_cell BK445.out 0).trans rfl, (blk_cell BK445.out 1).trans rfl, ((HB.out.cell (World.block_lt_of_cell? w _ hw446_0)).trans hw446_0), ((HB.out.cell (World.block_lt_of_cell? w _ hw446_1)).trans hw446_1), ((HB.out.cell (World.block_lt_of_cell? w _ hw446_2)).trans hw446_2), ((HB.out.cell (World.block_lt_of_cell? w _ hw446_3)).trans hw446_3), ((HB.out.cell (World.block_lt_of_cell? w _ hw447_0)).trans hw447_0), ((HB.out.cell (World.block_lt_of_cell? w _ hw447_1)).trans hw447_1), ((HB.out.cell (World.block_lt_of_cell? w _ hw447_2)).trans hw447_2), ((HB.out.cell (World.block_lt_of_cell? w _ hw447_3)).trans hw447_3)⟩ (fun hHeld => ?_)
     clear hK K
     refine norm_ (a' := ?_) ?_ ?_
     rotate_left
     · show Act.put _ (some 37) _ = _
       refine apW ?_
       rfl
     refine pure_ (i := 11) (N := some 38) (v := ?_) (a' := ?_) #[true, true, true, true, true, true, true, true, true, true, true, true] rfl rfl (any_of HT_.out kR) (fun _ _ _ h => h) (Or.inl ⟨by rfl, ?_⟩) ?_ ?_
     rotate_left
     · intro w'
       go_simp
       with_reducible rfl
     rotate_left
     · refine apW ?_
       rfl
     refine done_ (done_of HT_.out kR) ?_
     try go_wp2
     go_roundg k2
     case measure => have := HJ2.out; have := HK2.out; omega
     case rel => exact ⟨(wrap64 (x5_2 + 1)), (by first | rfl | (simp; done) | (simp [*]; done)), H', ⟨by have := HJ2.out; have := HK2.out; omega⟩, ⟨by refine bkS ?_; exact BK444.out⟩, ⟨by refine bkS ?_; exact BK445.out⟩, ⟨bl2 GE444.out GE445.out⟩⟩
end Go.Proofs.Ytekpbgmmogpbdaa.P
namespace Go.Proofs.Ytekpbgmmogpbdaa.P
open Go.RowKit Go.Proofs.Ytekpbgmmogpbdaa.H Go.Proofs.YtekpbgmmogpbdaaW.PrintWords Go.Proofs.YtekpbgmmogpbdaaW.PrintLast Go.Proofs.YtekpbgmmogpbdaaW.PrintMore
attribute [local go_sem] max2_int min2_int max_two min_two max_three min_three max_four min_four
def hurdlelaw10_PolicyParses.f (k : Nat) (a0 : ByteArray) : Option (Bool) := if (a0.size : Int) > 25000 then ((hurdlelaw10_knows.f k).bind fun t449 => (some t449)) else ((policy_Parse.f a0).bind fun bt450 => ((hurdleref10_Parse.f k a0).bind fun bt457 => ((hurdleref10_Same.f k bt450.1 bt450.2.1 bt457.1 bt457.2.1).bind fun t464 => (if t464 = true then (if bt450.2.2.1 = bt457.2.2.1 then (if bt450.2.2.2 = bt457.2.2.2 then ((hurdlelaw10_knows.f k).bind fun t465 => (some t465)) else (some false)) else (some false)) else (some false)))))
set_option maxHeartbeats 8000000 in
set_option maxRecDepth 100000 in
theorem hurdlelaw10_PolicyParses.calls (k : Nat) (a0 : ByteArray) (r : Bool) (w : World) (h : hurdlelaw10_PolicyParses.f k a0 = some r) (ht : r = true := by first | rfl | assumption) :
 Calls Try.prog 4 #[.string a0] w fun e w' => e = .returned (.bool r) ∧ Below w.heap.size w w' := by
 have hu25 := Try.underlying25
 have HB := aM (Below.refl w.heap.size w)
 have H : (if (a0.size : Int) > 25000 then ((hurdlelaw10_knows.f k).bind fun t449 => (some t449)) else ((policy_Parse.f a0).bind fun bt450 => ((hurdleref10_Parse.f k a0).bind fun bt457 => ((hurdleref10_Same.f k bt450.1 bt450.2.1 bt457.1 bt457.2.1).bind fun t464 => (if t464 = true then (if bt450.2.2.1 = bt457.2.2.1 then (if bt450.2.2.2 = bt457.2.2.2 then ((hurdlelaw10_knows.f k).bind fun t465 => (some t465)) else (some false)) else (some false)) else (some false)))))) = some r := h
 clear h
 by_cases c2 : (a0.size : Int) > 25000
 · rw [if_pos c2] at H
   have c2b0 : decide (25000 < (a0.size : Int)) = true := decide_eq_true c2
   have c2b1 : decide (25000 < a0.size) = true := decide_eq_true (by omega)
   clear c2
   replace H := Option.bind_eq_some_iff.mp H
   obtain ⟨t449, A30, H⟩ := H
   replace H : (some t449) = some r := H
   have A3 := aM A30
   clear A30
   obtain rfl := Option.some.inj H
   go_enter Try.func4, Try.ntmps4
   go_wp2_with (first | ((with_reducible refine gate_callee (f := 15) rfl ?_); refine goesL_ (some 12) rfl rfl Try.func15 kR rfl #[] rfl mpA ?_; (with_reducible refine (hurdlelaw10_knows.calls k  t449 _ A3.out).mono ?_); rintro e w4 ⟨rfl, hb⟩; refine ⟨_, rfl, ?_⟩; have n0_ := aM (below_step bl0 hb); clear HB; have HB := n0_; clear n0_; (try clear hb); (try clear hb2); (try clear hk); (try clear hi)))
   go_ret
   exact ⟨erA, bl0⟩
 rw [if_neg c2] at H
 have c2b0 : decide (25000 < (a0.size : Int)) = false := decide_eq_false c2
 have c2b1 : decide (25000 < a0.size) = false := decide_eq_false (by omega)
 clear c2
 replace H := Option.bind_eq_some_iff.mp H
 obtain ⟨⟨t450, t453, t454, t455⟩, A50, H⟩ := H
 replace H : ((hurdleref10_Parse.f k a0).bind fun bt457 => ((hurdleref10_Same.f k t450 t453 bt457.1 bt457.2.1).bind fun t464 => (if t464 = true then (if t454 = bt457.2.2.1 then (if t455 = bt457.2.2.2 then ((hurdlelaw10_knows.f k).bind fun t465 => (some t465)) else (some false)) else (some false)) else (some false)))) = some r := H
 have A5 := aM A50
 clear A50
 replace H := Option.bind_eq_some_iff.mp H
 obtain ⟨⟨t457, t460, t461, t462⟩, A60, H⟩ := H
 replace H : ((hurdleref10_Same.f k t450 t453 t457 t460).bind fun t464 => (if t464 = true then (if t454 = t461 then (if t455 = t462 then ((hurdlelaw10_knows.f k).bind fun t465 => (some t465)) else (some false)) else (some false)) else (some false))) = some r := H
 have A6 := aM A60
 clear A60
 replace H := Option.bind_eq_some_iff.mp H
 obtain ⟨t464, A70, H⟩ := H
 replace H : (if t464 = true then (if t454 = t461 then (if t455 = t462 then ((hurdlelaw10_knows.f k).bind fun t465 => (some t465)) else (some false)) else (some false)) else (some false)) = some r := H
 have A7 := aM A70
 clear A70
 by_cases c8 : t464 = true
 rotate_left
 · replace c8 := Bool.eq_false_iff.mpr c8
   subst c8
   have H1 : (some false) = some r := by rw [if_neg (show ¬ (false = true) by decide)] at H; exact H
   clear H
   have H := H1
   clear H1
   obtain rfl := Option.some.inj H
   exact absurd ht Bool.false_ne_true
 subst c8
 have H1 : (if t454 = t461 then (if t455 = t462 then ((hurdlelaw10_knows.f k).bind fun t465 => (some t465)) else (some false)) else (some false)) = some r := by rw [if_pos rfl] at H; exact H
 clear H
 have H := H1
 clear H1
 by_cases c9 : t454 = t461
 rotate_left
 · rw [if_neg c9] at H
   exact absurd ((Option.some.inj H).trans ht) Bool.false_ne_true
 rw [if_pos c9] at H
 have c9b0 : (t454 == t461) = true := beq_iff_eq.mpr c9
 have c9b1 : (t454 != t461) = false := bne_eq_false_iff_eq.mpr c9
 clear c9
 by_cases c10 : t455 = t462
 rotate_left
 · rw [if_neg c10] at H
   exact absurd ((Option.some.inj H).trans ht) Bool.false_ne_true
 rw [if_pos c10] at H
 have c10b0 : (t455 == t462) = true := beq_iff_eq.mpr c10
 have c10b1 : (t455 != t462) = false := bne_eq_false_iff_eq.mpr c10
 clear c10
 replace H := Option.bind_eq_some_iff.mp H
 obtain ⟨t465, A110, H⟩ := H
 replace H : (some t465) = some r := H
 have A11 := aM A110
 clear A110
 obtain rfl := Option.some.inj H
 go_enter Try.func4, Try.ntmps4
 go_wp2_with (first | ((with_reducible refine gate_callee (f := 20) rfl ?_); refine goesL_ (some 15) rfl rfl Try.func20 kR rfl #[.string a0] rfl mpA ?_; (with_reducible refine (policy_Parse.calls a0 t450 t453 t454 t455 _ A5.out).mono ?_); rintro e w12 ⟨v451, rfl, ho0, hb⟩; refine ⟨_, rfl, ?_⟩; have n0_ := aM (Kd.S_lower ho0 (below_size bl0)); have n1_ := aM (below_step bl0 hb); clear HB; have HO452 := n0_; have HB := n1_; clear n0_ n1_; (try clear hb); (try clear hb2); (try clear hk); (try clear hi); (try clear ho0)) | ((with_reducible refine gate_dst (N := 3) rfl ?_); refine box_event ?hg (N := 3) ?hd (cs := #[.slice none 0 0, .int .u32 0]) (t := 25) ?hr ?_; (case hd => rfl); (case hg => rfl); (case hr => first | (go_simp; done) | (go_simp; rfl)); intro gb456 hg w13 hbox hb; have n0_ := aM (Kd.S_below (sdS HO452.out) hb); have n1_ := aM (below_step bl0 hb); have n2_ := aM (hbox); have n3_ := aM ((by rw [hg]; exact (below_size bl0) : w.heap.size ≤ gb456)); have n4_ := aM ((by rw [hg]; exact (below_size bl0) : w.heap.size ≤ gb456)); clear HO452; clear HB; have HO452 := n0_; have HB := n1_; have BK456 := n2_; have GW456 := n3_; have GE456 := n4_; clear n0_ n1_ n2_ n3_ n4_; clear hb hbox hg; obtain ⟨Ao14, co14, eo14⟩ := Kd.S_slice HO452.out; subst eo14; have hcz15_0 : w13.cell? ⟨gb456, 0, none⟩ = some (.slice none 0 0) := (blk_cell BK456.out 0).trans rfl; have hcz15_1 : w13.cell? ⟨gb456, 1, none⟩ = some (.int .u32 0) := (blk_cell BK456.out 1).trans rfl; have hfz15_0 := blk_frozen BK456.out 0; have hfz15_1 := blk_frozen BK456.out 1) | ((with_reducible refine gate_callee (f := 21) rfl ?_); refine goesL_ (some 21) rfl rfl Try.func21 kR rfl #[.string a0] rfl mpA ?_; (with_reducible refine (hurdleref10_Parse.calls k a0 t457 t460 t461 t462 _ A6.out).mono ?_); rintro e w16 ⟨v458, rfl, ho0, hb⟩; refine ⟨_, rfl, ?_⟩; have n0_ := aM (Kd.S_elder' (by refine sdS ?_; exact (Kd.S_mono (Kd.S_far (p := ⟨gb456, 1, none⟩) (Kd.S_far (p := ⟨gb456, 0, none⟩) (Kd.S_types HO452.out BK456.out (by decide)) (fun _ hk => hk.2) (.slice Ao14 t450.length co14)) (fun _ hk => hk.2) (.int .u32 t453)) (fun _ h_ => h_.1))) (Kd.S_base ho0) hb); have n1_ := aM (Kd.S_lower (Kd.S_new' ho0 (Kd.S_lt (by refine sdS ?_; exact (Kd.S_mono (Kd.S_far (p := ⟨gb456, 1, none⟩) (Kd.S_far (p := ⟨gb456, 0, none⟩) (Kd.S_types HO452.out BK456.out (by decide)) (fun _ hk => hk.2) (.slice Ao14 t450.length co14)) (fun _ hk => hk.2) (.int .u32 t453)) (fun _ h_ => h_.1))))) (below_size (bl1 GE456.out))); have n2_ := aM (blk_below (g := gb456) (o := .cells #[.slice Ao14 t450.length co14, .int .u32 t453] 25 (0, 0)) (by refine bkS ?_; refine blk_put (cs := #[.slice Ao14 t450.length co14, .int .u32 0]) ?_ 1 _ rfl; refine bkS ?_; refine blk_put (cs := #[.slice none 0 0, .int .u32 0]) ?_ 0 _ rfl; refine bkS ?_; exact BK456.out) hb); have n3_ := aM (below_step (bl1 GE456.out) hb); clear HO452; clear BK456; clear HB; have HO452 := n0_; have HO459 := n1_; have BK456 := n2_; have HB := n3_; clear n0_ n1_ n2_ n3_; (try clear hb); (try clear hb2); (try clear hk); (try clear hi); (try clear ho0)) | ((with_reducible refine gate_dst (N := 6) rfl ?_); refine box_event ?hg (N := 6) ?hd (cs := #[.slice none 0 0, .int .u32 0]) (t := 25) ?hr ?_; (case hd => rfl); (case hg => rfl); (case hr => first | (go_simp; done) | (go_simp; rfl)); intro gb463 hg w17 hbox hb; have n0_ := aM (Kd.S_below (sdS HO452.out) hb); have n1_ := aM (Kd.S_below (sdS HO459.out) hb); have n2_ := aM (blk_below (g := gb456) (o := .cells #[.slice Ao14 t450.length co14, .int .u32 t453] 25 (0, 0)) (bkS BK456.out) hb); have n3_ := aM (below_step (bl1 GE456.out) hb); have n4_ := aM (hbox); have n5_ := aM ((by rw [hg]; exact (below_size (bl1 GE456.out)) : w.heap.size ≤ gb463)); have n6_ := aM ((by rw [hg]; exact (below_size (bl1 GE456.out)) : w.heap.size ≤ gb463)); have n7_ := aM ((by rw [hg]; exact Nat.ne_of_lt (blk_lt (g := gb456) (o := .cells #[.slice Ao14 t450.length co14, .int .u32 t453] 25 (0, 0)) (bkS BK456.out)) : gb456 ≠ gb463)); have n8_ := aM ((by rw [hg]; exact Nat.ne_of_gt (blk_lt (g := gb456) (o := .cells #[.slice Ao14 t450.length co14, .int .u32 t453] 25 (0, 0)) (bkS BK456.out)) : gb463 ≠ gb456)); clear HO452; clear HO459; clear BK456; clear HB; have HO452 := n0_; have HO459 := n1_; have BK456 := n2_; have HB := n3_; have BK463 := n4_; have GW463 := n5_; have GE463 := n6_; have NB456_463 := n7_; have NB463_456 := n8_; clear n0_ n1_ n2_ n3_ n4_ n5_ n6_ n7_ n8_; clear hb hbox hg; obtain ⟨Ao18, co18, eo18⟩ := Kd.S_slice HO459.out; subst eo18; have hnb19 := NB463_456.out; have hnc19 := NB456_463.out; have hcz20_0 : w17.cell? ⟨gb463, 0, none⟩ = some (.slice none 0 0) := (blk_cell BK463.out 0).trans rfl; have hcz20_1 : w17.cell? ⟨gb463, 1, none⟩ = some (.int .u32 0) := (blk_cell BK463.out 1).trans rfl; have hfz20_0 := blk_frozen BK463.out 0; have hfz20_1 := blk_frozen BK463.out 1; have hcz21_0 : w17.cell? ⟨gb456, 0, none⟩ = some (.slice Ao14 t450.length co14) := (blk_cell BK456.out 0).trans rfl; have hcz21_1 : w17.cell? ⟨gb456, 1, none⟩ = some (.int .u32 t453) := (blk_cell BK456.out 1).trans rfl; have hfz21_0 := blk_frozen BK456.out 0; have hfz21_1 := blk_frozen BK456.out 1) | ((with_reducible refine gate_callee (f := 22) rfl ?_); refine goesL_ (some 27) rfl rfl Try.func22 kR rfl #[.agg #[.slice Ao14 t450.length co14, .int .u32 t453], .agg #[.slice Ao18 t457.length co18, .int .u32 t460]] rfl mpA ?_; (with_reducible refine (hurdleref10_Same.calls k _ _ t450 t453 _ _ t457 t460 true _ ?side1 ?side2 ?side3 ?side4 A7.out).mono ?_); (case side1 => refine (Kd.S_reads' (e := 40) (base := w.heap.size) (ok := fun k_ => (True ∧ some k_ ≠ (.slice Ao18 t457.length co18 : Value).ownBlock)) (n := t450.length) (c := co14) ?_).2.2; exact (by refine sdS ?_; exact (Kd.S_mono (Kd.S_far (p := ⟨gb463, 1, none⟩) (Kd.S_far (p := ⟨gb463, 0, none⟩) (Kd.S_types HO452.out BK463.out (by decide)) (fun _ hk => hk.2) (.slice Ao18 t457.length co18)) (fun _ hk => hk.2) (.int .u32 t460)) (fun _ h_ => h_.1)))); (case side2 => exact (Kd.S_reads' HO452.out).2.1); (case side3 => refine (Kd.S_reads' (e := 40) (base := w.heap.size) (ok := fun k_ => (True ∧ some k_ ≠ (.slice Ao14 t450.length co14 : Value).ownBlock)) (n := t457.length) (c := co18) ?_).2.2; exact (by refine sdS ?_; exact (Kd.S_mono (Kd.S_far (p := ⟨gb463, 1, none⟩) (Kd.S_far (p := ⟨gb463, 0, none⟩) (Kd.S_types HO459.out BK463.out (by decide)) (fun _ hk => hk.2) (.slice Ao18 t457.length co18)) (fun _ hk => hk.2) (.int .u32 t460)) (fun _ h_ => h_.1)))); (case side4 => exact (Kd.S_reads' HO459.out).2.1); rintro e w22 ⟨rfl, hb⟩; refine ⟨_, rfl, ?_⟩; have n0_ := aM (Kd.S_below (by refine sdS ?_; exact (Kd.S_mono (Kd.S_far (p := ⟨gb463, 1, none⟩) (Kd.S_far (p := ⟨gb463, 0, none⟩) (Kd.S_types HO452.out BK463.out (by decide)) (fun _ hk => hk.2) (.slice Ao18 t457.length co18)) (fun _ hk => hk.2) (.int .u32 t460)) (fun _ h_ => h_.1))) hb); have n1_ := aM (Kd.S_below (by refine sdS ?_; exact (Kd.S_mono (Kd.S_far (p := ⟨gb463, 1, none⟩) (Kd.S_far (p := ⟨gb463, 0, none⟩) (Kd.S_types HO459.out BK463.out (by decide)) (fun _ hk => hk.2) (.slice Ao18 t457.length co18)) (fun _ hk => hk.2) (.int .u32 t460)) (fun _ h_ => h_.1))) hb); have n2_ := aM (blk_below (g := gb456) (o := .cells #[.slice Ao14 t450.length co14, .int .u32 t453] 25 (0, 0)) (by refine bkS ?_; refine blk_far ?_ NB456_463.out _; refine bkS ?_; refine blk_far ?_ NB456_463.out _; refine bkS ?_; exact BK456.out) hb); have n3_ := aM (blk_below (g := gb463) (o := .cells #[.slice Ao18 t457.length co18, .int .u32 t460] 25 (0, 0)) (by refine bkS ?_; refine blk_put (cs := #[.slice Ao18 t457.length co18, .int .u32 0]) ?_ 1 _ rfl; refine bkS ?_; refine blk_put (cs := #[.slice none 0 0, .int .u32 0]) ?_ 0 _ rfl; refine bkS ?_; exact BK463.out) hb); have n4_ := aM (below_step (bl2 GE456.out GE463.out) hb); clear HO452; clear HO459; clear BK456; clear BK463; clear HB; have HO452 := n0_; have HO459 := n1_; have BK456 := n2_; have BK463 := n3_; have HB := n4_; clear n0_ n1_ n2_ n3_ n4_; (try clear hb); (try clear hb2); (try clear hk); (try clear hi)) | (go_at_call 15; (with_reducible refine (hurdlelaw10_knows.calls k  t465 _ A11.out).mono ?_); rintro e w23 ⟨rfl, hb⟩; have n0_ := aM (Kd.S_below (sdS HO452.out) hb); have n1_ := aM (Kd.S_below (sdS HO459.out) hb); have n2_ := aM (blk_below (g := gb456) (o := .cells #[.slice Ao14 t450.length co14, .int .u32 t453] 25 (0, 0)) (bkS BK456.out) hb); have n3_ := aM (blk_below (g := gb463) (o := .cells #[.slice Ao18 t457.length co18, .int .u32 t460] 25 (0, 0)) (bkS BK463.out) hb); have n4_ := aM (below_step (bl2 GE456.out GE463.out) hb); clear HO452; clear HO459; clear BK456; clear BK463; clear HB; have HO452 := n0_; have HO459 := n1_; have BK456 := n2_; have BK463 := n3_; have HB := n4_; clear n0_ n1_ n2_ n3_ n4_; (try clear hb); (try clear hb2); (try clear hk); (try clear hi)))
 go_ret
 exact ⟨erA, bl2 GE456.out GE463.out⟩
def hurdlelaw10_PolicyParses.Pure : Prop := ∀ (a0 : ByteArray), a0.size ≤ 140737488351232 → ∃ k, hurdlelaw10_PolicyParses.f k a0 = some true
theorem hurdlelaw10_PolicyParses.walk (P : hurdlelaw10_PolicyParses.Pure) (a0 : ByteArray) (w : World) (w0 : a0.size ≤ 140737488351232) :
 Calls Try.prog 4 #[.string a0] w fun e w' => e = .returned (.bool true) ∧ Below w.heap.size w w' := by
 obtain ⟨k, h⟩ := P a0 w0
 refine (hurdlelaw10_PolicyParses.calls k a0 true w h).mono ?_
 rintro e w' ⟨rfl, hd⟩
 exact ⟨rfl, hd⟩
end Go.Proofs.Ytekpbgmmogpbdaa.P
set_option maxRecDepth 100000
namespace Go.Proofs.Ytekpbgmmogpbdaa.H
open Go.RowKit Go.Proofs.YtekpbgmmogpbdaaW.PrintWords
theorem nstr_data (l : List Int) : (strOfNums l).data.toList = u8s l := strOfNums_data l
theorem ba_ext {a b : ByteArray} (h : a.data.toList = b.data.toList) : a = b := by
 apply ByteArray.ext
 exact Array.toList_inj.1 h
theorem ba_ext' {a b : ByteArray} (h : a.toList = b.toList) : a = b := by
 rw [ByteArray.toList_eq, ByteArray.toList_eq] at h; exact ba_ext h
structure NGood (l : NL) : Prop where
 uniq : Uniq l
 keys : ∀ p ∈ l, ∀ q ∈ l, p.1 = q.1 → p.2 = q.2
 some_ : ∀ p ∈ l, p.1.data.toList ≠ []
 plain : ∀ p ∈ l, parseL p.1.data.toList = none
 range : ∀ p ∈ l, 0 ≤ p.2 ∧ p.2 < 4294967296
theorem good_nil : NGood [] := ⟨(fun p h => by cases h), (fun p h => by cases h), (fun p h => by cases h), (fun p h => by cases h), (fun p h => by cases h)⟩
theorem good_ML : NGood ML := ⟨uniq_ML, by unfold ML; decide, by unfold ML; decide, by unfold ML; decide, by unfold ML; decide⟩
theorem good_AL : NGood AL := ⟨uniq_AL, by unfold AL; decide, by unfold AL; decide, by unfold AL; decide, by unfold AL; decide⟩
theorem good_x64 : NGood Cx64 := ⟨uniq_Cx64, by unfold Cx64; decide, by unfold Cx64; decide, by unfold Cx64; decide, by unfold Cx64; decide⟩
theorem good_x86 : NGood Cx86 := ⟨uniq_Cx86, by unfold Cx86; decide, by unfold Cx86; decide, by unfold Cx86; decide, by unfold Cx86; decide⟩
theorem good_a64 : NGood Ca64 := ⟨uniq_Ca64, by unfold Ca64; decide, by unfold Ca64; decide, by unfold Ca64; decide, by unfold Ca64; decide⟩
theorem good_arm : NGood Carm := ⟨uniq_Carm, by unfold Carm; decide, by unfold Carm; decide, by unfold Carm; decide, by unfold Carm; decide⟩
theorem good_calls (a : Int) : NGood (callsOf a) := by
 unfold callsOf
 split
 · exact good_x64
 · split
   · exact good_x86
   · split
     · exact good_a64
     · split
       · exact good_arm
       · exact good_nil
theorem nonempty_of {s : ByteArray} (h : s.data.toList ≠ []) : s.toList.isEmpty = false := by
 rw [ByteArray.toList_eq]
 cases hs : s.data.toList with
 | nil => exact absurd hs h
 | cons a l => rfl
theorem numOf_some {l : NL} {s : ByteArray} {v : Int} (h : numOf l s = some v) : (s, v) ∈ l := by
 unfold numOf at h
 cases hf : l.find? (fun p => s == p.1) with
 | none => rw [hf] at h; cases h
 | some p =>
  rw [hf] at h
  have h1 := List.find?_some hf
  have h2 := List.mem_of_find?_eq_some hf
  have e1 : s = p.1 := (MapKept.bytes_beq _ _).1 h1
  have e2 : p.2 = v := Option.some.inj h
  rw [e1, ← e2]; exact h2
theorem numOf_hit {l : NL} (g : NGood l) {p : ByteArray × Int} (hp : p ∈ l) : numOf l p.1 = some p.2 := by
 unfold numOf
 cases hf : l.find? (fun q => p.1 == q.1) with
 | none =>
  have := List.find?_eq_none.1 hf p hp
  exact absurd ((MapKept.bytes_beq _ _).2 rfl) this
 | some q =>
  have h1 := List.find?_some hf
  have h2 := List.mem_of_find?_eq_some hf
  have e1 : p.1 = q.1 := (MapKept.bytes_beq _ _).1 h1
  simp only []
  rw [g.keys p hp q h2 e1]
theorem numOf_none {l : NL} {s : ByteArray} (h : ∀ p ∈ l, p.1 ≠ s) : numOf l s = none := by
 cases hv : numOf l s with
 | none => rfl
 | some v => exact absurd rfl (h _ (numOf_some hv))
theorem name_cases {l : NL} (g : NGood l) (n : Int) : (∃ p ∈ l, p.2 = n ∧ nameOf l n = p.1 ∧ (nameOf l n).toList.isEmpty = false) ∨ ((∀ p ∈ l, p.2 ≠ n) ∧ nameOf l n = ⟨#[]⟩) := by
 by_cases h : ∃ p ∈ l, p.2 = n
 rotate_left
 · have h' : ∀ p ∈ l, p.2 ≠ n := fun p hp hn => h ⟨p, hp, hn⟩
   exact .inr ⟨h', nameOf_miss h'⟩
 obtain ⟨p, hp, hn⟩ := h
 subst hn
 have e := nameOf_hit g.uniq hp
 exact .inl ⟨p, hp, rfl, e, by rw [e]; exact nonempty_of (g.some_ p hp)⟩
theorem empty_isEmpty : (⟨#[]⟩ : ByteArray).toList.isEmpty = true := by rw [ByteArray.toList_eq]; rfl
theorem read_text {l : NL} (g : NGood l) (n : Nat) (hn : n < 4294967296) : readOf l (textOf l n) = ((n : Int), 0) := by
 rcases name_cases g (n : Int) with ⟨p, hp, h2, h3, h4⟩ | ⟨h1, h2⟩
 · have e : textOf l n = p.1 := by unfold textOf; rw [if_neg (by rw [h4]; decide), h3]
   rw [e]
   unfold readOf
   rw [numOf_hit g hp]
   simp only [h2]
 · have e : textOf l n = strOfNums (textL n) := by unfold textOf; rw [h2, if_pos empty_isEmpty]
   have hp := parse_text n (by omega)
   rw [e]
   unfold readOf
   rw [numOf_none (fun p hp' he => by
    have := g.plain p hp'
    rw [he, nstr_data, hp] at this
    cases this)]
   simp only [nstr_data, hp]
   rw [if_neg]
   rintro (h | h)
   · omega
   · rw [h2, empty_isEmpty] at h; cases h
theorem text_read {l : NL} (g : NGood l) (s : ByteArray) : ((readOf l s).2 = 0 ∧ ∃ n : Nat, n < 4294967296 ∧ (readOf l s).1 = (n : Int) ∧ textOf l n = s) ∨ readOf l s = (0, 2) := by
 unfold readOf
 cases hv : numOf l s with
 | some v =>
  have hm := numOf_some hv
  have hr := g.range _ hm
  obtain ⟨n, hn⟩ := Int.eq_ofNat_of_zero_le hr.1
  refine .inl ⟨rfl, n, by have := hr.2; simp at hn; omega, hn, ?_⟩
  have e := nameOf_hit g.uniq hm
  simp only [] at e hn
  unfold textOf
  rw [← hn, e, if_neg (by rw [nonempty_of (g.some_ _ hm)]; decide)]
 | none =>
  cases hp : parseL s.data.toList with
  | none => exact .inr rfl
  | some n =>
   simp only []
   by_cases hc : 4294967296 ≤ n ∨ (nameOf l n).toList.isEmpty = false
   · rw [if_pos hc]; exact .inr rfl
   rw [if_neg hc]
   refine .inl ⟨rfl, n, by omega, rfl, ?_⟩
   unfold textOf
   have he : (nameOf l n).toList.isEmpty = true := by
    cases h : (nameOf l n).toList.isEmpty with
    | true => rfl
    | false => exact absurd (.inr h) hc
   rw [if_pos he]
   apply ba_ext
   rw [nstr_data]
   exact text_parse _ _ hp
theorem AL_mid (v : Int) (h1 : 327680 ≤ v) (h2 : v ≤ 331775) : ∀ p ∈ AL, p.2 ≠ v := by
 intro p hp
 unfold AL at hp
 simp at hp
 rcases hp with rfl | rfl | rfl | rfl <;> simp <;> omega
theorem err_not (x : ByteArray) : ∀ p ∈ AL, p.1 ≠ errPre ++ x := by
 intro p hp he
 have h0 : (errPre ++ x).data.toList.head? = some 101 := by simp [errPre, ByteArray.data_append]
 rw [← he] at h0
 unfold AL at hp
 simp at hp
 rcases hp with rfl | rfl | rfl | rfl <;> simp at h0
theorem pre_size (x : ByteArray) : (errPre ++ x).size = 6 + x.size := by simp [errPre, ByteArray.size_append]; rfl
theorem pre_take (x : ByteArray) : ((errPre ++ x).extract 0 6).toList = [101, 114, 114, 111, 114, 58] := by
 rw [Lib.extract_toList]; simp [errPre, ByteArray.data_append]
theorem pre_drop (x : ByteArray) : ((errPre ++ x).extract 6 (errPre ++ x).size).data.toList = x.data.toList := by
 rw [Lib.extract_data, pre_size]
 simp [errPre, ByteArray.data_append]
 exact List.take_of_length_le (by simp)
theorem pre_split (s : ByteArray) (h6 : ¬ s.size < 6) (hx : (s.extract 0 6).toList = [101, 114, 114, 111, 114, 58]) : errPre ++ (s.extract 6 s.size) = s := by
 apply ba_ext
 rw [ByteArray.data_append, Array.toList_append, Lib.extract_data]
 rw [Lib.extract_toList] at hx
 have e : errPre.data.toList = s.data.toList.take 6 := by rw [← show (s.data.toList.drop 0).take (6 - 0) = s.data.toList.take 6 from rfl, hx]; rfl
 have t : (s.data.toList.drop 6).take (s.size - 6) = s.data.toList.drop 6 := List.take_of_length_le (by simp)
 rw [e, t]
 exact List.take_append_drop 6 _
theorem act_cases (v : Nat) (hv : v < 4294967296) :
 (∃ p ∈ AL, p.2 = (v : Int) ∧ actOf v = (p.1, 0) ∧ p.1.data.toList ≠ []) ∨ (∃ d : Nat, d ≤ 4095 ∧ v = 327680 + d ∧ actOf v = (errPre ++ strOfNums (textL d), 0)) ∨ ((∀ p ∈ AL, p.2 ≠ (v : Int)) ∧ ¬ (327680 ≤ v ∧ v ≤ 331775) ∧ actOf v = (⟨#[]⟩, 1)) := by
 unfold actOf
 rcases name_cases good_AL (v : Int) with ⟨p, hp, h2, h3, h4⟩ | ⟨h1, h2⟩
 · left
   exact ⟨p, hp, h2, by rw [if_pos h4, h3], good_AL.some_ p hp⟩
 · right
   rw [if_neg (by rw [h2, empty_isEmpty]; decide)]
   by_cases hd : (v + 4294967296 - 327680) % 4294967296 ≤ 4095
   · left
     refine ⟨(v + 4294967296 - 327680) % 4294967296, hd, by omega, ?_⟩
     rw [if_pos hd]
   right
   refine ⟨h1, by omega, ?_⟩
   rw [if_neg hd]
theorem readAct_act (v : Nat) (hv : v < 4294967296) (h : (actOf v).2 = 0) : readAct (actOf v).1 = ((v : Int), 0) := by
 rcases act_cases v hv with ⟨p, hp, h2, h3, _⟩ | ⟨d, hd, hvd, h3⟩ | ⟨_, _, h3⟩
 · rw [h3]
   unfold readAct
   simp only []
   rw [numOf_hit good_AL hp]
   simp only [h2]
 · rw [h3]
   unfold readAct
   simp only []
   rw [numOf_none (err_not _)]
   simp only []
   rw [if_neg]
   · rw [pre_drop, nstr_data, parse_text d (by omega)]
     simp only []
     rw [if_neg (by omega)]
     congr 1; omega
   · rintro (h | h)
     · rw [pre_size] at h; omega
     · exact h (pre_take _)
 · rw [h3] at h; cases h
theorem act_readAct (s : ByteArray) : ((readAct s).2 = 0 ∧ ∃ v : Nat, v < 4294967296 ∧ (readAct s).1 = (v : Int) ∧ actOf v = (s, 0)) ∨ readAct s = (0, 2) := by
 unfold readAct
 cases hv : numOf AL s with
 | some v =>
  have hm := numOf_some hv
  have hr := good_AL.range _ hm
  obtain ⟨n, hn⟩ := Int.eq_ofNat_of_zero_le hr.1
  simp only [] at hn hr
  refine .inl ⟨rfl, n, by omega, hn, ?_⟩
  have e := nameOf_hit good_AL.uniq hm
  simp only [] at e
  unfold actOf
  rw [← hn, e, if_pos (nonempty_of (good_AL.some_ _ hm))]
 | none =>
  simp only []
  by_cases hc : s.size < 6 ∨ ¬ (s.extract 0 6).toList = [101, 114, 114, 111, 114, 58]
  · rw [if_pos hc]; exact .inr rfl
  rw [if_neg hc]
  cases hp : parseL (s.extract 6 s.size).data.toList with
  | none => exact .inr rfl
  | some n =>
   simp only []
   by_cases h95 : 4095 < n
   · rw [if_pos h95]; exact .inr rfl
   rw [if_neg h95]
   refine .inl ⟨rfl, 327680 + n, by omega, by simp, ?_⟩
   unfold actOf
   have hmiss := nameOf_miss (AL_mid ((327680 + n : Nat) : Int) (by omega) (by omega))
   rw [hmiss, if_neg (by rw [empty_isEmpty]; decide), show (327680 + n + 4294967296 - 327680) % 4294967296 = n by omega, if_pos (by omega)]
   have h6 : ¬ s.size < 6 := fun h => hc (.inl h)
   have hx : (s.extract 0 6).toList = [101, 114, 114, 111, 114, 58] := by
    rcases Classical.em ((s.extract 0 6).toList = [101, 114, 114, 111, 114, 58]) with h | h
    · exact h
    · exact absurd (.inr h) hc
   have ht : strOfNums (textL n) = s.extract 6 s.size := by
    apply ba_ext
    rw [nstr_data]
    exact text_parse _ _ hp
   rw [ht, pre_split s h6 hx]
end Go.Proofs.Ytekpbgmmogpbdaa.H
set_option maxRecDepth 100000
namespace Go.Proofs.Ytekpbgmmogpbdaa.H
open Go.RowKit Go.Proofs.Ytekpbgmmogpbdaa.P Go.Proofs.YtekpbgmmogpbdaaW.PrintWords Go.Proofs.YtekpbgmmogpbdaaW.PrintMore
theorem ref_textP (n : Nat) (h : n < 18446744073709551616) : H.hurdleref01_Text.f (n : Int) = some (strOfNums (textL n)) := by
 unfold H.hurdleref01_Text.f
 rw [if_pos (by unfold u64P; omega)]
 rfl
theorem ref_parseP (s : ByteArray) : H.hurdleref01_Parse.f s = some (match parseL s.data.toList with | some n => ((n : Int), true) | none => (0, false)) := rfl
def fsts (l : NL) : List ByteArray := l.map (·.1)
def snds (l : NL) : List Int := l.map (·.2)
theorem rd_snds (l : NL) (i : Nat) (p : ByteArray × Int) (h : l[i]? = some p) : rd (snds l) (i : Int) = p.2 := by
 unfold rd snds
 rw [Int.toNat_natCast, List.getD_eq_getElem?_getD, List.getElem?_map, h]
 rfl
theorem rd_fsts (l : NL) (i : Nat) (p : ByteArray × Int) (h : l[i]? = some p) : rdOf ByteArray.empty (fsts l) (i : Int) = p.1 := by
 unfold rdOf fsts
 rw [Int.toNat_natCast, List.getD_eq_getElem?_getD, List.getElem?_map, h]
 rfl
theorem wr1 (i : Nat) (h : i < 1000) : wrap64 ((i : Int) + 1) = ((i + 1 : Nat) : Int) := by unfold wrap64; omega
theorem ref_text_l0 (l : NL) (hl : l.length < 900) (n : Nat) (hn : n < 4294967296) (d : Nat) : ∀ (k i : Nat), i + d = l.length → d + 20 < k →
 hurdleref09_text.l0 k (fsts l) (snds l) (n : Int) (i : Int) = some (match (l.drop i).find? (fun p => p.2 == (n : Int)) with | some p => p.1 | none => strOfNums (textL n)) := by
 induction d with
 | zero =>
  intro k i hi hk
  obtain ⟨k, rfl⟩ : ∃ m, k = m + 1 := ⟨k - 1, by omega⟩
  simp only [hurdleref09_text.l0]
  rw [if_neg (by simp [fsts]; omega), List.drop_eq_nil_of_le (by omega), IntWalk.u64_in _ (by omega), ref_textP n (by omega)]
  rfl
 | succ d ih =>
  intro k i hi hk
  obtain ⟨k, rfl⟩ : ∃ m, k = m + 1 := ⟨k - 1, by omega⟩
  have hlt : i < l.length := by omega
  have hg : l[i]? = some l[i] := List.getElem?_eq_getElem hlt
  simp only [hurdleref09_text.l0]
  rw [if_pos (by simp [fsts]; omega), if_pos (by omega), if_pos (by simp [snds]; omega), rd_snds l i _ hg, rd_fsts l i _ hg, List.drop_eq_getElem_cons hlt, List.find?_cons]
  by_cases he : l[i].2 = (n : Int)
  · rw [if_pos he, beq_iff_eq.2 he]
  rw [if_neg he, beq_eq_false_iff_ne.2 he, wr1 i (by omega)]
  exact ih k (i + 1) (by omega) (by omega)
theorem ref_text_f (l : NL) (g : NGood l) (hl : l.length < 900) (n : Nat) (hn : n < 4294967296) (k : Nat) (hk : l.length + 20 < k) :
 hurdleref09_text.f k (fsts l) (snds l) (n : Int) = some (textOf l n) := by
 have h := ref_text_l0 l hl n hn l.length k 0 (by omega) hk
 have e : hurdleref09_text.f k (fsts l) (snds l) (n : Int) = hurdleref09_text.l0 k (fsts l) (snds l) (n : Int) ((0 : Nat) : Int) := rfl
 rw [e, h, List.drop_zero]
 unfold textOf nameOf
 cases hf : l.find? (fun p => p.2 == (n : Int)) with
 | none => simp only []; rw [if_pos empty_isEmpty]
 | some p => simp only []; rw [if_neg (by rw [nonempty_of (g.some_ p (List.mem_of_find?_eq_some hf))]; decide)]
theorem ref_read_l0 (l : NL) (g : NGood l) (hl : l.length < 900) (s : ByteArray) (d : Nat) : ∀ (k i : Nat), i + d = l.length → d + l.length + 70 < k → (∀ p ∈ l.take i, p.1 ≠ s) →
 hurdleref09_read.l0 k (fsts l) (snds l) s (i : Int) = some ((readOf l s).1, ((readOf l s).2 == 0)) := by
 induction d with
 | zero =>
  intro k i hi hk hno
  obtain ⟨k, rfl⟩ : ∃ m, k = m + 1 := ⟨k - 1, by omega⟩
  have hno' : ∀ p ∈ l, p.1 ≠ s := by rw [List.take_of_length_le (by omega)] at hno; exact hno
  simp only [hurdleref09_read.l0]
  rw [if_neg (by simp [fsts]; omega), ref_parseP s]
  unfold readOf
  rw [numOf_none hno']
  cases hp : parseL s.data.toList with
  | none => simp
  | some n =>
   have hn := parseL_lt hp
   simp only [Option.bind_some, if_true]
   by_cases hb : 4294967296 ≤ n
   · rw [if_pos (by omega), if_pos (.inl hb)]; rfl
   have e : (n : Int) % 4294967296 = (n : Int) := by omega
   rw [if_neg (by omega), e, ref_text_f l g hl n (by omega) k (by omega)]
   simp only [Option.bind_some]
   rcases name_cases g (n : Int) with ⟨p, hp', h2, h3, h4⟩ | ⟨h1, h2⟩
   · have ht : textOf l n = p.1 := by unfold textOf; rw [if_neg (by rw [h4]; decide), h3]
     rw [ht, if_neg (fun h => hno' p hp' (ba_ext' h)), if_pos (.inr h4)]
     rfl
   · have ht : textOf l n = strOfNums (textL n) := by unfold textOf; rw [h2, if_pos empty_isEmpty]
     rw [ht, if_pos (by rw [str_toList, text_parse _ _ hp, ByteArray.toList_eq]), if_neg]
     · rfl
     · rintro (h | h)
       · exact hb h
       · rw [h2, empty_isEmpty] at h; cases h
 | succ d ih =>
  intro k i hi hk hno
  obtain ⟨k, rfl⟩ : ∃ m, k = m + 1 := ⟨k - 1, by omega⟩
  have hlt : i < l.length := by omega
  have hg : l[i]? = some l[i] := List.getElem?_eq_getElem hlt
  simp only [hurdleref09_read.l0]
  rw [if_pos (by simp [fsts]; omega), if_pos (by omega), rd_fsts l i _ hg]
  by_cases he : l[i].1 = s
  · rw [if_pos (by rw [he]), if_pos (by simp [snds]; omega), rd_snds l i _ hg]
    unfold readOf
    have := numOf_hit g (List.getElem_mem hlt)
    rw [he] at this
    rw [this]
    rfl
  rw [if_neg (fun h => he (ba_ext' h)), wr1 i (by omega)]
  refine ih k (i + 1) (by omega) (by omega) ?_
  intro p hp
  rw [List.take_succ_eq_append_getElem hlt, List.mem_append] at hp
  rcases hp with hp | hp
  · exact hno p hp
  · simp at hp; subst hp; exact he
theorem ref_read_f (l : NL) (g : NGood l) (hl : l.length < 900) (s : ByteArray) (k : Nat) (hk : 2 * l.length + 70 < k) :
 hurdleref09_read.f k (fsts l) (snds l) s = some ((readOf l s).1, ((readOf l s).2 == 0)) := by
 have h := ref_read_l0 l g hl s l.length k 0 (by omega) (by omega) (by simp)
 exact h
theorem ref_machines : hurdleref09_Machines.f = some (fsts ML, snds ML) := rfl
theorem ref_machine (n : Nat) (hn : n < 4294967296) : hurdleref09_Machine.f 200 (n : Int) = some (textOf ML n) := by
 unfold hurdleref09_Machine.f
 rw [ref_machines]
 simp only [Option.bind_some]
 rw [ref_text_f ML good_ML (by decide) n hn 200 (by decide)]
 rfl
theorem ref_readMachine (s : ByteArray) (k : Nat) (hk : 200 ≤ k) : hurdleref09_ReadMachine.f k s = some ((readOf ML s).1, ((readOf ML s).2 == 0)) := by
 unfold hurdleref09_ReadMachine.f
 rw [ref_machines]
 simp only [Option.bind_some]
 rw [ref_read_f ML good_ML (by decide) s k (by have : ML.length = 4 := rfl
                                               omega)]
 rfl
def callNames : List ByteArray := [⟨#[114, 101, 97, 100]⟩, ⟨#[119, 114, 105, 116, 101]⟩, ⟨#[111, 112, 101, 110]⟩, ⟨#[99, 108, 111, 115, 101]⟩, ⟨#[101, 120, 105, 116]⟩, ⟨#[102, 111, 114, 107]⟩, ⟨#[107, 105, 108, 108]⟩, ⟨#[109, 109, 97, 112]⟩]
def callRows : List (List Int) := [[0, 1, 2, 3, 60, 57, 62, 9], [3, 4, 5, 6, 1, 2, 37, 90], [63, 64, 1000000, 57, 93, 1000000, 129, 222], [3, 4, 5, 6, 1, 2, 37, 1000000]]
theorem calls_l1_miss (a : Int) (x9 : List ByteArray) (x10 : List Int) (i : Nat) (hi : i < 4) (ha : rd (snds ML) (i : Int) ≠ a) (d : Nat) : ∀ (k j : Nat), j + d = 8 → d < k →
 hurdleref09_Calls.l1 k a callNames 1000000 callRows (snds ML) x9 x10 (i : Int) (j : Int) = hurdleref09_Calls.l0 (k - d - 1) a callNames 1000000 callRows (snds ML) x9 x10 ((i + 1 : Nat) : Int) := by
 induction d with
 | zero =>
  intro k j hj hk
  obtain ⟨k, rfl⟩ : ∃ m, k = m + 1 := ⟨k - 1, by omega⟩
  simp only [hurdleref09_Calls.l1]
  rw [if_neg (by omega), wr1 i (by omega)]
  rfl
 | succ d ih =>
  intro k j hj hk
  obtain ⟨k, rfl⟩ : ∃ m, k = m + 1 := ⟨k - 1, by omega⟩
  simp only [hurdleref09_Calls.l1]
  have h4 : (snds ML).length = 4 := rfl
  rw [if_pos (by omega), if_pos (by omega), if_pos (by rw [h4]; omega), if_neg ha, wr1 j (by omega), ih k (j + 1) (by omega) (by omega)]
  rw [show k + 1 - (d + 1) - 1 = k - d - 1 by omega]
theorem calls_l0_miss (a : Int) (x9 : List ByteArray) (x10 : List Int) (i k : Nat) (hi : i < 4) (hk : 10 ≤ k) (ha : rd (snds ML) (i : Int) ≠ a) :
 hurdleref09_Calls.l0 k a callNames 1000000 callRows (snds ML) x9 x10 (i : Int) = hurdleref09_Calls.l0 (k - 10) a callNames 1000000 callRows (snds ML) x9 x10 ((i + 1 : Nat) : Int) := by
 obtain ⟨k, rfl⟩ : ∃ m, k = m + 1 := ⟨k - 1, by omega⟩
 conv => lhs; simp only [hurdleref09_Calls.l0]
 rw [if_pos (by omega)]
 have := calls_l1_miss a x9 x10 i hi ha 8 k 0 (by omega) (by omega)
 rw [show ((0 : Nat) : Int) = 0 from rfl] at this
 rw [this, show k - 8 - 1 = k + 1 - 10 by omega]
theorem calls_f_eq (a : Int) (k : Nat) : hurdleref09_Calls.f k a = hurdleref09_Calls.l0 k a callNames 1000000 callRows (snds ML) [] [] ((0 : Nat) : Int) := by
 unfold hurdleref09_Calls.f
 rw [ref_machines]
 rfl
theorem rd0 : rd (snds ML) ((0 : Nat) : Int) = 3221225534 := rfl
theorem rd1 : rd (snds ML) ((1 : Nat) : Int) = 1073741827 := rfl
theorem rd2 : rd (snds ML) ((2 : Nat) : Int) = 3221225655 := rfl
theorem rd3 : rd (snds ML) ((3 : Nat) : Int) = 1073741864 := rfl
theorem calls_l0_end (a : Int) (k : Nat) (x9 : List ByteArray) (x10 : List Int) : hurdleref09_Calls.l0 (k + 1) a callNames 1000000 callRows (snds ML) x9 x10 ((3 + 1 : Nat) : Int) = some (x9, x10) := by
 simp only [hurdleref09_Calls.l0]
 rw [if_neg (by omega)]
theorem calls_none_k (a : Int) (h0 : a ≠ 3221225534) (h1 : a ≠ 1073741827) (h2 : a ≠ 3221225655) (h3 : a ≠ 1073741864) (k : Nat) : hurdleref09_Calls.f (k + 1 + 40) a = some ([], []) := by
 rw [calls_f_eq, calls_l0_miss a _ _ 0 _ (by omega) (by omega) (by rw [rd0]; exact fun h => h0 h.symm),
  calls_l0_miss a _ _ 1 _ (by omega) (by omega) (by rw [rd1]; exact fun h => h1 h.symm),
  calls_l0_miss a _ _ 2 _ (by omega) (by omega) (by rw [rd2]; exact fun h => h2 h.symm),
  calls_l0_miss a _ _ 3 _ (by omega) (by omega) (by rw [rd3]; exact fun h => h3 h.symm),
  show k + 1 + 40 - 10 - 10 - 10 - 10 = k + 1 by omega, calls_l0_end]
theorem calls_none_f (a : Int) (h0 : a ≠ 3221225534) (h1 : a ≠ 1073741827) (h2 : a ≠ 3221225655) (h3 : a ≠ 1073741864) : hurdleref09_Calls.f 60 a = some ([], []) :=
 calls_none_k a h0 h1 h2 h3 19
theorem ref_calls (a : Int) : hurdleref09_Calls.f 60 a = some (fsts (callsOf a), snds (callsOf a)) := by
 unfold callsOf
 split
 · rename_i h; subst h; kernel_rfl
 · rename_i h0
   split
   · rename_i h; subst h; kernel_rfl
   · rename_i h1
     split
     · rename_i h; subst h; kernel_rfl
     · rename_i h2
       split
       · rename_i h; subst h; kernel_rfl
       · rename_i h3; exact calls_none_f a h0 h1 h2 h3
theorem calls_len (a : Int) : (callsOf a).length ≤ 8 := by
 unfold callsOf
 split
 · decide
 · split
   · decide
   · split
     · decide
     · split
       · decide
       · simp
theorem ref_calls_k (a : Int) (k : Nat) (hk : 60 ≤ k) : hurdleref09_Calls.f k a = some (fsts (callsOf a), snds (callsOf a)) :=
 at_rounds (g := fun k => hurdleref09_Calls.f k a) (hurdleref09_Calls.mono a) hk (ref_calls a)
theorem ref_call (a : Int) (n : Nat) (hn : n < 4294967296) : hurdleref09_Call.f 200 a (n : Int) = some (textOf (callsOf a) n) := by
 unfold hurdleref09_Call.f
 have hl := calls_len a
 rw [ref_calls_k a 200 (by omega)]
 simp only [Option.bind_some]
 rw [ref_text_f _ (good_calls a) (by omega) n hn 200 (by omega)]
 rfl
theorem ref_readCall (a : Int) (s : ByteArray) (k : Nat) (hk : 200 ≤ k) : hurdleref09_ReadCall.f k a s = some ((readOf (callsOf a) s).1, ((readOf (callsOf a) s).2 == 0)) := by
 unfold hurdleref09_ReadCall.f
 have hl := calls_len a
 rw [ref_calls_k a k (by omega)]
 simp only [Option.bind_some]
 rw [ref_read_f _ (good_calls a) (by omega) s k (by omega)]
 rfl
theorem ref_action (v : Nat) (hv : v < 4294967296) (k : Nat) (hk : 30 ≤ k) : hurdleref09_Action.f k (v : Int) = some (actOf v).1 := by
 obtain ⟨k, rfl⟩ : ∃ m, k = m + 1 := ⟨k - 1, by omega⟩
 unfold hurdleref09_Action.f
 have hmid : ∀ b : Bool, b = true ∧ 327680 ≤ v ∧ v ≤ 331775 ∨ b = false ∧ ¬ (327680 ≤ v ∧ v ≤ 331775) → hurdleref09_Action.j0 (k + 1) (v : Int) b = some (actOf v).1 := by
  intro b hb
  simp only [hurdleref09_Action.j0]
  rcases act_cases v hv with ⟨p, hp, h2, h3, _⟩ | ⟨d, hd, hvd, h3⟩ | ⟨hm, hmm, h3⟩
  · rw [h3]
    have hf : b = false := by
     rcases hb with ⟨_, h⟩ | ⟨h, _⟩
     · exact absurd h2 (AL_mid (v : Int) (by omega) (by omega) p hp)
     · exact h
    subst hf
    rw [if_neg (by decide)]
    rw [← h2]
    unfold AL at hp
    simp only [List.mem_cons, List.not_mem_nil, or_false] at hp
    rcases hp with rfl | rfl | rfl | rfl
    · rw [if_pos rfl]
    · rw [if_neg (by decide), if_pos rfl]
    · rw [if_neg (by decide), if_neg (by decide), if_pos rfl]
    · rw [if_neg (by decide), if_neg (by decide), if_neg (by decide), if_pos rfl]
  · rw [h3]
    have ht : b = true := by
     rcases hb with ⟨h, _⟩ | ⟨_, h⟩
     · exact h
     · exact absurd ⟨by omega, by omega⟩ h
    subst ht
    rw [if_pos rfl, show ((v : Int) - 327680) % 4294967296 = ((d : Nat) : Int) by omega, ref_textP d (by omega)]
    simp only [Option.bind_some]
    have hs := textL_size d (by omega)
    rw [if_pos (by omega)]
    rfl
  · rw [h3]
    have hf : b = false := by
     rcases hb with ⟨_, h⟩ | ⟨h, _⟩
     · exact absurd h hmm
     · exact h
    subst hf
    have m0 := hm (⟨#[107, 105, 108, 108]⟩, 0) (by unfold AL; simp)
    have m1 := hm (⟨#[116, 114, 97, 112]⟩, 196608) (by unfold AL; simp)
    have m2 := hm (⟨#[108, 111, 103]⟩, 2147221504) (by unfold AL; simp)
    have m3 := hm (⟨#[97, 108, 108, 111, 119]⟩, 2147418112) (by unfold AL; simp)
    rw [if_neg (by decide), if_neg (fun h => m0 h.symm), if_neg (fun h => m1 h.symm), if_neg (fun h => m2 h.symm), if_neg (fun h => m3 h.symm)]
 by_cases h1 : (v : Int) ≥ 327680
 rotate_left
 · rw [if_neg h1]; exact hmid false (.inr ⟨rfl, by omega⟩)
 rw [if_pos h1]
 by_cases h2 : (v : Int) ≤ 331775
 · rw [decide_eq_true h2]; exact hmid true (.inl ⟨rfl, by omega, by omega⟩)
 rw [decide_eq_false h2]; exact hmid false (.inr ⟨rfl, by omega⟩)
end Go.Proofs.Ytekpbgmmogpbdaa.H
set_option maxRecDepth 100000
namespace Go.Proofs.Ytekpbgmmogpbdaa.H
open Go.RowKit Go.Proofs.YtekpbgmmogpbdaaW.PrintWords
def TL (n : Nat) : List UInt8 := u8s (textL n)
def WL (k : Nat) : List UInt8 := (wordK k).data.toList
def CT (a k m v : Nat) : List UInt8 := [97, UInt8.ofNat (48 + a)] ++ 32 :: (TL m ++ 32 :: (WL k ++ 32 :: TL v))
theorem condText_list (a k m v : Nat) : (condText a k (m : Int) (v : Int)).data.toList = CT a k m v := by
 unfold condText CT TL WL textB digB
 simp [ByteArray.data_append, strOfNums_data, u8s]
theorem hexGo_no32 (l : List UInt8) : ∀ n v, hexGo l n = some v → (32 : UInt8) ∉ l := by
 induction l with
 | nil => intro n v _; simp
 | cons c l ih =>
  intro n v h hm
  unfold hexGo at h
  rcases List.mem_cons.1 hm with e | hm
  · subst e
    rw [show hexd (32 : UInt8).toNat = none by decide] at h
    simp at h
  · cases hd : hexd c.toNat with
    | none => rw [hd] at h; simp at h
    | some d => rw [hd] at h; exact ih _ _ h hm
theorem parse_no32 {l : List UInt8} {v : Nat} (h : parseL l = some v) : (32 : UInt8) ∉ l := by
 unfold parseL at h
 split at h
 · rename_i hh
   intro hm
   rw [← List.take_append_drop 2 l, hh.2.2.1] at hm
   rcases List.mem_append.1 hm with hm | hm
   · simp at hm
   · exact hexGo_no32 _ _ _ h hm
 · simp at h
theorem TL_no32 (n : Nat) (h : n < 18446744073709551616) : (32 : UInt8) ∉ TL n := parse_no32 (parse_text n h)
theorem cut_of (A R : List UInt8) (h : (32 : UInt8) ∉ A) : cutL (A ++ 32 :: R) = (A, R) := by
 induction A with
 | nil => simp [cutL]
 | cons c A ih =>
  have h1 : c ≠ 32 := fun e => h (e ▸ List.mem_cons_self)
  have := ih (fun hm => h (List.mem_cons_of_mem _ hm))
  simp [cutL, h1, this]
theorem cut_parts (l : List UInt8) : ((32 : UInt8) ∉ l ∧ cutL l = (l, [])) ∨ ∃ A R, l = A ++ 32 :: R ∧ (32 : UInt8) ∉ A ∧ cutL l = (A, R) := by
 induction l with
 | nil => exact .inl ⟨by simp, rfl⟩
 | cons c l ih =>
  by_cases hc : c = 32
  · subst hc
    exact .inr ⟨[], l, rfl, by simp, by simp [cutL]⟩
  rcases ih with ⟨h1, h2⟩ | ⟨A, R, h1, h2, h3⟩
  · refine .inl ⟨fun hm => ?_, by simp [cutL, hc, h2]⟩
    rcases List.mem_cons.1 hm with e | hm
    · exact hc e.symm
    · exact h1 hm
  · refine .inr ⟨c :: A, R, by rw [h1]; rfl, fun hm => ?_, by simp [cutL, hc, h3]⟩
    rcases List.mem_cons.1 hm with e | hm
    · exact hc e.symm
    · exact h2 hm
theorem WL_no32 (k : Nat) (hk : k < 6) : (32 : UInt8) ∉ WL k := by
 rcases (by omega : k = 0 ∨ k = 1 ∨ k = 2 ∨ k = 3 ∨ k = 4 ∨ k = 5) with rfl | rfl | rfl | rfl | rfl | rfl <;> decide
theorem wordIdx_WL (k : Nat) (hk : k < 6) : wordIdx (WL k) = some k := by
 rcases (by omega : k = 0 ∨ k = 1 ∨ k = 2 ∨ k = 3 ∨ k = 4 ∨ k = 5) with rfl | rfl | rfl | rfl | rfl | rfl <;> decide
theorem wordIdx_some {l : List UInt8} {k : Nat} (h : wordIdx l = some k) : k < 6 ∧ l = WL k := by
 unfold wordIdx at h
 rw [List.find?_range_eq_some] at h
 exact ⟨by simpa using h.2.1, (by simpa using h.1 : (wordK k).data.toList = l).symm⟩
theorem wordIdx_nil : wordIdx [] = none := by decide
theorem arg_digit (a : Nat) (ha : a < 6) : argOf [97, UInt8.ofNat (48 + a)] = some a := by
 rcases (by omega : a = 0 ∨ a = 1 ∨ a = 2 ∨ a = 3 ∨ a = 4 ∨ a = 5) with rfl | rfl | rfl | rfl | rfl | rfl <;> rfl
theorem argOf_some {l : List UInt8} {a : Nat} (h : argOf l = some a) : a < 6 ∧ l = [97, UInt8.ofNat (48 + a)] := by
 unfold argOf at h
 split at h
 · rename_i x d
   split at h
   · rename_i hh
     have := Option.some.inj h
     subst this
     refine ⟨by omega, ?_⟩
     rw [show 48 + (d.toNat - 48) = d.toNat by omega, UInt8.ofNat_toNat]
     congr 1
     exact UInt8.toNat_inj.1 hh.1
   · simp at h
 · simp at h
theorem arg_no32 (a : Nat) (ha : a < 6) : (32 : UInt8) ∉ [97, UInt8.ofNat (48 + a)] := by
 rcases (by omega : a = 0 ∨ a = 1 ∨ a = 2 ∨ a = 3 ∨ a = 4 ∨ a = 5) with rfl | rfl | rfl | rfl | rfl | rfl <;> decide
theorem condParse_text (a k m v : Nat) (ha : a < 6) (hk : k < 6) (hm : m < 18446744073709551616) (hv : v < 18446744073709551616) : condParse (CT a k m v) = some (a, k, m, v) := by
 unfold condParse CT
 rw [cut_of _ _ (arg_no32 a ha), cut_of _ _ (TL_no32 m hm), cut_of _ _ (WL_no32 k hk)]
 unfold condOf
 rw [arg_digit a ha, wordIdx_WL k hk]
 unfold TL
 rw [parse_text m hm, parse_text v hv]
theorem condOf_some {A M C V : List UInt8} {x : Nat × Nat × Nat × Nat} (h : condOf A M C V = some x) : argOf A = some x.1 ∧ wordIdx C = some x.2.1 ∧ parseL M = some x.2.2.1 ∧ parseL V = some x.2.2.2 := by
 unfold condOf at h
 split at h
 · rename_i d x' y k h1 h2 h3 h4
   have := Option.some.inj h
   subst this
   exact ⟨h1, h4, h2, h3⟩
 · simp at h
theorem text_condParse {l : List UInt8} {a k m v : Nat} (h : condParse l = some (a, k, m, v)) : l = CT a k m v ∧ a < 6 ∧ k < 6 ∧ m < 18446744073709551616 ∧ v < 18446744073709551616 := by
 unfold condParse at h
 obtain ⟨h1, h2, h3, h4⟩ := condOf_some h
 obtain ⟨ha, e1⟩ := argOf_some h1
 obtain ⟨hk, e3⟩ := wordIdx_some h2
 have e2 := text_parse _ _ h3
 have e4 := text_parse _ _ h4
 have hm := parseL_lt h3
 have hv := parseL_lt h4
 refine ⟨?_, ha, hk, hm, hv⟩
 unfold CT TL
 rw [e2, e4, ← e1, ← e3]
 rcases cut_parts l with ⟨_, c1⟩ | ⟨A, R, l1, _, c1⟩
 · rw [c1] at h3; simp [cutL, parseL] at h3
 · rw [c1] at h2 h3 h4 ⊢
   rcases cut_parts R with ⟨_, c2⟩ | ⟨B, R2, l2, _, c2⟩
   · rw [c2] at h2; simp [cutL, wordIdx_nil] at h2
   · rw [c2] at h2 h4 ⊢
     rcases cut_parts R2 with ⟨_, c3⟩ | ⟨D, R3, l3, _, c3⟩
     · rw [c3] at h4; simp [cutL, parseL] at h4
     · rw [c3, l1, l2, l3]
end Go.Proofs.Ytekpbgmmogpbdaa.H
set_option maxRecDepth 100000
namespace Go.Proofs.Ytekpbgmmogpbdaa.H
open Go.RowKit Go.Proofs.YtekpbgmmogpbdaaW.PrintWords
def hi (l : List UInt8) : Prop := ∀ c ∈ l, 33 ≤ c.toNat
theorem hi.no32 {l : List UInt8} (h : hi l) : (32 : UInt8) ∉ l := fun hm => by have := h _ hm; revert this; decide
theorem hi.no10 {l : List UInt8} (h : hi l) : (10 : UInt8) ∉ l := fun hm => by have := h _ hm; revert this; decide
theorem hi.app {a b : List UInt8} (h : hi a) (k : hi b) : hi (a ++ b) := fun c hc => (List.mem_append.1 hc).elim (h c) (k c)
theorem hexGo_hi (l : List UInt8) : ∀ n v, hexGo l n = some v → hi l := by
 induction l with
 | nil => intro n v _ c hc; simp at hc
 | cons x l ih =>
  intro n v h c hc
  unfold hexGo at h
  cases hd : hexd x.toNat with
  | none => rw [hd] at h; simp at h
  | some d =>
   rw [hd] at h
   rcases List.mem_cons.1 hc with e | hc
   · subst e
     unfold hexd at hd
     split at hd
     · omega
     · split at hd
       · omega
       · simp at hd
   · exact ih _ _ h c hc
theorem parse_hi {l : List UInt8} {v : Nat} (h : parseL l = some v) : hi l := by
 unfold parseL at h
 split at h
 · rename_i hh
   intro c hc
   rw [← List.take_append_drop 2 l, hh.2.2.1] at hc
   rcases List.mem_append.1 hc with hm | hm
   · simp at hm; rcases hm with rfl | rfl <;> decide
   · exact hexGo_hi _ _ _ h c hm
 · simp at h
theorem TL_hi (n : Nat) (h : n < 18446744073709551616) : hi (TL n) := parse_hi (parse_text n h)
theorem WL_hi (k : Nat) : hi (WL k) := by
 unfold WL wordK
 split <;> (intro c hc; revert c; decide)
theorem arg_hi (a : Nat) (ha : a < 6) : hi [97, UInt8.ofNat (48 + a)] := by
 rcases (by omega : a = 0 ∨ a = 1 ∨ a = 2 ∨ a = 3 ∨ a = 4 ∨ a = 5) with rfl | rfl | rfl | rfl | rfl | rfl <;> (intro c hc; revert c; decide)
theorem ML_hi : ∀ p ∈ ML, hi p.1.data.toList := by unfold ML hi; decide
theorem AL_hi : ∀ p ∈ AL, hi p.1.data.toList := by unfold AL hi; decide
theorem calls_hi (a : Int) : ∀ p ∈ callsOf a, hi p.1.data.toList := by
 unfold callsOf
 split
 · unfold Cx64 hi; decide
 · split
   · unfold Cx86 hi; decide
   · split
     · unfold Ca64 hi; decide
     · split
       · unfold Carm hi; decide
       · intro p hp; simp at hp
theorem textOf_hi {l : NL} (g : NGood l) (hl : ∀ p ∈ l, hi p.1.data.toList) (n : Nat) (hn : n < 4294967296) : hi (textOf l n).data.toList := by
 unfold textOf
 rcases name_cases g (n : Int) with ⟨p, hp, h2, h3, h4⟩ | ⟨h1, h2⟩
 · rw [if_neg (by rw [h4]; decide), h3]; exact hl p hp
 · rw [if_pos (by rw [h2]; exact empty_isEmpty), nstr_data]; exact TL_hi n (by omega)
theorem act_hi (v : Nat) (hv : v < 4294967296) : hi (actOf v).1.data.toList := by
 rcases act_cases v hv with ⟨p, hp, h2, h3, h4⟩ | ⟨d, hd, h2, h3⟩ | ⟨h1, h2, h3⟩
 · rw [h3]; exact AL_hi p hp
 · rw [h3]
   rw [ba_add, nstr_data]
   exact hi.app (by unfold errPre hi; decide) (TL_hi d (by omega))
 · rw [h3]; intro c hc; simp at hc
def jn (c : UInt8) : List (List UInt8) → List UInt8
 | [] => []
 | [a] => a
 | a :: b :: r => a ++ c :: jn c (b :: r)
theorem jn_cons (c : UInt8) (a : List UInt8) (r : List (List UInt8)) (h : r ≠ []) : jn c (a :: r) = a ++ c :: jn c r := by
 cases r with
 | nil => exact absurd rfl h
 | cons b r => rfl
theorem jn_spl (c : UInt8) (l : List UInt8) : jn c (spl c l) = l := by
 induction l with
 | nil => rfl
 | cons x l ih =>
  simp only [spl]
  split
  · rename_i e
    rw [jn_cons _ _ _ (spl_ne c l), ih, e]; rfl
  · split
    · rename_i a r h
      rw [h] at ih
      cases r with
      | nil => simp only [jn] at ih ⊢; rw [ih]
      | cons b r => simp only [jn] at ih ⊢; rw [← ih]; rfl
    · rename_i h; exact absurd h (spl_ne c l)
theorem spl_jn (c : UInt8) (ws : List (List UInt8)) (hne : ws ≠ []) (h : ∀ w ∈ ws, c ∉ w) : spl c (jn c ws) = ws := by
 induction ws with
 | nil => exact absurd rfl hne
 | cons a r ih =>
  cases r with
  | nil => exact spl_none c a (h a (by simp))
  | cons b r =>
   simp only [jn]
   rw [spl_cons c a _ (h a (by simp)), ih (by simp) (fun w hw => h w (by simp at hw ⊢; right; exact hw))]
theorem spl_mem (c : UInt8) (l : List UInt8) : ∀ w ∈ spl c l, c ∉ w := by
 induction l with
 | nil => intro w hw; simp [spl] at hw; simp [hw]
 | cons x l ih =>
  intro w hw
  simp only [spl] at hw
  split at hw
  · rcases List.mem_cons.1 hw with rfl | hw
    · simp
    · exact ih w hw
  · rename_i e
    split at hw
    · rename_i a r h
      rcases List.mem_cons.1 hw with rfl | hw
      · intro hm
        rcases List.mem_cons.1 hm with e2 | hm
        · exact e e2.symm
        · exact ih a (by rw [h]; simp) hm
      · exact ih w (by rw [h]; simp [hw])
    · simp at hw; subst hw; simp [Ne.symm e]
def condOk (c : P.S61) : Prop := rightB c.f0 c.f1 = true ∧ u64P c.f2 ∧ u64P c.f3
def dfOk (v : Int) : Prop := u32P v ∧ (actOf v.toNat).2 = 0
def ruleOk (x : P.S40) : Prop := u32P x.f0 ∧ u32P x.f1 ∧ dfOk x.f3 ∧ x.f2.length ≤ 4 ∧ ∀ c ∈ x.f2, condOk c
def polOk (L : List P.S40) (df : Int) : Prop := L.length ≤ 64 ∧ (∀ x ∈ L, ruleOk x) ∧ dfOk df
def condWs (c : P.S61) : List (List UInt8) := [[97, UInt8.ofNat (48 + c.f0.toNat)], TL c.f2.toNat, WL c.f1.toNat, TL c.f3.toNat]
def condsW : List UInt8 → List P.S61 → List (List UInt8)
 | _, [] => []
 | j, c :: cs => j :: (condWs c ++ condsW [97, 110, 100] cs)
def machL (x : P.S40) : List UInt8 := (textOf ML x.f0.toNat).data.toList
def callL (x : P.S40) : List UInt8 := (textOf (callsOf x.f0) x.f1.toNat).data.toList
def actL (v : Int) : List UInt8 := (actOf v.toNat).1.data.toList
def ruleWs (x : P.S40) : List (List UInt8) := machL x :: callL x :: actL x.f3 :: condsW [105, 102] x.f2
def ruleT (x : P.S40) : List UInt8 := jn 32 ([111, 110] :: ruleWs x)
def dfltT (v : Int) : List UInt8 := jn 32 [[100, 101, 102, 97, 117, 108, 116], actL v]
def polT (L : List P.S40) (df : Int) : List UInt8 := (L.flatMap fun x => ruleT x ++ [10]) ++ (dfltT df ++ [10])
theorem right_of {c : P.S61} (h : condOk c) : c.f0.toNat < 6 ∧ c.f1.toNat < 6 ∧ c.f2.toNat < 18446744073709551616 ∧ c.f3.toNat < 18446744073709551616 ∧ S61of (c.f0.toNat, c.f1.toNat, c.f2.toNat, c.f3.toNat) = c := by
 obtain ⟨h1, h2, h3⟩ := h
 have := (rightB_iff c.f0 c.f1).1 h1
 unfold u64P at h2 h3
 refine ⟨by omega, by omega, by omega, by omega, ?_⟩
 cases c with
 | mk a b m v =>
  simp only [S61of, P.S61.mk.injEq] at *
  omega
theorem joinC_jn (a b c d : List UInt8) : joinC a b c d = jn 32 [a, b, c, d] := rfl
theorem condsV_words : ∀ (cs : List P.S61) (j : List UInt8), (∀ c ∈ cs, condOk c) → condsV j (condsW j cs) = some cs := by
 intro cs
 induction cs with
 | nil => intro j _; rfl
 | cons c cs ih =>
  intro j h
  obtain ⟨h1, h2, h3, h4, h5⟩ := right_of (h c (by simp))
  have hp := condParse_text c.f0.toNat c.f1.toNat c.f2.toNat c.f3.toNat h1 h2 h3 h4
  simp only [condsW, condWs, List.cons_append, List.nil_append, condsV, if_true]
  rw [show joinC [97, UInt8.ofNat (48 + c.f0.toNat)] (TL c.f2.toNat) (WL c.f1.toNat) (TL c.f3.toNat) = CT c.f0.toNat c.f1.toNat c.f2.toNat c.f3.toNat from rfl, hp]
  simp only []
  rw [ih _ (fun c hc => h c (by simp [hc])), h5]
  rfl
theorem words_condsV : ∀ (n : Nat) (ws : List (List UInt8)) (j : List UInt8) (cs : List P.S61), ws.length ≤ n → (∀ w ∈ ws, (32 : UInt8) ∉ w) → condsV j ws = some cs → ws = condsW j cs ∧ ∀ c ∈ cs, condOk c := by
 intro n
 induction n with
 | zero =>
  intro ws j cs hn _ h
  cases ws with
  | nil => simp [condsV] at h; subst h; exact ⟨rfl, by simp⟩
  | cons => simp at hn
 | succ n ih =>
  intro ws j cs hn hw h
  rcases ws with _ | ⟨w, _ | ⟨a, _ | ⟨b, _ | ⟨c, _ | ⟨d, ws⟩⟩⟩⟩⟩
  · simp [condsV] at h; subst h; exact ⟨rfl, by simp⟩
  · simp [condsV] at h
  · simp [condsV] at h
  · simp [condsV] at h
  · simp [condsV] at h
  · simp only [condsV] at h
    split at h
    · rename_i hj
      cases hc : condParse (joinC a b c d) with
      | none => rw [hc] at h; simp at h
      | some x =>
       rw [hc] at h
       simp only [Option.map_eq_some_iff] at h
       obtain ⟨cs', h2, rfl⟩ := h
       obtain ⟨pa, pk, pm, pv⟩ := x
       obtain ⟨hl, ha, hk, hm, hv⟩ := text_condParse hc
       obtain ⟨i1, i2⟩ := ih ws _ cs' (by simp at hn; omega) (fun w hw' => hw w (by simp [hw'])) h2
       have hsp := congrArg (spl 32) hl
       rw [joinC_jn, show CT pa pk pm pv = jn 32 [[97, UInt8.ofNat (48 + pa)], TL pm, WL pk, TL pv] from rfl,
        spl_jn 32 _ (by simp) (by intro w hw'; exact hw w (by simp at hw' ⊢; rcases hw' with h | h | h | h <;> simp [h])),
        spl_jn 32 _ (by simp) (by
         intro w hw'
         simp only [List.mem_cons, List.not_mem_nil, or_false] at hw'
         rcases hw' with rfl | rfl | rfl | rfl
         · exact (arg_hi pa ha).no32
         · exact (TL_hi pm hm).no32
         · exact (WL_hi pk).no32
         · exact (TL_hi pv hv).no32)] at hsp
       simp only [List.cons.injEq, and_true] at hsp
       obtain ⟨e1, e2, e3, e4⟩ := hsp
       refine ⟨?_, ?_⟩
       · simp only [condsW, condWs, S61of, Int.toNat_natCast]
         rw [← i1, e1, e2, e3, e4, hj]; rfl
       · intro c' hc'
         rcases List.mem_cons.1 hc' with rfl | hc'
         · exact ⟨(rightB_iff _ _).2 (by simp only [S61of]; omega), by simp only [S61of, u64P]; omega, by simp only [S61of, u64P]; omega⟩
         · exact i2 c' hc'
    · simp at h
theorem ofB (s : ByteArray) : ofBytes s.data.toList = s := ofBytes_data s
theorem toN {v : Int} (h : u32P v) : v.toNat < 4294967296 ∧ ((v.toNat : Nat) : Int) = v := by unfold u32P at h; omega
theorem ruleV_words (x : P.S40) (h : ruleOk x) : ruleV (ruleWs x) = some x := by
 obtain ⟨h0, h1, ⟨h3, h3'⟩, h4, h5⟩ := h
 obtain ⟨n0, e0⟩ := toN h0
 obtain ⟨n1, e1⟩ := toN h1
 obtain ⟨n3, e3⟩ := toN h3
 have r0 := read_text good_ML x.f0.toNat n0
 have r1 := read_text (good_calls x.f0) x.f1.toNat n1
 have r3 := readAct_act x.f3.toNat n3 h3'
 simp only [ruleWs, machL, callL, actL, ruleV, ofB, r0, r3]
 rw [e0, r1, e3, e1]
 simp only [and_self, if_true, condsV_words _ _ h5, h4]
theorem words_ruleV {ws : List (List UInt8)} {x : P.S40} (hw : ∀ w ∈ ws, (32 : UInt8) ∉ w) (h : ruleV ws = some x) : ws = ruleWs x ∧ ruleOk x := by
 rcases ws with _ | ⟨m, _ | ⟨c, _ | ⟨a, ws⟩⟩⟩ <;> try (simp [ruleV] at h; done)
 simp only [ruleV] at h
 split at h
 · rename_i hok
   obtain ⟨k1, k2, k3⟩ := hok
   rcases text_read good_ML (ofBytes m) with ⟨_, n, hn, en, tn⟩ | h2
   · rw [en] at h k2
     rcases text_read (good_calls (n : Int)) (ofBytes c) with ⟨_, n2, hn2, en2, tn2⟩ | h2
     · rw [en2] at h
       rcases act_readAct (ofBytes a) with ⟨_, v, hv, ev, tv⟩ | h2
       · rw [ev] at h
         cases hc : condsV [105, 102] ws with
         | none => rw [hc] at h; simp at h
         | some cs =>
          rw [hc] at h
          simp only [] at h
          split at h
          · rename_i hl
            injection h with h
            subst h
            obtain ⟨i1, i2⟩ := words_condsV _ ws _ cs (Nat.le_refl _) (fun w hw' => hw w (by simp [hw'])) hc
            refine ⟨?_, by unfold u32P; simp only []; omega, by unfold u32P; simp only []; omega, ⟨by unfold u32P; simp only []; omega, by simp only [Int.toNat_natCast]; rw [tv]⟩, hl, i2⟩
            simp only [ruleWs, machL, callL, actL, Int.toNat_natCast, tn, tn2, tv, data_of]
            rw [← i1]
          · simp at h
       · rw [h2] at k3; simp at k3
     · rw [h2] at k2; simp at k2
   · rw [h2] at k1; simp at k1
 · simp at h
theorem condsW_hi (cs : List P.S61) : ∀ j, hi j → (∀ c ∈ cs, condOk c) → ∀ w ∈ condsW j cs, hi w := by
 induction cs with
 | nil => intro j _ _ w hw; simp [condsW] at hw
 | cons c cs ih =>
  intro j hj h w hw
  obtain ⟨h1, h2, h3, h4, _⟩ := right_of (h c (by simp))
  simp only [condsW, condWs, List.mem_cons, List.mem_append, List.not_mem_nil, or_false] at hw
  rcases hw with rfl | (rfl | rfl | rfl | rfl) | hw
  · exact hj
  · exact arg_hi _ h1
  · exact TL_hi _ h3
  · exact WL_hi _
  · exact TL_hi _ h4
  · exact ih _ (by unfold hi; decide) (fun c hc => h c (by simp [hc])) w hw
theorem ruleWs_hi {x : P.S40} (h : ruleOk x) : ∀ w ∈ [111, 110] :: ruleWs x, hi w := by
 obtain ⟨h0, h1, ⟨h3, h3'⟩, h4, h5⟩ := h
 intro w hw
 simp only [ruleWs, List.mem_cons] at hw
 rcases hw with rfl | rfl | rfl | rfl | hw
 · unfold hi; decide
 · exact textOf_hi good_ML ML_hi _ (toN h0).1
 · exact textOf_hi (good_calls _) (calls_hi _) _ (toN h1).1
 · exact act_hi _ (toN h3).1
 · exact condsW_hi _ _ (by unfold hi; decide) h5 w hw
theorem ruleT_spl {x : P.S40} (h : ruleOk x) : spl 32 (ruleT x) = [111, 110] :: ruleWs x := spl_jn 32 _ (by simp) (fun w hw => (ruleWs_hi h w hw).no32)
theorem lineV_rule {x : P.S40} (h : ruleOk x) : lineV (ruleT x) = some (.inl x) := by
 rw [lineV_of (ruleT_spl h)]
 unfold lineW
 rw [if_pos rfl, ruleV_words x h]
 rfl
theorem rule_lineV {l : List UInt8} {x : P.S40} (h : lineV l = some (.inl x)) : l = ruleT x ∧ ruleOk x := by
 cases hs : spl 32 l with
 | nil => exact absurd hs (spl_ne _ _)
 | cons w ws =>
  rw [lineV_of hs] at h
  unfold lineW at h
  split at h
  · rename_i hw
    simp only [Option.map_eq_some_iff, Sum.inl.injEq] at h
    obtain ⟨y, h, rfl⟩ := h
    obtain ⟨h1, h2⟩ := words_ruleV (fun w' hw' => spl_mem 32 l w' (by rw [hs]; simp [hw'])) h
    refine ⟨?_, h2⟩
    rw [← jn_spl 32 l, hs, hw, h1]; rfl
  · split at h
    · simp at h
    · simp at h
theorem dflt_lineV {l : List UInt8} {v : Int} (h : lineV l = some (.inr v)) : l = dfltT v ∧ dfOk v := by
 cases hs : spl 32 l with
 | nil => exact absurd hs (spl_ne _ _)
 | cons w ws =>
  rw [lineV_of hs] at h
  unfold lineW at h
  split at h
  · simp at h
  · split at h
    · rename_i hw
      simp only [Option.map_eq_some_iff, Sum.inr.injEq] at h
      obtain ⟨y, h, rfl⟩ := h
      rcases ws with _ | ⟨a, _ | ⟨b, ws⟩⟩
      · simp [dfltV] at h
      · simp only [dfltV] at h
        split at h
        · rename_i hk
          injection h with h
          rcases act_readAct (ofBytes a) with ⟨_, v, hv, ev, tv⟩ | h2
          · rw [ev] at h
            subst h
            have ha : actL (v : Int) = a := by simp only [actL, Int.toNat_natCast, tv, data_of]
            refine ⟨?_, by unfold u32P; omega, by simp only [Int.toNat_natCast]; rw [tv]⟩
            rw [← jn_spl 32 l, hs, hw]; unfold dfltT; rw [ha]
          · rw [h2] at hk; simp at hk
        · simp at h
      · simp [dfltV] at h
    · simp at h
end Go.Proofs.Ytekpbgmmogpbdaa.H
set_option maxRecDepth 100000
namespace Go.Proofs.Ytekpbgmmogpbdaa.H
open Go.RowKit Go.Proofs.YtekpbgmmogpbdaaW.PrintWords
theorem jn_app (c : UInt8) (a b : List (List UInt8)) (hb : b ≠ []) : jn c (a ++ b) = a.flatMap (fun l => l ++ [c]) ++ jn c b := by
 induction a with
 | nil => rfl
 | cons x a ih =>
  rw [List.cons_append, jn_cons _ _ _ (by simp [hb]), ih]
  simp
theorem polT_jn (L : List P.S40) (df : Int) : polT L df = jn 10 (L.map ruleT ++ [dfltT df, []]) := by
 rw [jn_app _ _ _ (by simp)]
 unfold polT
 rw [List.flatMap_map]
 rfl
theorem pl_only (n : Nat) : ∀ (ls : List (List UInt8)) (at_ : Nat) (done : Bool) (L0 : List P.S40) (d : Int) (L : List P.S40) (df i : Int), ls ≠ [] → plines n ls at_ done L0 d = (L, df, i, 0) → L0.length ≤ 64 →
 i = 0 ∧ L.length ≤ 64 ∧ (if done = true then ls = [[]] ∧ L = L0 ∧ df = d else ∃ Lr, L = L0 ++ Lr ∧ (∀ x ∈ Lr, ruleOk x) ∧ dfOk df ∧ ls = Lr.map ruleT ++ [dfltT df, []]) := by
 intro ls
 induction ls with
 | nil => intro at_ done L0 d L df i h; exact absurd rfl h
 | cons l ls ih =>
  intro at_ done L0 d L df i _ h h64
  by_cases hls : ls = []
  · subst hls
    rw [plines, if_pos rfl] at h
    split at h
    · simp at h
    · rename_i hl
      have hl : l = [] := by simpa using hl
      split at h
      · rename_i hd
        simp only [Prod.mk.injEq] at h
        obtain ⟨rfl, rfl, rfl, _⟩ := h
        exact ⟨rfl, h64, by rw [if_pos hd]; exact ⟨by rw [hl], rfl, rfl⟩⟩
      · simp at h
  rw [plines, if_neg hls] at h
  split at h
  · simp at h
  · rename_i hd
    rw [if_neg hd]
    cases hv : lineV l with
    | none => rw [hv] at h; simp at h
    | some y =>
     rw [hv] at h
     cases y with
     | inl x =>
      simp only [] at h
      split at h
      · simp at h
      · rename_i hne
        obtain ⟨hl, hok⟩ := rule_lineV hv
        obtain ⟨i1, i2, i3⟩ := ih _ _ _ _ _ _ _ hls h (by simp; omega)
        rw [if_neg (by decide)] at i3
        obtain ⟨Lr, e1, e2, e3, e4⟩ := i3
        refine ⟨i1, i2, x :: Lr, by rw [e1]; simp, ?_, e3, by rw [e4, hl]; rfl⟩
        intro y hy
        rcases List.mem_cons.1 hy with rfl | hy
        · exact hok
        · exact e2 y hy
     | inr v =>
      simp only [] at h
      obtain ⟨hl, hok⟩ := dflt_lineV hv
      obtain ⟨i1, i2, i3⟩ := ih _ _ _ _ _ _ _ hls h h64
      rw [if_pos rfl] at i3
      obtain ⟨e1, e2, e3⟩ := i3
      exact ⟨i1, i2, [], by rw [e2]; simp, by simp, by rw [e3]; exact hok, by rw [e1, hl, e3]; rfl⟩
theorem parse_only {s : List UInt8} {L : List P.S40} {df i : Int} (h : parseV s = (L, df, i, 0)) : s.length ≤ 20000 ∧ s = polT L df ∧ polOk L df ∧ i = 0 := by
 unfold parseV at h
 split at h
 · simp at h
 · rename_i hz
   obtain ⟨h1, h2, h3⟩ := pl_only _ _ _ _ _ _ _ _ _ (spl_ne 10 s) h (by simp)
   rw [if_neg (by decide)] at h3
   obtain ⟨Lr, e1, e2, e3, e4⟩ := h3
   rw [List.nil_append] at e1
   subst e1
   refine ⟨by omega, ?_, ⟨h2, e2, e3⟩, h1⟩
   rw [polT_jn, ← e4, jn_spl]
def placeOk (s : List UInt8) (i : Int) : Prop := 0 ≤ i ∧ i ≤ s.length ∧ (i = 0 ∨ s[i.toNat - 1]? = some 10 ∨ i = s.length)
theorem pl_place (s : List UInt8) : ∀ (ls : List (List UInt8)) (at_ : Nat) (done : Bool) (L0 : List P.S40) (d : Int), ls ≠ [] → s.drop at_ = jn 10 ls → placeOk s (at_ : Int) →
 ∀ r, plines s.length ls at_ done L0 d = r → (r.2.2.2 = 0 → r.2.2.1 = 0) ∧ (r.2.2.2 ≠ 0 → placeOk s r.2.2.1) ∧ (r.2.2.2 ≠ 0 → r.1 = [] ∧ r.2.1 = 0) ∧ (r.2.2.2 = 0 ∨ r.2.2.2 = 2 ∨ r.2.2.2 = 3 ∨ r.2.2.2 = 5) := by
 intro ls
 induction ls with
 | nil => intro at_ done L0 d h; exact absurd rfl h
 | cons l ls ih =>
  intro at_ done L0 d _ hd hp r hr
  have hend : placeOk s (s.length : Int) := ⟨by omega, by omega, .inr (.inr rfl)⟩
  by_cases hls : ls = []
  · subst hls
    rw [plines, if_pos rfl] at hr
    split at hr
    · subst hr; exact ⟨by simp, fun _ => hp, fun _ => ⟨rfl, rfl⟩, by simp⟩
    · split at hr
      · subst hr; exact ⟨by simp, by simp, by simp, by simp⟩
      · subst hr; exact ⟨by simp, fun _ => hend, fun _ => ⟨rfl, rfl⟩, by simp⟩
  have hbad : ∀ e : Int, e ≠ 0 → (e = 2 ∨ e = 3) → (([], 0, (at_ : Int), e) : List P.S40 × Int × Int × Int) = r → (r.2.2.2 = 0 → r.2.2.1 = 0) ∧ (r.2.2.2 ≠ 0 → placeOk s r.2.2.1) ∧ (r.2.2.2 ≠ 0 → r.1 = [] ∧ r.2.1 = 0) ∧ (r.2.2.2 = 0 ∨ r.2.2.2 = 2 ∨ r.2.2.2 = 3 ∨ r.2.2.2 = 5) := by
   intro e he he2 hr
   subst hr
   exact ⟨fun h => absurd h he, fun _ => hp, fun _ => ⟨rfl, rfl⟩, by simp only []; omega⟩
  rw [jn_cons _ _ _ hls] at hd
  have hlen := congrArg List.length hd
  rw [List.length_drop, List.length_append, List.length_cons] at hlen
  have hnext : s.drop (at_ + l.length + 1) = jn 10 ls := by
   rw [show at_ + l.length + 1 = at_ + (l.length + 1) by omega, ← List.drop_drop, hd]
   simp
  have h10 : s[at_ + l.length]? = some 10 := by
   rw [← List.getElem?_drop, hd]
   simp
  have hp2 : placeOk s ((at_ + l.length + 1 : Nat) : Int) := by
   refine ⟨by omega, by omega, .inr (.inl ?_)⟩
   rw [show ((at_ + l.length + 1 : Nat) : Int).toNat - 1 = at_ + l.length by omega]
   exact h10
  rw [plines, if_neg hls] at hr
  split at hr
  · exact hbad 2 (by decide) (.inl rfl) hr
  · cases hv : lineV l with
    | none => rw [hv] at hr; exact hbad 2 (by decide) (.inl rfl) hr
    | some y =>
     rw [hv] at hr
     cases y with
     | inl x =>
      simp only [] at hr
      split at hr
      · exact hbad 3 (by decide) (.inr rfl) hr
      · exact ih _ _ _ _ hls hnext hp2 r hr
     | inr v => exact ih _ _ _ _ hls hnext hp2 r hr
theorem parse_place (s : List UInt8) : ((parseV s).2.2.2 = 0 → (parseV s).2.2.1 = 0) ∧ ((parseV s).2.2.2 ≠ 0 → placeOk s (parseV s).2.2.1) ∧ ((parseV s).2.2.2 ≠ 0 → (parseV s).1 = [] ∧ (parseV s).2.1 = 0) ∧ ((parseV s).2.2.2 = 0 ∨ (parseV s).2.2.2 = 2 ∨ (parseV s).2.2.2 = 3 ∨ (parseV s).2.2.2 = 5) := by
 unfold parseV
 split
 · exact ⟨by simp, fun _ => ⟨by decide, by simp, .inl rfl⟩, fun _ => ⟨rfl, rfl⟩, by simp⟩
 · exact pl_place s _ 0 false [] 0 (spl_ne _ _) (by rw [jn_spl]; rfl) ⟨by decide, by simp, .inl rfl⟩ _ rfl
end Go.Proofs.Ytekpbgmmogpbdaa.H
set_option maxRecDepth 100000
namespace Go.Proofs.Ytekpbgmmogpbdaa.H
open Go.RowKit Go.Proofs.Ytekpbgmmogpbdaa.P Go.Proofs.YtekpbgmmogpbdaaW.PrintWords
theorem Ev_pos {α : Type} {c : Prop} [Decidable c] {g f : Nat → Option α} {r : α} (hc : c) (h : Ev g r) : Ev (fun n => if c then g n else f n) r := Ev.congr (fun _ => if_pos hc) h
theorem Ev_neg {α : Type} {c : Prop} [Decidable c] {g f : Nat → Option α} {r : α} (hc : ¬ c) (h : Ev f r) : Ev (fun n => if c then g n else f n) r := Ev.congr (fun _ => if_neg hc) h
def condK (c : S61) : Prop := u64P c.f2 ∧ u64P c.f3
def ruleK (x : S40) : Prop := u32P x.f0 ∧ u32P x.f1 ∧ u32P x.f3 ∧ ∀ c ∈ x.f2, condK c
def polK (L : List S40) (df : Int) : Prop := (∀ x ∈ L, ruleK x) ∧ u32P df
def actB (v : Int) : Bool := decide ((actOf v.toNat).2 = 0)
def condsB (cs : List S61) : Bool := cs.all fun c => rightB c.f0 c.f1
def ruleB (x : S40) : Bool := condsB x.f2 && (actB x.f3 && decide (x.f2.length ≤ 4))
def rulesB (L : List S40) : Bool := L.all ruleB
def polB (L : List S40) (df : Int) : Bool := rulesB L && (actB df && decide (L.length ≤ 64))
theorem ruleOk_iff {x : S40} (h : ruleK x) : ruleB x = true ↔ ruleOk x := by
 obtain ⟨h0, h1, h3, h4⟩ := h
 simp only [ruleB, condsB, actB, Bool.and_eq_true, decide_eq_true_eq, List.all_eq_true]
 constructor
 · rintro ⟨a, b, c⟩
   exact ⟨h0, h1, ⟨h3, b⟩, c, fun y hy => ⟨a y hy, (h4 y hy).1, (h4 y hy).2⟩⟩
 · rintro ⟨_, _, ⟨_, b⟩, c, d⟩
   exact ⟨fun y hy => (d y hy).1, b, c⟩
theorem polOk_iff {L : List S40} {df : Int} (h : polK L df) : polB L df = true ↔ polOk L df := by
 simp only [polB, rulesB, actB, Bool.and_eq_true, decide_eq_true_eq, List.all_eq_true]
 constructor
 · rintro ⟨a, b, c⟩
   exact ⟨c, fun x hx => (ruleOk_iff (h.1 x hx)).1 (a x hx), h.2, b⟩
 · rintro ⟨a, b, c, d⟩
   exact ⟨fun x hx => (ruleOk_iff (h.1 x hx)).2 (b x hx), d, a⟩
theorem ruleOk_K {x : S40} (h : ruleOk x) : ruleK x := ⟨h.1, h.2.1, h.2.2.1.1, fun c hc => (h.2.2.2.2 c hc).2⟩
theorem polOk_K {L : List S40} {df : Int} (h : polOk L df) : polK L df := ⟨fun x hx => ruleOk_K (h.2.1 x hx), h.2.2.1⟩
theorem wS (n : Nat) (h : n ≤ 1000000) : wrap64 ((n : Int) + 1) = ((n + 1 : Nat) : Int) := by unfold wrap64; omega
theorem rd61 (l : List S61) (i : Nat) (h : i < l.length) : rd_T61 l (i : Int) = l[i] := by
 unfold rd_T61; rw [Int.toNat_natCast, List.getD_eq_getElem?_getD, List.getElem?_eq_getElem h]; rfl
theorem rd40 (l : List S40) (i : Nat) (h : i < l.length) : rd_T40 l (i : Int) = l[i] := by
 unfold rd_T40; rw [Int.toNat_natCast, List.getD_eq_getElem?_getD, List.getElem?_eq_getElem h]; rfl
theorem cond_Right_f (a b c d : Int) : cond_Right.f a b c d = some (rightB a b) := by
 unfold cond_Right.f rightB
 by_cases h1 : a ≥ 0
 rotate_left
 · rw [if_neg h1]; simp [h1]
 rw [if_pos h1]
 by_cases h2 : a < 6
 rotate_left
 · rw [if_neg h2]; simp [h2]
 rw [if_pos h2]
 by_cases h3 : b ≥ 0
 · rw [if_pos h3]; simp [h1, h2, h3]
 rw [if_neg h3]; simp [h1, h2]; omega
theorem names_Action_f {v : Int} (h : u32P v) : names_Action.f v = some (actOf v.toNat) := by unfold names_Action.f; rw [if_pos h]
theorem may_l0 (f0 f1 f3 : Int) (h3 : u32P f3) (cs l : List S61) (hl : cs.length ≤ 1000) : ∀ (d i : Nat), i + d = cs.length →
 Ev (fun k => policy_may.l0 k cs (cs.length : Int) (i : Int) f0 f1 l f3) (condsB (cs.drop i) && (actB f3 && decide (l.length ≤ 4))) := by
 intro d
 induction d with
 | zero =>
  intro i hi
  refine Ev.step (f := fun _ => some (condsB (cs.drop i) && (actB f3 && decide (l.length ≤ 4)))) (fun k => ?_) (Ev.now _)
  simp only [policy_may.l0]
  rw [if_neg (by omega), names_Action_f h3, Option.bind_some, List.drop_eq_nil_of_le (by omega)]
  unfold condsB actB
  by_cases h : (actOf f3.toNat).2 = 0
  · rw [if_pos h]; simp only [h, List.all_nil, decide_true, Bool.true_and]; congr 1; exact decide_eq_decide.2 (by omega)
  rw [if_neg h]; simp [h]
 | succ d ih =>
  intro i hi
  have hlt : i < cs.length := by omega
  have hd : cs.drop i = cs[i] :: cs.drop (i + 1) := List.drop_eq_getElem_cons hlt
  by_cases hr : rightB cs[i].f0 cs[i].f1 = true
  · refine Ev.step (f := fun k => policy_may.l0 k cs (cs.length : Int) ((i + 1 : Nat) : Int) f0 f1 l f3) (fun k => ?_) ?_
    · simp only [policy_may.l0]
      rw [if_pos (by omega), if_pos (by omega), if_pos (by omega), rd61 cs i hlt, cond_Right_f, Option.bind_some, if_pos hr, wS i (by omega)]
    · rw [hd, show condsB (cs[i] :: cs.drop (i + 1)) = condsB (cs.drop (i + 1)) by simp only [condsB, List.all_cons, hr, Bool.true_and]]
      exact ih (i + 1) (by omega)
  refine Ev.step (f := fun _ => some false) (fun k => ?_) ?_
  · simp only [policy_may.l0]
    rw [if_pos (by omega), if_pos (by omega), if_pos (by omega), rd61 cs i hlt, cond_Right_f, Option.bind_some, if_neg hr]
  · rw [hd, show condsB (cs[i] :: cs.drop (i + 1)) = false by simp only [condsB, List.all_cons]; rw [Bool.eq_false_iff.2 hr]; rfl]
    exact Ev.now _
theorem may_ev (x : S40) (h3 : u32P x.f3) (hl : x.f2.length ≤ 1000) : Ev (fun k => policy_may.f k x.f0 x.f1 x.f2 x.f3) (ruleB x) := may_l0 x.f0 x.f1 x.f3 h3 x.f2 x.f2 hl x.f2.length 0 (by omega)
theorem right_l0 (df : Int) (h3 : u32P df) (L M : List S40) (hl : L.length ≤ 1000) (hk : ∀ x ∈ L, u32P x.f3 ∧ x.f2.length ≤ 1000) : ∀ (d i : Nat), i + d = L.length →
 Ev (fun k => policy_Right.l0 k L (L.length : Int) (i : Int) M df) (rulesB (L.drop i) && (actB df && decide (M.length ≤ 64))) := by
 intro d
 induction d with
 | zero =>
  intro i hi
  refine Ev.step (f := fun _ => some (rulesB (L.drop i) && (actB df && decide (M.length ≤ 64)))) (fun k => ?_) (Ev.now _)
  simp only [policy_Right.l0]
  rw [if_neg (by omega), names_Action_f h3, Option.bind_some, List.drop_eq_nil_of_le (by omega)]
  unfold rulesB actB
  by_cases h : (actOf df.toNat).2 = 0
  · rw [if_pos h]; simp only [h, List.all_nil, decide_true, Bool.true_and]; congr 1; exact decide_eq_decide.2 (by omega)
  rw [if_neg h]; simp [h]
 | succ d ih =>
  intro i hi
  have hlt : i < L.length := by omega
  have hd : L.drop i = L[i] :: L.drop (i + 1) := List.drop_eq_getElem_cons hlt
  have hx := hk L[i] (List.getElem_mem hlt)
  refine Ev.step (f := fun k => (policy_may.f k L[i].f0 L[i].f1 L[i].f2 L[i].f3).bind fun t => if t = true then policy_Right.l0 k L (L.length : Int) ((i + 1 : Nat) : Int) M df else some false) (fun k => ?_) ?_
  · simp only [policy_Right.l0]
    rw [if_pos (by omega), if_pos (by omega), if_pos (by omega), rd40 L i hlt, wS i (by omega)]
  · refine Ev.bind (may_ev L[i] hx.1 hx.2) ?_
    by_cases hr : ruleB L[i] = true
    · rw [hd, show rulesB (L[i] :: L.drop (i + 1)) = rulesB (L.drop (i + 1)) by simp only [rulesB, List.all_cons, hr, Bool.true_and]]
      exact Ev.congr (fun k => if_pos hr) (ih (i + 1) (by omega))
    rw [hd, show rulesB (L[i] :: L.drop (i + 1)) = false by simp only [rulesB, List.all_cons]; rw [Bool.eq_false_iff.2 hr]; rfl]
    exact Ev.congr (fun k => if_neg hr) (Ev.now _)
theorem right_ev (L : List S40) (df : Int) (h : polK L df) (hl : L.length ≤ 1000) (hc : ∀ x ∈ L, x.f2.length ≤ 1000) : Ev (fun k => policy_Right.f k L df) (polB L df) :=
 right_l0 df h.2 L L hl (fun x hx => ⟨(h.1 x hx).2.2.1, hc x hx⟩) L.length 0 (by omega)
theorem ML_sz : ∀ p ∈ ML, p.1.size ≤ 18 := by unfold ML; decide
theorem AL_sz : ∀ p ∈ AL, p.1.size ≤ 18 := by unfold AL; decide
theorem calls_sz (a : Int) : ∀ p ∈ callsOf a, p.1.size ≤ 18 := by
 unfold callsOf
 split
 · unfold Cx64; decide
 · split
   · unfold Cx86; decide
   · split
     · unfold Ca64; decide
     · split
       · unfold Carm; decide
       · intro p hp; simp at hp
theorem textOf_sz {l : NL} (g : NGood l) (hl : ∀ p ∈ l, p.1.size ≤ 18) (n : Nat) (hn : n < 4294967296) : (textOf l n).size ≤ 18 := by
 unfold textOf
 rcases name_cases g (n : Int) with ⟨p, hp, h2, h3, h4⟩ | ⟨h1, h2⟩
 · rw [if_neg (by rw [h4]; decide), h3]; exact hl p hp
 · rw [if_pos (by rw [h2]; exact empty_isEmpty)]; exact textL_size n (by omega)
theorem act_sz (v : Nat) (hv : v < 4294967296) : (actOf v).1.size ≤ 24 := by
 rcases act_cases v hv with ⟨p, hp, h2, h3, h4⟩ | ⟨d, hd, h2, h3⟩ | ⟨h1, h2, h3⟩
 · rw [h3]; have := AL_sz p hp; simp only []; omega
 · rw [h3]; simp only [pre_size]; have := textL_size d (by omega); omega
 · rw [h3]; simp [ByteArray.size]
theorem TL_len (n : Nat) (h : n < 18446744073709551616) : (TL n).length ≤ 18 := by
 have := textL_size n h
 rw [strOfNums_size] at this
 unfold TL u8s
 simpa using this
theorem WL_len (k : Nat) : (WL k).length = 2 := by unfold WL; rw [← size_list]; exact wordK_size k
theorem CT_len (a k m v : Nat) (hm : m < 18446744073709551616) (hv : v < 18446744073709551616) : (CT a k m v).length ≤ 43 := by
 have h1 := TL_len m hm
 have h2 := TL_len v hv
 have h3 := WL_len k
 unfold CT
 simp only [List.length_append, List.length_cons, List.length_nil]
 omega
def CTc (c : S61) : List UInt8 := CT c.f0.toNat c.f1.toNat c.f2.toNat c.f3.toNat
def contT : List UInt8 → List S61 → List UInt8
 | _, [] => []
 | j, c :: cs => 32 :: (j ++ 32 :: (CTc c ++ contT [97, 110, 100] cs))
theorem jn_append (c : UInt8) (a b : List (List UInt8)) (ha : a ≠ []) (hb : b ≠ []) : jn c (a ++ b) = jn c a ++ c :: jn c b := by
 induction a with
 | nil => exact absurd rfl ha
 | cons x a ih =>
  cases a with
  | nil => exact jn_cons c x b hb
  | cons y a =>
   rw [List.cons_append, jn_cons _ _ _ (by simp), ih (by simp), jn_cons _ x _ (by simp)]
   simp
theorem jn_conds : ∀ (cs : List S61) (j : List UInt8) (pre : List (List UInt8)), pre ≠ [] → jn 32 (pre ++ condsW j cs) = jn 32 pre ++ contT j cs := by
 intro cs
 induction cs with
 | nil => intro j pre _; simp [condsW, contT]
 | cons c cs ih =>
  intro j pre hp
  have e : pre ++ condsW j (c :: cs) = (pre ++ j :: condWs c) ++ condsW [97, 110, 100] cs := by simp [condsW]
  rw [e, ih _ _ (by simp), jn_append _ _ _ hp (by simp), jn_cons _ _ _ (by simp [condWs])]
  simp only [contT, CTc]
  rw [show jn 32 (condWs c) = CT c.f0.toNat c.f1.toNat c.f2.toNat c.f3.toNat from rfl]
  simp
theorem ruleT_eq (x : S40) : ruleT x = [111, 110, 32] ++ machL x ++ [32] ++ callL x ++ [32] ++ actL x.f3 ++ contT [105, 102] x.f2 := by
 have e : ([111, 110] :: ruleWs x) = [[111, 110], machL x, callL x, actL x.f3] ++ condsW [105, 102] x.f2 := rfl
 unfold ruleT
 rw [e, jn_conds _ _ _ (by simp)]
 simp [jn]
theorem cond_Print_f {c : S61} (h : condOk c) : cond_Print.f c.f0 c.f1 c.f2 c.f3 = some (ofBytes (CTc c), 0) := by
 obtain ⟨h1, h2, h3, h4, h5⟩ := right_of h
 unfold cond_Print.f
 rw [if_pos h.2]
 unfold printR
 rw [if_pos h.1]
 have e2 : ((c.f2.toNat : Nat) : Int) = c.f2 := by have := h.2.1; unfold u64P at this; omega
 have e3 : ((c.f3.toNat : Nat) : Int) = c.f3 := by have := h.2.2; unfold u64P at this; omega
 have := condText_list c.f0.toNat c.f1.toNat c.f2.toNat c.f3.toNat
 rw [e2, e3] at this
 rw [show condText c.f0.toNat c.f1.toNat c.f2 c.f3 = ofBytes (CTc c) from ba_eq (by rw [this, data_of]; rfl)]
theorem CTc_len {c : S61} (h : condOk c) : (CTc c).length ≤ 43 := by
 obtain ⟨h1, h2, h3, h4, h5⟩ := right_of h
 exact CT_len _ _ _ _ h3 h4
theorem contT_len : ∀ (cs : List S61) (j : List UInt8), j.length ≤ 3 → (∀ c ∈ cs, condOk c) → (contT j cs).length ≤ 48 * cs.length := by
 intro cs
 induction cs with
 | nil => intro j _ _; simp [contT]
 | cons c cs ih =>
  intro j hj h
  have h1 := CTc_len (h c (by simp))
  have h2 := ih [97, 110, 100] (by simp) (fun c hc => h c (by simp [hc]))
  simp only [contT, List.length_cons, List.length_append]
  omega
theorem of_append (a b : List UInt8) : ofBytes a ++ ofBytes b = ofBytes (a ++ b) := ba_eq (by rw [ba_add]; simp only [data_of])
theorem rule_l0 (cs : List S61) (hl : cs.length ≤ 1000) (hk : ∀ c ∈ cs, condOk c) : ∀ (d i : Nat) (acc j : List UInt8), i + d = cs.length → acc.length ≤ 1000 + 48 * i → j.length ≤ 3 →
 Ev (fun k => policy_rule.l0 k (ofBytes acc) (ofBytes (32 :: (j ++ [32]))) cs (cs.length : Int) (i : Int)) (ofBytes (acc ++ contT j (cs.drop i))) := by
 intro d
 induction d with
 | zero =>
  intro i acc j hi ha hj
  refine Ev.step (f := fun _ => some (ofBytes (acc ++ contT j (cs.drop i)))) (fun k => ?_) (Ev.now _)
  simp only [policy_rule.l0]
  rw [if_neg (by omega), List.drop_eq_nil_of_le (by omega)]
  simp [contT]
 | succ d ih =>
  intro i acc j hi ha hj
  have hlt : i < cs.length := by omega
  have hd : cs.drop i = cs[i] :: cs.drop (i + 1) := List.drop_eq_getElem_cons hlt
  have hc := hk cs[i] (List.getElem_mem hlt)
  have hz := CTc_len hc
  refine Ev.step (f := fun k => policy_rule.l0 k (ofBytes (acc ++ (32 :: (j ++ 32 :: CTc cs[i])))) (ofBytes (32 :: ([97, 110, 100] ++ [32]))) cs (cs.length : Int) ((i + 1 : Nat) : Int)) (fun k => ?_) ?_
  · simp only [policy_rule.l0]
    rw [if_pos (by omega), if_pos (by omega), if_pos (by omega), rd61 cs i hlt, cond_Print_f hc, Option.bind_some]
    rw [if_pos (by simp only [size_of, List.length_cons, List.length_append, List.length_nil]; omega), if_pos (by rw [of_append]; simp only [size_of, List.length_cons, List.length_append, List.length_nil]; omega), of_append, of_append, wS i (by omega)]
    congr 2
    simp
  · have := ih (i + 1) (acc ++ (32 :: (j ++ 32 :: CTc cs[i]))) [97, 110, 100] (by omega) (by simp only [List.length_cons, List.length_append]; omega) (by simp)
    rw [hd]
    simp only [contT]
    refine Ev.congr (fun k => rfl) ?_
    rw [show acc ++ 32 :: (j ++ 32 :: (CTc cs[i] ++ contT [97, 110, 100] (cs.drop (i + 1)))) = (acc ++ (32 :: (j ++ 32 :: CTc cs[i]))) ++ contT [97, 110, 100] (cs.drop (i + 1)) by simp]
    exact this
theorem rule_ev {x : S40} (h : ruleOk x) : Ev (fun k => policy_rule.f k x.f0 x.f1 x.f2 x.f3) (ofBytes (ruleT x)) := by
 obtain ⟨h0, h1, ⟨h3, h3'⟩, h4, h5⟩ := h
 have z0 := textOf_sz good_ML ML_sz _ (toN h0).1
 have z1 := textOf_sz (good_calls x.f0) (calls_sz _) _ (toN h1).1
 have z3 := act_sz _ (toN h3).1
 have l0 : (machL x).length ≤ 18 := by unfold machL; rw [← size_list]; exact z0
 have l1 : (callL x).length ≤ 18 := by unfold callL; rw [← size_list]; exact z1
 have l3 : (actL x.f3).length ≤ 24 := by unfold actL; rw [← size_list]; exact z3
 refine Ev.congr (f := fun k => policy_rule.l0 k (ofBytes ([111, 110, 32] ++ machL x ++ [32] ++ callL x ++ [32] ++ actL x.f3)) (ofBytes (32 :: ([105, 102] ++ [32]))) x.f2 (x.f2.length : Int) ((0 : Nat) : Int)) (fun k => ?_) ?_
 · unfold policy_rule.f
   have hs3 : (⟨#[111, 110, 32]⟩ : ByteArray).size = 3 := rfl
   have hs1 : (⟨#[32]⟩ : ByteArray).size = 1 := rfl
   rw [names_Action_f h3, Option.bind_some]
   unfold names_Machine.f names_Call.f
   rw [if_pos h0, Option.bind_some, if_pos (by omega), if_pos (by simp only [ByteArray.size_append]; omega), if_pos h1, Option.bind_some, if_pos (by simp only [ByteArray.size_append]; omega), if_pos (by simp only [ByteArray.size_append]; omega), if_pos (by simp only [ByteArray.size_append]; omega)]
   congr 1
 · rw [ruleT_eq]
   exact rule_l0 x.f2 (by omega) h5 x.f2.length 0 _ _ (by omega) (by simp only [List.length_append, List.length_cons, List.length_nil]; omega) (by simp)
theorem ruleT_len {x : S40} (h : ruleOk x) : (ruleT x).length ≤ 300 := by
 obtain ⟨h0, h1, ⟨h3, h3'⟩, h4, h5⟩ := h
 have z0 := textOf_sz good_ML ML_sz _ (toN h0).1
 have z1 := textOf_sz (good_calls x.f0) (calls_sz _) _ (toN h1).1
 have z3 := act_sz _ (toN h3).1
 have l0 : (machL x).length ≤ 18 := by unfold machL; rw [← size_list]; exact z0
 have l1 : (callL x).length ≤ 18 := by unfold callL; rw [← size_list]; exact z1
 have l3 : (actL x.f3).length ≤ 24 := by unfold actL; rw [← size_list]; exact z3
 have := contT_len x.f2 [105, 102] (by simp) h5
 rw [ruleT_eq]
 simp only [List.length_append, List.length_cons, List.length_nil]
 omega
theorem dfltT_eq (v : Int) : dfltT v = [100, 101, 102, 97, 117, 108, 116, 32] ++ actL v := rfl
theorem print_l0 (df : Int) (hdf : dfOk df) (L M : List S40) (hl : L.length ≤ 1000) (hk : ∀ x ∈ L, ruleOk x) : ∀ (d i : Nat) (acc : List UInt8), i + d = L.length → acc.length ≤ 301 * i →
 Ev (fun k => policy_Print.l0 k (ofBytes acc) L (L.length : Int) (i : Int) M df) (ofBytes (acc ++ polT (L.drop i) df), 0) := by
 have z3 := act_sz _ (toN hdf.1).1
 have l3 : (actL df).length ≤ 24 := by unfold actL; rw [← size_list]; exact z3
 intro d
 induction d with
 | zero =>
  intro i acc hi ha
  refine Ev.step (f := fun _ => some (ofBytes (acc ++ polT (L.drop i) df), 0)) (fun k => ?_) (Ev.now _)
  simp only [policy_Print.l0]
  have hs8 : (⟨#[100, 101, 102, 97, 117, 108, 116, 32]⟩ : ByteArray).size = 8 := rfl
  rw [if_neg (by omega), names_Action_f hdf.1, Option.bind_some, if_pos (by rw [size_of]; omega), if_pos (by simp only [ByteArray.size_append, size_of]; omega), if_pos (by simp only [ByteArray.size_append, size_of]; omega), List.drop_eq_nil_of_le (by omega)]
  refine congrArg some (congrArg (·, (0 : Int)) (ba_eq ?_))
  simp only [ba_add, data_of, polT, dfltT_eq, actL, List.flatMap_nil, List.nil_append, List.append_assoc]
 | succ d ih =>
  intro i acc hi ha
  have hlt : i < L.length := by omega
  have hd : L.drop i = L[i] :: L.drop (i + 1) := List.drop_eq_getElem_cons hlt
  have hx := hk L[i] (List.getElem_mem hlt)
  have hz := ruleT_len hx
  refine Ev.step (f := fun k => (policy_rule.f k L[i].f0 L[i].f1 L[i].f2 L[i].f3).bind fun t => (if t.size + 1 ≤ 9223372036854775807 then (if (ofBytes acc).size + (t ++ (⟨#[10]⟩ : ByteArray)).size ≤ 9223372036854775807 then (policy_Print.l0 k (ofBytes acc ++ (t ++ (⟨#[10]⟩ : ByteArray))) L (L.length : Int) ((i + 1 : Nat) : Int) M df) else (none)) else (none))) (fun k => ?_) ?_
  · simp only [policy_Print.l0]
    rw [if_pos (by omega), if_pos (by omega), if_pos (by omega), rd40 L i hlt, wS i (by omega)]
  · refine Ev.bind (rule_ev hx) ?_
    have hs1 : (⟨#[10]⟩ : ByteArray).size = 1 := rfl
    have e : ofBytes acc ++ (ofBytes (ruleT L[i]) ++ (⟨#[10]⟩ : ByteArray)) = ofBytes (acc ++ (ruleT L[i] ++ [10])) := ba_eq (by simp only [ba_add, data_of])
    refine Ev.congr (f := fun k => policy_Print.l0 k (ofBytes (acc ++ (ruleT L[i] ++ [10]))) L (L.length : Int) ((i + 1 : Nat) : Int) M df) (fun k => ?_) ?_
    · rw [if_pos (by rw [size_of]; omega), if_pos (by simp only [ByteArray.size_append, size_of]; omega), e]
    · rw [hd, show acc ++ polT (L[i] :: L.drop (i + 1)) df = (acc ++ (ruleT L[i] ++ [10])) ++ polT (L.drop (i + 1)) df by simp only [polT, List.flatMap_cons, List.append_assoc]]
      exact ih (i + 1) _ (by omega) (by simp only [List.length_append, List.length_cons, List.length_nil]; omega)
theorem print_ev (L : List S40) (df : Int) (h : polK L df) (hl : L.length ≤ 1000) (hc : ∀ x ∈ L, x.f2.length ≤ 1000) :
 Ev (fun k => policy_Print.f k L df) (if polB L df = true then (ofBytes (polT L df), 0) else (⟨#[]⟩, 1)) := by
 unfold policy_Print.f
 refine Ev.bind (right_ev L df h hl hc) ?_
 by_cases hb : polB L df = true
 rotate_left
 · rw [if_neg hb]
   exact Ev.congr (fun k => if_neg hb) (Ev.now _)
 rw [if_pos hb]
 have ho := (polOk_iff h).1 hb
 refine Ev.congr (fun k => if_pos hb) ?_
 exact print_l0 df ho.2.2 L L hl ho.2.1 L.length 0 [] (by omega) (by simp)
end Go.Proofs.Ytekpbgmmogpbdaa.H
set_option maxRecDepth 100000
namespace Go.Proofs.Ytekpbgmmogpbdaa.H
open Go.RowKit Go.Proofs.Ytekpbgmmogpbdaa.P Go.Proofs.YtekpbgmmogpbdaaW.PrintWords
theorem machine_ev {v : Int} (h : u32P v) : Ev (fun k => hurdleref09_Machine.f k v) (textOf ML v.toNat) := by
 obtain ⟨hn, he⟩ := toN h
 have := ref_machine v.toNat hn
 rw [he] at this
 exact Ev.of (hurdleref09_Machine.mono v) this
theorem call_ev {a v : Int} (h : u32P v) : Ev (fun k => hurdleref09_Call.f k a v) (textOf (callsOf a) v.toNat) := by
 obtain ⟨hn, he⟩ := toN h
 have := ref_call a v.toNat hn
 rw [he] at this
 exact Ev.of (hurdleref09_Call.mono a v) this
theorem action_ev {v : Int} (h : u32P v) : Ev (fun k => hurdleref09_Action.f k v) (actOf v.toNat).1 := by
 obtain ⟨hn, he⟩ := toN h
 refine ⟨30, fun k hk => ?_⟩
 have := ref_action v.toNat hn k hk
 rw [he] at this
 exact this
theorem ref_cond_Print_f {c : S61} (h : condOk c) : H.hurdleref08_Print.f c.f0 c.f1 c.f2 c.f3 = some (ofBytes (CTc c)) := by
 obtain ⟨h1, h2, h3, h4, h5⟩ := right_of h
 unfold H.hurdleref08_Print.f
 rw [if_pos ⟨h.1, h.2⟩]
 have e2 : ((c.f2.toNat : Nat) : Int) = c.f2 := by have := h.2.1; unfold u64P at this; omega
 have e3 : ((c.f3.toNat : Nat) : Int) = c.f3 := by have := h.2.2; unfold u64P at this; omega
 have := condText_list c.f0.toNat c.f1.toNat c.f2.toNat c.f3.toNat
 rw [e2, e3] at this
 rw [show condText c.f0.toNat c.f1.toNat c.f2 c.f3 = ofBytes (CTc c) from ba_eq (by rw [this, data_of]; rfl)]
def jnt (i : Nat) : List UInt8 := if i = 0 then [105, 102] else [97, 110, 100]
theorem line_l0 (f0 f1 f3 : Int) (cs : List S61) (hl : cs.length ≤ 1000) (hk : ∀ c ∈ cs, condOk c) : ∀ (d i : Nat) (acc : List UInt8), i + d = cs.length → acc.length ≤ 1000 + 48 * i →
 Ev (fun k => hurdleref10_Line.l0 k (ofBytes acc) (i : Int) f0 f1 cs f3) (ofBytes (acc ++ contT (jnt i) (cs.drop i))) := by
 intro d
 induction d with
 | zero =>
  intro i acc hi ha
  refine Ev.step (f := fun _ => some (ofBytes (acc ++ contT (jnt i) (cs.drop i)))) (fun k => ?_) (Ev.now _)
  simp only [hurdleref10_Line.l0]
  rw [if_neg (by omega), List.drop_eq_nil_of_le (by omega)]
  simp [contT]
 | succ d ih =>
  intro i acc hi ha
  have hlt : i < cs.length := by omega
  have hd : cs.drop i = cs[i] :: cs.drop (i + 1) := List.drop_eq_getElem_cons hlt
  have hc := hk cs[i] (List.getElem_mem hlt)
  have hz := CTc_len hc
  have hj : (jnt i).length ≤ 3 := by unfold jnt; split <;> simp
  have hs4 : (⟨#[32, 105, 102, 32]⟩ : ByteArray).size = 4 := rfl
  have hs5 : (⟨#[32, 97, 110, 100, 32]⟩ : ByteArray).size = 5 := rfl
  refine Ev.step (f := fun k => hurdleref10_Line.l0 k (ofBytes (acc ++ (32 :: (jnt i ++ 32 :: CTc cs[i])))) ((i + 1 : Nat) : Int) f0 f1 cs f3) (fun k => ?_) ?_
  · simp only [hurdleref10_Line.l0]
    rw [if_pos (by omega)]
    by_cases h0 : i = 0
    · rw [if_pos (by omega), if_pos (by rw [size_of]; omega), if_pos (by omega), rd61 cs i hlt, ref_cond_Print_f hc, Option.bind_some, if_pos (by simp only [ByteArray.size_append, size_of]; omega), wS i (by omega)]
      congr 1
      apply ba_eq
      simp only [ba_add, data_of, jnt, if_pos h0, List.append_assoc]
      rfl
    rw [if_neg (by omega), if_pos (by rw [size_of]; omega), if_pos (by omega), rd61 cs i hlt, ref_cond_Print_f hc, Option.bind_some, if_pos (by simp only [ByteArray.size_append, size_of]; omega), wS i (by omega)]
    congr 1
    apply ba_eq
    simp only [ba_add, data_of, jnt, if_neg h0, List.append_assoc]
    rfl
  · have := ih (i + 1) (acc ++ (32 :: (jnt i ++ 32 :: CTc cs[i]))) (by omega) (by simp only [List.length_cons, List.length_append]; omega)
    rw [show jnt (i + 1) = [97, 110, 100] by unfold jnt; rw [if_neg (by omega)]] at this
    rw [hd]
    simp only [contT]
    rw [show acc ++ 32 :: (jnt i ++ 32 :: (CTc cs[i] ++ contT [97, 110, 100] (cs.drop (i + 1)))) = (acc ++ (32 :: (jnt i ++ 32 :: CTc cs[i]))) ++ contT [97, 110, 100] (cs.drop (i + 1)) by simp]
    exact this
theorem line_ev {x : S40} (h : ruleOk x) : Ev (fun k => hurdleref10_Line.f k x.f0 x.f1 x.f2 x.f3) (ofBytes (ruleT x)) := by
 obtain ⟨h0, h1, ⟨h3, h3'⟩, h4, h5⟩ := h
 have z0 := textOf_sz good_ML ML_sz _ (toN h0).1
 have z1 := textOf_sz (good_calls x.f0) (calls_sz _) _ (toN h1).1
 have z3 := act_sz _ (toN h3).1
 have l0 : (machL x).length ≤ 18 := by unfold machL; rw [← size_list]; exact z0
 have l1 : (callL x).length ≤ 18 := by unfold callL; rw [← size_list]; exact z1
 have l3 : (actL x.f3).length ≤ 24 := by unfold actL; rw [← size_list]; exact z3
 have hs3 : (⟨#[111, 110, 32]⟩ : ByteArray).size = 3 := rfl
 have hs1 : (⟨#[32]⟩ : ByteArray).size = 1 := rfl
 unfold hurdleref10_Line.f
 refine Ev.bind (machine_ev h0) ?_
 refine Ev_pos (by omega) (Ev_pos (by simp only [ByteArray.size_append]; omega) ?_)
 refine Ev.bind (call_ev h1) ?_
 refine Ev_pos (by simp only [ByteArray.size_append]; omega) (Ev_pos (by simp only [ByteArray.size_append]; omega) ?_)
 refine Ev.bind (action_ev h3) ?_
 refine Ev_pos (by simp only [ByteArray.size_append]; omega) ?_
 have e : ((((((⟨#[111, 110, 32]⟩ : ByteArray) ++ textOf ML x.f0.toNat) ++ (⟨#[32]⟩ : ByteArray)) ++ textOf (callsOf x.f0) x.f1.toNat) ++ (⟨#[32]⟩ : ByteArray)) ++ (actOf x.f3.toNat).1) = ofBytes ([111, 110, 32] ++ machL x ++ [32] ++ callL x ++ [32] ++ actL x.f3) :=
  ba_eq (by simp only [ba_add, data_of, machL, callL, actL])
 rw [e, ruleT_eq]
 exact line_l0 x.f0 x.f1 x.f3 x.f2 (by omega) h5 x.f2.length 0 _ (by omega) (by simp only [List.length_append, List.length_cons, List.length_nil]; omega)
end Go.Proofs.Ytekpbgmmogpbdaa.H
set_option maxRecDepth 100000
namespace Go.Proofs.Ytekpbgmmogpbdaa.H
open Go.RowKit Go.Proofs.Ytekpbgmmogpbdaa.P Go.Proofs.YtekpbgmmogpbdaaW.PrintWords Go.Proofs.YtekpbgmmogpbdaaW.PrintMore
def RA (s : ByteArray) : Int × Bool := ((readAct s).1, ((readAct s).2 == 0))
theorem actOf_mid (d : Nat) (hd : d ≤ 4095) : actOf (327680 + d) = (errPre ++ strOfNums (textL d), 0) := by
 rcases act_cases (327680 + d) (by omega) with ⟨p, hp, h2, h3, _⟩ | ⟨d', hd', hvd, h3⟩ | ⟨_, h, _⟩
 · exact absurd h2 (AL_mid _ (by omega) (by omega) p hp)
 · have : d' = d := by omega
   subst this
   exact h3
 · exact absurd ⟨by omega, by omega⟩ h
theorem RA_mid (d : Nat) (hd : d ≤ 4095) : RA (errPre ++ strOfNums (textL d)) = (327680 + (d : Int), true) := by
 have h := readAct_act (327680 + d) (by omega) (by rw [actOf_mid d hd])
 rw [actOf_mid d hd] at h
 unfold RA
 simp only [] at h
 rw [h]
 simp
theorem RA_none (s : ByteArray) (h1 : numOf AL s = none) (h2 : ∀ d, d ≤ 4095 → errPre ++ strOfNums (textL d) ≠ s) : RA s = (0, false) := by
 unfold RA
 rcases act_readAct s with ⟨e, v, hv, hr, ha⟩ | h
 · exfalso
   rcases act_cases v hv with ⟨p, hp, _, h3, _⟩ | ⟨d, hd, hvd, h3⟩ | ⟨_, _, h3⟩
   · rw [ha] at h3
     have e1 : s = p.1 := congrArg Prod.fst h3
     rw [e1, numOf_hit good_AL hp] at h1
     cases h1
   · rw [ha] at h3
     exact h2 d hd (congrArg Prod.fst h3).symm
   · rw [ha] at h3
     have e2 := congrArg Prod.snd h3
     simp at e2
 · rw [h]; rfl
theorem act_size (d : Nat) (hd : d ≤ 4095) : 6 < (errPre ++ strOfNums (textL d)).size := by
 rw [pre_size, strOfNums_size]; simp [textL]
theorem ra_l1 (s : ByteArray) (h1 : numOf AL s = none) (d : Nat) : ∀ (k n : Nat), n + d = 4096 → d + 40 < k → (∀ m, m < n → errPre ++ strOfNums (textL m) ≠ s) →
 hurdleref09_ReadAction.l1 k s (n : Int) = some (RA s) := by
 induction d with
 | zero =>
  intro k n hn hk hno
  obtain ⟨k, rfl⟩ : ∃ m, k = m + 1 := ⟨k - 1, by omega⟩
  simp only [hurdleref09_ReadAction.l1]
  rw [if_neg (by omega), RA_none s h1 (fun d hd => hno d (by omega))]
 | succ d ih =>
  intro k n hn hk hno
  obtain ⟨k, rfl⟩ : ∃ m, k = m + 1 := ⟨k - 1, by omega⟩
  simp only [hurdleref09_ReadAction.l1]
  have e1 : (327680 + (n : Int)) % 4294967296 = ((327680 + n : Nat) : Int) := by omega
  have e2 : ((n : Int) + 1) % 4294967296 = ((n + 1 : Nat) : Int) := by omega
  have hstep : errPre ++ strOfNums (textL n) ≠ s → hurdleref09_ReadAction.l1 k s (((n : Int) + 1) % 4294967296) = some (RA s) := by
   intro hne
   rw [e2]
   refine ih k (n + 1) (by omega) (by omega) (fun m hm => ?_)
   by_cases hmn : m = n
   · subst hmn; exact hne
   exact hno m (by omega)
  rw [if_pos (by omega)]
  by_cases h6 : (s.size : Int) > 6
  rotate_left
  · rw [if_neg h6]
    refine hstep (fun he => ?_)
    have := act_size n (by omega)
    rw [he] at this
    omega
  rw [if_pos h6, e1, ref_action _ (by omega) k (by omega), actOf_mid n (by omega)]
  simp only [Option.bind_some]
  by_cases he : errPre ++ strOfNums (textL n) = s
  · rw [if_pos (by rw [he]), ← he, RA_mid n (by omega)]
    congr 1
  rw [if_neg (fun h => he (ba_ext' h))]
  exact hstep he
theorem act_AL (v : Nat) (nm : ByteArray) (h : ((nm, (v : Int)) : ByteArray × Int) ∈ AL) (hv : v < 4294967296) : (actOf v).1 = nm := by
 unfold actOf
 rw [nameOf_hit good_AL.uniq h, if_pos (nonempty_of (good_AL.some_ _ h))]
theorem RA_AL (v : Nat) (nm : ByteArray) (h : ((nm, (v : Int)) : ByteArray × Int) ∈ AL) : RA nm = ((v : Int), true) := by
 unfold RA readAct
 have := numOf_hit good_AL h
 simp only [] at this
 rw [this]
 rfl
theorem ra_step (s : ByteArray) (k : Nat) (hk : 40 ≤ k) (i v : Nat) (hi : i < 4) (nm : ByteArray) (h : ((nm, (v : Int)) : ByteArray × Int) ∈ AL) (hv : v < 4294967296)
 (hr : rd [0, 196608, 2147221504, 2147418112] (i : Int) = (v : Int)) :
 hurdleref09_ReadAction.l0 (k + 1) s [0, 196608, 2147221504, 2147418112] (i : Int) = if nm = s then some (RA s) else hurdleref09_ReadAction.l0 k s [0, 196608, 2147221504, 2147418112] ((i + 1 : Nat) : Int) := by
 simp only [hurdleref09_ReadAction.l0]
 rw [if_pos (by omega), if_pos (by omega), if_pos (by simp; omega), hr, ref_action v hv k (by omega), act_AL v nm h hv]
 simp only [Option.bind_some]
 by_cases he : nm = s
 · rw [if_pos (by rw [he]), if_pos he, ← he, RA_AL v nm h]
 rw [if_neg (fun h => he (ba_ext' h)), if_neg he, wr1 i (by omega)]
theorem ref_readAction (s : ByteArray) : hurdleref09_ReadAction.f (4200 + 1 + 1 + 1 + 1 + 1) s = some (RA s) := by
 have e : hurdleref09_ReadAction.f (4200 + 1 + 1 + 1 + 1 + 1) s = hurdleref09_ReadAction.l0 (4200 + 1 + 1 + 1 + 1 + 1) s [0, 196608, 2147221504, 2147418112] ((0 : Nat) : Int) := rfl
 rw [e]
 generalize hK : 4200 = K
 have m0 : ((⟨#[107, 105, 108, 108]⟩, ((0 : Nat) : Int)) : ByteArray × Int) ∈ AL := by unfold AL; simp
 have m1 : ((⟨#[116, 114, 97, 112]⟩, ((196608 : Nat) : Int)) : ByteArray × Int) ∈ AL := by unfold AL; simp
 have m2 : ((⟨#[108, 111, 103]⟩, ((2147221504 : Nat) : Int)) : ByteArray × Int) ∈ AL := by unfold AL; simp
 have m3 : ((⟨#[97, 108, 108, 111, 119]⟩, ((2147418112 : Nat) : Int)) : ByteArray × Int) ∈ AL := by unfold AL; simp
 rw [ra_step s _ (by omega) 0 0 (by omega) _ m0 (by omega) rfl]
 by_cases h0 : (⟨#[107, 105, 108, 108]⟩ : ByteArray) = s
 · rw [if_pos h0]
 rw [if_neg h0, ra_step s _ (by omega) 1 196608 (by omega) _ m1 (by omega) rfl]
 by_cases h1 : (⟨#[116, 114, 97, 112]⟩ : ByteArray) = s
 · rw [if_pos h1]
 rw [if_neg h1, ra_step s _ (by omega) 2 2147221504 (by omega) _ m2 (by omega) rfl]
 by_cases h2 : (⟨#[108, 111, 103]⟩ : ByteArray) = s
 · rw [if_pos h2]
 rw [if_neg h2, ra_step s _ (by omega) 3 2147418112 (by omega) _ m3 (by omega) rfl]
 by_cases h3 : (⟨#[97, 108, 108, 111, 119]⟩ : ByteArray) = s
 · rw [if_pos h3]
 rw [if_neg h3]
 have hno : numOf AL s = none := numOf_none (by
  intro p hp
  unfold AL at hp
  simp only [List.mem_cons, List.not_mem_nil, or_false] at hp
  rcases hp with rfl | rfl | rfl | rfl
  · exact h0
  · exact h1
  · exact h2
  · exact h3)
 simp only [hurdleref09_ReadAction.l0]
 rw [if_neg (by omega)]
 have := ra_l1 s hno 4096 K 0 (by omega) (by omega) (by omega)
 exact this
end Go.Proofs.Ytekpbgmmogpbdaa.H
set_option maxRecDepth 100000
namespace Go.Proofs.Ytekpbgmmogpbdaa.H
open Go.RowKit Go.Proofs.Ytekpbgmmogpbdaa.P Go.Proofs.YtekpbgmmogpbdaaW.PrintWords
theorem list_size (s : ByteArray) : s.data.toList.length = s.size := by simp
theorem extract_list (s : ByteArray) (i j : Nat) (A R : List UInt8) (h : s.data.toList.drop i = A ++ R) (hj : j = i + A.length) : (s.extract i j).data.toList = A := by
 subst hj
 rw [ByteArray.data_extract, Array.toList_extract]
 simp only [List.extract_eq_take_drop]
 rw [h]
 simp
theorem w64 (n : Nat) (h : n ≤ 1000000) : wrap64 ((n : Int) + 1) = ((n + 1 : Nat) : Int) := by unfold wrap64; omega
theorem part_l0 (s : ByteArray) (hs : s.size ≤ 100000) (i : Nat) (hi : i < s.size) (A R : List UInt8) (hA : (32 : UInt8) ∉ A) (hR : R = [] ∨ ∃ Q, R = 32 :: Q) :
 ∀ (k t : Nat), i ≤ t → s.data.toList.drop t = A ++ R → t + A.length ≤ s.size → A.length < k → hurdleref08_part.l0 k s (i : Int) (t : Int) = some (s.extract i (t + A.length), ((t + A.length + 1 : Nat) : Int)) := by
 induction A with
 | nil =>
  intro k t hit hd ht hk
  obtain ⟨k, rfl⟩ : ∃ m, k = m + 1 := ⟨k - 1, by omega⟩
  simp only [hurdleref08_part.l0]
  simp only [List.length_nil, Nat.add_zero, List.nil_append] at hd ht ⊢
  have fin : (if (i : Int) ≥ (s.size : Int) then some ((⟨#[]⟩ : ByteArray), (i : Int)) else (if 0 ≤ (i : Int) then (if (i : Int) ≤ (t : Int) then (if (t : Int) ≤ (s.size : Int) then (some (s.extract (i : Int).toNat (t : Int).toNat, wrap64 ((t : Int) + 1))) else (none)) else (none)) else (none))) = some (s.extract i t, ((t + 1 : Nat) : Int)) := by
   rw [if_neg (by omega), if_pos (by omega), if_pos (by omega), if_pos (by omega), w64 t (by omega)]
   rfl
  by_cases hlt : (t : Int) < (s.size : Int)
  rotate_left
  · rw [if_neg hlt]
    exact fin
  obtain ⟨c, hc, hd2⟩ := bt_drop s t (by omega)
  rw [if_pos hlt, if_pos (by omega)]
  rw [hd] at hd2
  rcases hR with rfl | ⟨Q, rfl⟩
  · simp at hd2
  · have : c = 32 := by injection hd2 with e _; exact e.symm
    subst this
    rw [if_pos (by rw [hc]; rfl)]
    exact fin
 | cons a A ih =>
  intro k t hit hd ht hk
  obtain ⟨k, rfl⟩ : ∃ m, k = m + 1 := ⟨k - 1, by omega⟩
  simp only [hurdleref08_part.l0]
  simp only [List.length_cons] at ht hk
  obtain ⟨c, hc, hd2⟩ := bt_drop s t (by omega)
  rw [hd, List.cons_append] at hd2
  injection hd2 with e1 e2
  subst e1
  rw [if_pos (by omega), if_pos (by omega), if_neg, w64 t (by omega), ih (fun hm => hA (List.mem_cons_of_mem _ hm)) k (t + 1) (by omega) e2.symm (by omega) (by omega)]
  · simp only [List.length_cons]
    rw [show t + 1 + A.length = t + (A.length + 1) by omega]
  · rw [hc]
    intro e
    exact hA (by
     have : a = 32 := UInt8.toNat_inj.1 (by show a.toNat = 32; omega)
     subst this
     exact List.mem_cons_self)
theorem part_word (s : ByteArray) (hs : s.size ≤ 100000) (i : Nat) (A R : List UInt8) (hA : (32 : UInt8) ∉ A) (hR : R = [] ∨ ∃ Q, R = 32 :: Q) (hd : s.data.toList.drop i = A ++ R) (hne : A ++ R ≠ []) (k : Nat) (hk : 100000 < k) :
 ∃ p, hurdleref08_part.f k s (i : Int) = some (p, ((i + A.length + 1 : Nat) : Int)) ∧ p.data.toList = A ∧ i + A.length ≤ s.size := by
 have hl := congrArg List.length hd
 have hi : i < s.size := by
  rw [← list_size]
  by_cases h : i < s.data.toList.length
  · exact h
  rw [List.drop_eq_nil_of_le (by omega)] at hd; exact absurd hd.symm hne
 rw [List.length_drop, List.length_append, list_size] at hl
 exact ⟨_, part_l0 s hs i hi A R hA hR k i (by omega) hd (by omega) (by omega), extract_list s _ _ A R hd rfl, by omega⟩
theorem part_total (s : ByteArray) (hs : s.size ≤ 100000) (i : Nat) (hi : i ≤ s.size + 1) (k : Nat) (hk : 100000 < k) :
 ∃ p, ∃ j : Nat, hurdleref08_part.f k s (i : Int) = some (p, (j : Int)) ∧ j ≤ s.size + 1 := by
 by_cases h : i < s.size
 rotate_left
 · obtain ⟨k, rfl⟩ : ∃ m, k = m + 1 := ⟨k - 1, by omega⟩
   refine ⟨⟨#[]⟩, i, ?_, hi⟩
   unfold hurdleref08_part.f
   simp only [hurdleref08_part.l0]
   rw [if_neg (by omega), if_pos (by omega)]
 have hne : s.data.toList.drop i ≠ [] := by
  intro e; have := congrArg List.length e; rw [List.length_drop, list_size] at this; simp at this; omega
 rcases cut_parts (s.data.toList.drop i) with ⟨h1, _⟩ | ⟨A, R, h1, h2, _⟩
 · obtain ⟨p, hp, _, hb⟩ := part_word s hs i _ [] h1 (.inl rfl) (List.append_nil _).symm (by simpa using hne) k hk
   exact ⟨p, _, hp, by omega⟩
 · obtain ⟨p, hp, _, hb⟩ := part_word s hs i A _ h2 (.inr ⟨R, rfl⟩) h1 (by simp) k hk
   exact ⟨p, _, hp, by omega⟩
def WLs : List ByteArray := [(⟨#[101, 113]⟩ : ByteArray), (⟨#[110, 101]⟩ : ByteArray), (⟨#[108, 116]⟩ : ByteArray), (⟨#[108, 101]⟩ : ByteArray), (⟨#[103, 116]⟩ : ByteArray), (⟨#[103, 101]⟩ : ByteArray)]
theorem rd_words (c : Nat) (hc : c < 6) : rdOf ByteArray.empty WLs (c : Int) = wordK c := by
 rcases (by omega : c = 0 ∨ c = 1 ∨ c = 2 ∨ c = 3 ∨ c = 4 ∨ c = 5) with rfl | rfl | rfl | rfl | rfl | rfl <;> rfl
def goodB (s p : ByteArray) (m v a c : Nat) : Bool := decide (p.data.toList = WL c) && decide (CT a c m v = s.data.toList)
theorem right_nat (a c : Nat) (ha : a < 6) (hc : c < 6) : rightB (a : Int) (c : Int) = true := by rw [rightB_iff]; omega
theorem print_at (a c m v : Nat) (ha : a < 6) (hc : c < 6) (hm : m < 18446744073709551616) (hv : v < 18446744073709551616) : H.hurdleref08_Print.f (a : Int) (c : Int) (m : Int) (v : Int) = some (condText a c (m : Int) (v : Int)) := by
 unfold H.hurdleref08_Print.f
 rw [if_pos ⟨right_nat a c ha hc, by unfold u64P; omega, by unfold u64P; omega⟩]
 try rfl
theorem l1_step (s p : ByteArray) (m v a c n : Nat) (ha : a < 6) (hc : c < 6) (hm : m < 18446744073709551616) (hv : v < 18446744073709551616) :
 hurdleref08_Parse.l1 (n + 1) s p (m : Int) (v : Int) (a : Int) (c : Int) = if goodB s p m v a c = true then some ((a : Int), (c : Int), (m : Int), (v : Int), true) else hurdleref08_Parse.l1 n s p (m : Int) (v : Int) (a : Int) ((c + 1 : Nat) : Int) := by
 simp only [hurdleref08_Parse.l1]
 rw [if_pos (by omega), show hurdleref08_Words.f = some WLs from rfl, Option.bind_some, if_pos (by omega), if_pos (by rw [show WLs.length = 6 from rfl]; omega), rd_words c hc, print_at a c m v ha hc hm hv, Option.bind_some, w64 c (by omega)]
 unfold goodB
 rw [ByteArray.toList_eq, ByteArray.toList_eq, ByteArray.toList_eq, ByteArray.toList_eq, condText_list]
 by_cases h1 : p.data.toList = (wordK c).data.toList
 rotate_left
 · rw [if_neg h1, if_neg (by rw [Bool.and_eq_true]; exact fun h => h1 (of_decide_eq_true h.1))]
 rw [if_pos h1]
 by_cases h2 : CT a c m v = s.data.toList
 · rw [if_pos h2, if_pos (by rw [Bool.and_eq_true]; exact ⟨decide_eq_true h1, decide_eq_true h2⟩)]
 rw [if_neg h2, if_neg (by rw [Bool.and_eq_true]; exact fun h => h2 (of_decide_eq_true h.2))]
theorem l1_none (s p : ByteArray) (m v a : Nat) (ha : a < 6) (hm : m < 18446744073709551616) (hv : v < 18446744073709551616) (hg : ∀ c, c < 6 → goodB s p m v a c = false) :
 ∀ (d n c : Nat), c + d = 6 → hurdleref08_Parse.l1 (n + d + 1) s p (m : Int) (v : Int) (a : Int) (c : Int) = hurdleref08_Parse.l0 n s p (m : Int) (v : Int) ((a + 1 : Nat) : Int) := by
 intro d
 induction d with
 | zero =>
  intro n c hc
  simp only [hurdleref08_Parse.l1]
  rw [if_neg (by omega), w64 a (by omega)]
  try rfl
 | succ d ih =>
  intro n c hc
  rw [l1_step s p m v a c _ ha (by omega) hm hv, hg c (by omega), if_neg (by decide), show n + (d + 1) = n + d + 1 by omega]
  exact ih n (c + 1) (by omega)
theorem l1_found (s p : ByteArray) (m v a c0 : Nat) (ha : a < 6) (hc0 : c0 < 6) (hm : m < 18446744073709551616) (hv : v < 18446744073709551616) (hg : goodB s p m v a c0 = true) (hu : ∀ c, c < 6 → goodB s p m v a c = true → c = c0) :
 ∀ (d n c : Nat), c + d = c0 → hurdleref08_Parse.l1 (n + d + 1) s p (m : Int) (v : Int) (a : Int) (c : Int) = some ((a : Int), (c0 : Int), (m : Int), (v : Int), true) := by
 intro d
 induction d with
 | zero =>
  intro n c hc
  obtain rfl : c = c0 := by omega
  rw [l1_step s p m v a c _ ha hc0 hm hv, hg, if_pos rfl]
 | succ d ih =>
  intro n c hc
  have hn : ¬ goodB s p m v a c = true := fun h => by have := hu c (by omega) h; omega
  rw [l1_step s p m v a c _ ha (by omega) hm hv, if_neg hn, show n + (d + 1) = n + d + 1 by omega]
  exact ih n (c + 1) (by omega)
theorem l0_none (s p : ByteArray) (m v : Nat) (hm : m < 18446744073709551616) (hv : v < 18446744073709551616) (hg : ∀ a c, a < 6 → c < 6 → goodB s p m v a c = false) :
 ∀ (d n a : Nat), a + d = 6 → hurdleref08_Parse.l0 (n + 8 * d + 1) s p (m : Int) (v : Int) (a : Int) = some (0, 0, 0, 0, false) := by
 intro d
 induction d with
 | zero =>
  intro n a ha
  simp only [hurdleref08_Parse.l0]
  rw [if_neg (by omega)]
 | succ d ih =>
  intro n a ha
  simp only [hurdleref08_Parse.l0]
  rw [if_pos (by omega), show n + 8 * (d + 1) = (n + 8 * d + 1) + 6 + 1 by omega]
  exact (l1_none s p m v a (by omega) hm hv (fun c hc => hg a c (by omega) hc) 6 _ 0 (by omega)).trans (ih n (a + 1) (by omega))
theorem l0_found (s p : ByteArray) (m v a0 c0 : Nat) (ha0 : a0 < 6) (hc0 : c0 < 6) (hm : m < 18446744073709551616) (hv : v < 18446744073709551616) (hg : goodB s p m v a0 c0 = true) (hu : ∀ a c, a < 6 → c < 6 → goodB s p m v a c = true → a = a0 ∧ c = c0) :
 ∀ (d n a : Nat), a + d = a0 → hurdleref08_Parse.l0 (n + 8 * d + 8) s p (m : Int) (v : Int) (a : Int) = some ((a0 : Int), (c0 : Int), (m : Int), (v : Int), true) := by
 intro d
 induction d with
 | zero =>
  intro n a ha
  obtain rfl : a = a0 := by omega
  simp only [hurdleref08_Parse.l0]
  rw [if_pos (by omega), show n + 8 * 0 + 7 = (n + (6 - c0)) + c0 + 1 by omega]
  exact l1_found s p m v a c0 ha0 hc0 hm hv hg (fun c hc h => (hu a c ha0 hc h).2) c0 _ 0 (by omega)
 | succ d ih =>
  intro n a ha
  simp only [hurdleref08_Parse.l0]
  have hn : ∀ c, c < 6 → goodB s p m v a c = false := fun c hc => Bool.eq_false_iff.2 (fun h => by have := (hu a c (by omega) hc h).1; omega)
  rw [if_pos (by omega), show n + 8 * (d + 1) + 7 = (n + 8 * d + 8) + 6 + 1 by omega]
  exact (l1_none s p m v a (by omega) hm hv hn 6 _ 0 (by omega)).trans (ih n (a + 1) (by omega))
def refParseI : Option (Nat × Nat × Nat × Nat) → Int × Int × Int × Int × Bool
 | some (a, k, m, v) => ((a : Int), (k : Int), (m : Int), (v : Int), true)
 | none => (0, 0, 0, 0, false)
theorem parse_num (p : ByteArray) : ∃ n : Nat, ∃ b, n < 18446744073709551616 ∧ H.hurdleref01_Parse.f p = some ((n : Int), b) := by
 unfold H.hurdleref01_Parse.f
 cases h : parseL p.data.toList with
 | none => exact ⟨0, false, by omega, rfl⟩
 | some n => exact ⟨n, true, parseL_lt h, rfl⟩
theorem drop_step {l A Q : List UInt8} {i : Nat} (h : l.drop i = A ++ 32 :: Q) : l.drop (i + A.length + 1) = Q := by
 rw [show i + A.length + 1 = i + (A.length + 1) by omega, ← List.drop_drop, h]
 simp
theorem good_none {s p : ByteArray} {m v : Nat} (hm : m < 18446744073709551616) (hv : v < 18446744073709551616) (h : condParse s.data.toList = none) (a c : Nat) (ha : a < 6) (hc : c < 6) : goodB s p m v a c = false := by
 refine Bool.eq_false_iff.2 (fun hg => ?_)
 unfold goodB at hg
 rw [Bool.and_eq_true] at hg
 rw [← of_decide_eq_true hg.2, condParse_text a c m v ha hc hm hv] at h
 simp at h
theorem refParse_eq (s : ByteArray) (hs : s.size ≤ 100000) (k : Nat) (hk : 100000 < k) : hurdleref08_Parse.f k s = some (refParseI (condParse s.data.toList)) := by
 unfold hurdleref08_Parse.f
 cases hp : condParse s.data.toList with
 | none =>
  obtain ⟨p1, i1, e1, b1⟩ := part_total s hs 0 (by omega) k hk
  obtain ⟨p2, i2, e2, b2⟩ := part_total s hs i1 b1 k hk
  obtain ⟨p3, i3, e3, b3⟩ := part_total s hs i2 b2 k hk
  obtain ⟨p4, i4, e4, b4⟩ := part_total s hs i3 b3 k hk
  obtain ⟨m, b, hm, e5⟩ := parse_num p2
  obtain ⟨v, b', hv, e6⟩ := parse_num p4
  rw [show (0 : Int) = ((0 : Nat) : Int) from rfl, e1, Option.bind_some, e2, Option.bind_some, e3, Option.bind_some, e4, Option.bind_some, e5, Option.bind_some, e6, Option.bind_some]
  obtain ⟨n, rfl⟩ : ∃ n, k = n + 8 * 6 + 1 := ⟨k - 49, by omega⟩
  exact l0_none s p3 m v hm hv (fun a c ha hc => good_none hm hv hp a c ha hc) 6 n 0 (by omega)
 | some x =>
  obtain ⟨a, c, m, v⟩ := x
  obtain ⟨hl, ha, hc, hm, hv⟩ := text_condParse hp
  have d0 : s.data.toList.drop 0 = [97, UInt8.ofNat (48 + a)] ++ 32 :: (TL m ++ 32 :: (WL c ++ 32 :: TL v)) := by rw [hl]; rfl
  obtain ⟨p1, e1, _, _⟩ := part_word s hs 0 _ _ (arg_no32 a ha) (.inr ⟨_, rfl⟩) d0 (by simp) k hk
  have d1 := drop_step d0
  obtain ⟨p2, e2, l2, _⟩ := part_word s hs _ _ _ (TL_no32 m hm) (.inr ⟨_, rfl⟩) d1 (by simp) k hk
  have d2 := drop_step d1
  obtain ⟨p3, e3, l3, _⟩ := part_word s hs _ _ _ (WL_no32 c hc) (.inr ⟨_, rfl⟩) d2 (by simp) k hk
  have d3 := drop_step d2
  obtain ⟨p4, e4, l4, _⟩ := part_word s hs _ (TL v) [] (TL_no32 v hv) (.inl rfl) (d3.trans (List.append_nil _).symm) (by simp [TL, textL, u8s]) k hk
  have e5 : H.hurdleref01_Parse.f p2 = some ((m : Int), true) := by
   unfold H.hurdleref01_Parse.f
   rw [l2]; unfold TL; rw [parse_text m hm]
  have e6 : H.hurdleref01_Parse.f p4 = some ((v : Int), true) := by
   unfold H.hurdleref01_Parse.f
   rw [l4]; unfold TL; rw [parse_text v hv]
  rw [show (0 : Int) = ((0 : Nat) : Int) from rfl, e1, Option.bind_some, e2, Option.bind_some, e3, Option.bind_some, e4, Option.bind_some, e5, Option.bind_some, e6, Option.bind_some]
  obtain ⟨n, rfl⟩ : ∃ n, k = n + 8 * a + 8 := ⟨k - 8 * a - 8, by omega⟩
  refine l0_found s p3 m v a c ha hc hm hv ?_ ?_ a n 0 (by omega)
  · unfold goodB
    rw [Bool.and_eq_true]
    exact ⟨decide_eq_true l3, decide_eq_true hl.symm⟩
  · intro a' c' ha' hc' hg
    unfold goodB at hg
    rw [Bool.and_eq_true] at hg
    have h2 := of_decide_eq_true hg.2
    rw [← h2, condParse_text a' c' m v ha' hc' hm hv] at hp
    have := Option.some.inj hp
    simp only [Prod.mk.injEq] at this
    exact ⟨this.1, this.2.1⟩
end Go.Proofs.Ytekpbgmmogpbdaa.H
set_option maxRecDepth 100000
namespace Go.Proofs.Ytekpbgmmogpbdaa.H
open Go.RowKit Go.Proofs.Ytekpbgmmogpbdaa.P Go.Proofs.YtekpbgmmogpbdaaW.PrintWords
def bl (l : List (List UInt8)) : List ByteArray := l.map ofBytes
theorem bl_rd (l : List (List UInt8)) (i : Nat) (h : i < l.length) : rdOf ByteArray.empty (bl l) (i : Int) = ofBytes l[i] := by
 unfold rdOf bl
 simp [List.getD, h]
def glue (w : List UInt8) : List (List UInt8) → List (List UInt8)
 | a :: r => (w ++ a) :: r
 | [] => []
theorem cut_l0 (s : ByteArray) (hs : s.size ≤ 100000) (c : UInt8) : ∀ (d i : Nat) (out : List ByteArray) (w : List UInt8), i + d = s.size → w.length ≤ i → out.length ≤ i →
 Ev (fun k => hurdleref02_Cut.l0 k s (c.toNat : Int) out (ofBytes w) (i : Int)) (out ++ bl (glue w (spl c (s.data.toList.drop i)))) := by
 intro d
 induction d with
 | zero =>
  intro i out w hi hw ho
  have hd : s.data.toList.drop i = [] := List.drop_eq_nil_of_le (by rw [list_size]; omega)
  refine Ev.step (f := fun _ => some (out ++ [ofBytes w])) (fun k => ?_) (by rw [hd]; simp only [spl, glue, bl, List.map, List.append_nil]; exact Ev.now _)
  simp only [hurdleref02_Cut.l0]
  rw [if_neg (by omega), if_pos (by omega)]
 | succ d ih =>
  intro i out w hi hw ho
  obtain ⟨b, hb, hd⟩ := bt_drop s i (by omega)
  by_cases hc : b = c
  · subst hc
    have h2 := ih (i + 1) (out ++ [ofBytes w]) [] (by omega) (by simp) (by simp; omega)
    refine Ev.step (f := fun k => hurdleref02_Cut.l0 k s (b.toNat : Int) (out ++ [ofBytes w]) (ofBytes []) ((i + 1 : Nat) : Int)) (fun k => ?_) ?_
    · simp only [hurdleref02_Cut.l0]
      rw [if_pos (by omega), if_pos (by omega), if_pos hb, if_pos (by omega), w64 i (by omega)]
      rfl
    · rw [hd]
      simp only [spl, if_true, glue, List.append_nil]
      have e : glue [] (spl b (s.data.toList.drop (i + 1))) = spl b (s.data.toList.drop (i + 1)) := by
       cases spl b (s.data.toList.drop (i + 1)) <;> rfl
      rw [e] at h2
      simpa [bl] using h2
  have h2 := ih (i + 1) out (w ++ [b]) (by omega) (by simp; omega) (by omega)
  have hx : s.extract i (i + 1) = ofBytes [b] := by
   have := extract_list s i (i + 1) [b] (s.data.toList.drop (i + 1)) hd (by simp)
   rw [← ofB (s.extract i (i + 1)), this]
  refine Ev.step (f := fun k => hurdleref02_Cut.l0 k s (c.toNat : Int) out (ofBytes (w ++ [b])) ((i + 1 : Nat) : Int)) (fun k => ?_) ?_
  · simp only [hurdleref02_Cut.l0]
    rw [if_pos (by omega), if_pos (by omega), if_neg, w64 i (by omega), if_pos (by omega), if_pos (by omega)]
    · simp only [Int.toNat_natCast]
      rw [hx, if_pos (by rw [size_of, size_of]; simp; omega), of_append]
    · rw [hb]
      intro e
      exact hc (UInt8.toNat_inj.1 (by omega))
  · rw [hd]
    simp only [spl, if_neg hc]
    cases hsp : spl c (s.data.toList.drop (i + 1)) with
    | nil => exact absurd hsp (spl_ne _ _)
    | cons a r =>
     rw [hsp] at h2
     simpa [glue] using h2
theorem cut_ev (s : ByteArray) (hs : s.size ≤ 100000) (c : UInt8) (n : Int) (hn : n = (c.toNat : Int)) : Ev (fun k => hurdleref02_Cut.f k s n) (bl (spl c s.data.toList)) := by
 subst hn
 have h := cut_l0 s hs c s.size 0 [] [] (by omega) (by simp) (by simp)
 have e : glue [] (spl c (s.data.toList.drop 0)) = spl c s.data.toList := by
  rw [List.drop_zero]
  cases spl c s.data.toList <;> rfl
 rw [e] at h
 exact h
theorem spl_size (c : UInt8) : ∀ (l : List UInt8), (spl c l).length ≤ l.length + 1 ∧ ∀ w ∈ spl c l, w.length ≤ l.length := by
 intro l
 induction l with
 | nil => simp [spl]
 | cons x l ih =>
  simp only [spl]
  split
  · refine ⟨by simp; omega, fun w hw => ?_⟩
    rcases List.mem_cons.1 hw with rfl | hw
    · simp
    · have := ih.2 w hw; simp; omega
  · cases h : spl c l with
    | nil => exact absurd h (spl_ne _ _)
    | cons a r =>
     rw [h] at ih
     refine ⟨by have := ih.1; simp at this ⊢; omega, fun w hw => ?_⟩
     rcases List.mem_cons.1 hw with rfl | hw
     · have := ih.2 a (by simp); simp; omega
     · have := ih.2 w (by simp [hw]); simp; omega
end Go.Proofs.Ytekpbgmmogpbdaa.H
set_option maxRecDepth 100000
namespace Go.Proofs.Ytekpbgmmogpbdaa.H
open Go.RowKit Go.Proofs.Ytekpbgmmogpbdaa.P Go.Proofs.YtekpbgmmogpbdaaW.PrintWords
def condsX : List (List UInt8) → Option (List S61)
 | _ :: a :: b :: c :: d :: ws => match condParse (joinC a b c d) with
  | some x => (condsX ws).map (S61of x :: ·)
  | none => none
 | _ => some []
theorem S61_ok {a b c d : List UInt8} {x : Nat × Nat × Nat × Nat} (h : condParse (joinC a b c d) = some x) : condOk (S61of x) := by
 obtain ⟨pa, pk, pm, pv⟩ := x
 obtain ⟨hl, ha, hk, hm, hv⟩ := text_condParse h
 exact ⟨(rightB_iff _ _).2 (by simp only [S61of]; omega), by simp only [S61of, u64P]; omega, by simp only [S61of, u64P]; omega⟩
theorem condsX_ok : ∀ (n : Nat) (ws : List (List UInt8)) (cs : List S61), ws.length ≤ n → condsX ws = some cs → (∀ c ∈ cs, condOk c) ∧ 5 * cs.length ≤ ws.length := by
 intro n
 induction n with
 | zero =>
  intro ws cs hn h
  cases ws with
  | nil => simp [condsX] at h; subst h; simp
  | cons => simp at hn
 | succ n ih =>
  intro ws cs hn h
  rcases ws with _ | ⟨w, _ | ⟨a, _ | ⟨b, _ | ⟨c, _ | ⟨d, ws⟩⟩⟩⟩⟩ <;> try (simp [condsX] at h; subst h; simp; done)
  simp only [condsX] at h
  cases hc : condParse (joinC a b c d) with
  | none => rw [hc] at h; simp at h
  | some x =>
   rw [hc] at h
   simp only [Option.map_eq_some_iff] at h
   obtain ⟨cs', h2, rfl⟩ := h
   obtain ⟨i1, i2⟩ := ih ws cs' (by simp at hn; omega) h2
   refine ⟨fun y hy => ?_, by simp; omega⟩
   rcases List.mem_cons.1 hy with rfl | hy
   · exact S61_ok hc
   · exact i1 y hy
theorem condsX_words : ∀ (cs : List S61) (j : List UInt8), (∀ c ∈ cs, condOk c) → condsX (condsW j cs) = some cs ∧ (condsW j cs).length = 5 * cs.length := by
 intro cs
 induction cs with
 | nil => intro j _; exact ⟨rfl, rfl⟩
 | cons c cs ih =>
  intro j h
  obtain ⟨h1, h2, h3, h4, h5⟩ := right_of (h c (by simp))
  have hp := condParse_text c.f0.toNat c.f1.toNat c.f2.toNat c.f3.toNat h1 h2 h3 h4
  obtain ⟨i1, i2⟩ := ih [97, 110, 100] (fun c hc => h c (by simp [hc]))
  refine ⟨?_, by simp only [condsW, condWs, List.length_cons, List.length_append, List.length_nil, i2]; omega⟩
  simp only [condsW, condWs, List.cons_append, List.nil_append, condsX]
  rw [show joinC [97, UInt8.ofNat (48 + c.f0.toNat)] (TL c.f2.toNat) (WL c.f1.toNat) (TL c.f3.toNat) = CT c.f0.toNat c.f1.toNat c.f2.toNat c.f3.toNat from rfl, hp]
  simp only []
  rw [i1, h5]
  rfl
abbrev RR := Int × Int × List S61 × Int × Bool
def noR : RR := (0, 0, [], 0, false)
def readR (l : List UInt8) (x0 x1 x3 : Int) (acc : List S61) : Option (List S61) → RR
 | some cs => if ruleT ⟨x0, x1, acc ++ cs, x3⟩ = l then (x0, x1, acc ++ cs, x3, true) else noR
 | none => noR
theorem refParse_ev (s : ByteArray) (hs : s.size ≤ 100000) : Ev (fun k => hurdleref08_Parse.f k s) (refParseI (condParse s.data.toList)) := ⟨100001, fun k hk => refParse_eq s hs k (by omega)⟩
def readW (l : List UInt8) (ws : List (List UInt8)) : RR :=
 if ws.length < 4 ∨ ws.length > 24 ∨ (ws.length - 4) % 5 ≠ 0 then noR else match ws with
  | _ :: m :: c :: a :: r =>
   if (readOf ML (ofBytes m)).2 = 0 ∧ (readOf (callsOf (readOf ML (ofBytes m)).1) (ofBytes c)).2 = 0 ∧ (readAct (ofBytes a)).2 = 0 then
    readR l (readOf ML (ofBytes m)).1 (readOf (callsOf (readOf ML (ofBytes m)).1) (ofBytes c)).1 (readAct (ofBytes a)).1 [] (condsX r)
   else noR
  | _ => noR
theorem reads_ok {m c a : ByteArray} (h : (readOf ML m).2 = 0 ∧ (readOf (callsOf (readOf ML m).1) c).2 = 0 ∧ (readAct a).2 = 0) :
 u32P (readOf ML m).1 ∧ u32P (readOf (callsOf (readOf ML m).1) c).1 ∧ dfOk (readAct a).1 := by
 obtain ⟨k1, k2, k3⟩ := h
 rcases text_read good_ML m with ⟨_, n, hn, en, tn⟩ | h2
 · rw [en] at k2 ⊢
   rcases text_read (good_calls (n : Int)) c with ⟨_, n2, hn2, en2, tn2⟩ | h2
   · rcases act_readAct a with ⟨_, v, hv, ev, tv⟩ | h2
     · rw [en2, ev]
       exact ⟨by unfold u32P; omega, by unfold u32P; omega, ⟨by unfold u32P; omega, by simp only [Int.toNat_natCast]; rw [tv]⟩⟩
     · rw [h2] at k3; simp at k3
   · rw [h2] at k2; simp at k2
 · rw [h2] at k1; simp at k1
theorem readW_eq (l : List UInt8) : readW l (spl 32 l) = match lineV l with | some (.inl x) => (x.f0, x.f1, x.f2, x.f3, true) | _ => noR := by
 by_cases hx : ∃ x, lineV l = some (.inl x)
 · obtain ⟨x, hx⟩ := hx
   rw [hx]
   obtain ⟨e, ok⟩ := rule_lineV hx
   subst e
   rw [ruleT_spl ok]
   obtain ⟨c1, c2⟩ := condsX_words x.f2 [105, 102] ok.2.2.2.2
   have hl := ok.2.2.2.1
   have hrw : ruleWs x = machL x :: callL x :: actL x.f3 :: condsW [105, 102] x.f2 := rfl
   rw [hrw]
   unfold readW
   rw [if_neg (by simp only [List.length_cons, c2]; omega)]
   simp only []
   have hv := ruleV_words x ok
   rw [hrw] at hv
   simp only [ruleV] at hv
   split at hv
   · rename_i hok
     rw [if_pos hok, c1]
     rw [condsV_words _ _ ok.2.2.2.2] at hv
     simp only [hl, if_true, Option.some.injEq] at hv
     have f0 := congrArg S40.f0 hv
     have f1 := congrArg S40.f1 hv
     have f3 := congrArg S40.f3 hv
     simp only [] at f0 f1 f3
     rw [f0] at f1 ⊢
     rw [f1, f3]
     simp only [readR, List.nil_append, if_true]
   · simp at hv
 have e : (match lineV l with | some (.inl x) => ((x.f0, x.f1, x.f2, x.f3, true) : RR) | _ => noR) = noR := by
  cases h : lineV l with
  | none => rfl
  | some y => cases y with
   | inl x => exact absurd ⟨x, h⟩ hx
   | inr v => rfl
 rw [e]
 unfold readW
 split
 · rfl
 · split
   · rename_i hlen _ w m c a r hws
     split
     · rename_i hok
       cases hc : condsX r with
       | none => rfl
       | some cs =>
        simp only [readR, List.nil_append]
        split
        · rename_i he
          obtain ⟨o0, o1, o3⟩ := reads_ok hok
          obtain ⟨i1, i2⟩ := condsX_ok _ r cs (Nat.le_refl _) hc
          rw [hws] at hlen
          simp only [List.length_cons] at hlen
          exact absurd ⟨_, by rw [← he]; exact lineV_rule ⟨o0, o1, o3, by simp only []; omega, i1⟩⟩ hx
        · rfl
     · rfl
   · rfl
end Go.Proofs.Ytekpbgmmogpbdaa.H
set_option maxRecDepth 100000
namespace Go.Proofs.Ytekpbgmmogpbdaa.H
open Go.RowKit Go.Proofs.Ytekpbgmmogpbdaa.P Go.Proofs.YtekpbgmmogpbdaaW.PrintWords
theorem w5 (i : Nat) (h : i ≤ 24) : wrap64 ((i : Int) + 1) = ((i + 1 : Nat) : Int) ∧ wrap64 ((i : Int) + 2) = ((i + 2 : Nat) : Int) ∧ wrap64 ((i : Int) + 3) = ((i + 3 : Nat) : Int) ∧ wrap64 ((i : Int) + 4) = ((i + 4 : Nat) : Int) ∧ wrap64 ((i : Int) + 5) = ((i + 5 : Nat) : Int) := by
 unfold wrap64; omega
set_option maxHeartbeats 2000000 in
theorem read_l0 (s : ByteArray) (ws : List (List UInt8)) (hws : ws.length ≤ 24) (hw : ∀ w ∈ ws, w.length ≤ 20000) (x0 x1 x3 : Int) (h0 : u32P x0) (h1 : u32P x1) (h3 : dfOk x3) : ∀ (d i : Nat) (acc : List S61), i + 5 * d = ws.length → acc.length + d ≤ 4 → (∀ c ∈ acc, condOk c) →
 Ev (fun k => hurdleref10_Read.l0 k s (bl ws) (i : Int) x0 x1 acc x3) (readR s.data.toList x0 x1 x3 acc (condsX (ws.drop i))) := by
 have hlen : (bl ws).length = ws.length := by simp [bl]
 intro d
 induction d with
 | zero =>
  intro i acc hi ha hk
  have hd : ws.drop i = [] := List.drop_eq_nil_of_le (by omega)
  have ok : ruleOk ⟨x0, x1, acc, x3⟩ := ⟨h0, h1, h3, by simpa using ha, hk⟩
  refine Ev.step (f := fun k => (hurdleref10_Line.f k x0 x1 acc x3).bind fun t => if t.toList = s.toList then some (x0, x1, acc, x3, true) else some (0, 0, [], 0, false)) (fun k => ?_) ?_
  · simp only [hurdleref10_Read.l0]
    rw [if_neg (by omega)]
  · refine Ev.bind (line_ev ok) ?_
    rw [hd]
    simp only [condsX, readR, List.append_nil]
    by_cases he : ruleT ⟨x0, x1, acc, x3⟩ = s.data.toList
    · rw [if_pos he]
      exact Ev_pos (ba_same.2 (by rw [data_of]; exact he)) (Ev.now _)
    rw [if_neg he]
    exact Ev_neg (fun hh => he (by have := ba_same.1 hh; rwa [data_of] at this)) (Ev.now _)
 | succ d ih =>
  intro i acc hi ha hk
  have l1 : i + 4 < ws.length := by omega
  obtain ⟨q1, q2, q3, q4, q5⟩ := w5 i (by omega)
  have hd : ws.drop i = ws[i] :: ws[i + 1] :: ws[i + 2] :: ws[i + 3] :: ws[i + 4] :: ws.drop (i + 5) := by
   rw [List.drop_eq_getElem_cons (by omega), List.drop_eq_getElem_cons (by omega), List.drop_eq_getElem_cons (by omega), List.drop_eq_getElem_cons (by omega), List.drop_eq_getElem_cons (by omega)]
  have g1 := hw _ (List.getElem_mem (show i + 1 < ws.length by omega))
  have g2 := hw _ (List.getElem_mem (show i + 2 < ws.length by omega))
  have g3 := hw _ (List.getElem_mem (show i + 3 < ws.length by omega))
  have g4 := hw _ (List.getElem_mem (show i + 4 < ws.length by omega))
  have r1 := bl_rd ws (i + 1) (by omega)
  have r2 := bl_rd ws (i + 2) (by omega)
  have r3 := bl_rd ws (i + 3) (by omega)
  have r4 := bl_rd ws (i + 4) (by omega)
  rw [hd]
  generalize ws[i + 1] = a at *
  generalize ws[i + 2] = b at *
  generalize ws[i + 3] = c at *
  generalize ws[i + 4] = e at *
  have h32 : (⟨#[32]⟩ : ByteArray) = ofBytes [32] := rfl
  have hj : ((((((a ++ [32]) ++ b) ++ [32]) ++ c) ++ [32]) ++ e) = joinC a b c e := by simp [joinC]
  have hjl : (joinC a b c e).length ≤ 100000 := by rw [← hj]; simp only [List.length_append, List.length_cons, List.length_nil]; omega
  refine Ev.step (f := fun k => (hurdleref08_Parse.f k (ofBytes (joinC a b c e))).bind fun bt402 => if bt402.2.2.2.2 = true then (if acc.length < 4398046511104 then hurdleref10_Read.l0 k s (bl ws) ((i + 5 : Nat) : Int) x0 x1 (acc ++ [(⟨bt402.1, bt402.2.1, bt402.2.2.1, bt402.2.2.2.1⟩ : S61)]) x3 else none) else some (0, 0, [], 0, false)) (fun k => ?_) ?_
  · simp only [hurdleref10_Read.l0, q1, q2, q3, q4, q5, r1, r2, r3, r4, h32, of_append, size_of, hj, hlen, List.length_append, List.length_cons, List.length_nil]
    rw [if_pos (by omega), if_pos (by omega), if_pos (by omega), if_pos (by omega), if_pos (by omega), if_pos (by omega), if_pos (by omega), if_pos (by omega), if_pos (by omega), if_pos (by omega), if_pos (by omega), if_pos (by omega), if_pos (by omega), if_pos (by omega), if_pos (by omega)]
  · refine Ev.bind (refParse_ev _ (by rw [size_of]; exact hjl)) ?_
    rw [data_of]
    simp only [condsX]
    cases hc : condParse (joinC a b c e) with
    | none =>
     simp only [refParseI, readR]
     exact Ev_neg (by simp) (Ev.now _)
    | some x =>
     obtain ⟨pa, pk, pm, pv⟩ := x
     have hok := S61_ok hc
     have h2 := ih (i + 5) (acc ++ [S61of (pa, pk, pm, pv)]) (by omega) (by simp; omega) (fun y hy => by
      rcases List.mem_append.1 hy with hy | hy
      · exact hk y hy
      · simp only [List.mem_cons, List.not_mem_nil, or_false] at hy; subst hy; exact hok)
     have e2 : readR s.data.toList x0 x1 x3 (acc ++ [S61of (pa, pk, pm, pv)]) (condsX (ws.drop (i + 5))) = readR s.data.toList x0 x1 x3 acc ((condsX (ws.drop (i + 5))).map (S61of (pa, pk, pm, pv) :: ·)) := by
      cases condsX (ws.drop (i + 5)) with
      | none => rfl
      | some cs => simp only [readR, Option.map_some, List.append_assoc, List.cons_append, List.nil_append]
     rw [e2] at h2
     simp only [refParseI]
     exact Ev_pos trivial (Ev_pos (by omega) h2)
theorem rm_ev (s : ByteArray) : Ev (fun k => hurdleref09_ReadMachine.f k s) ((readOf ML s).1, ((readOf ML s).2 == 0)) := ⟨200, fun k hk => ref_readMachine s k hk⟩
theorem rc_ev (a : Int) (s : ByteArray) : Ev (fun k => hurdleref09_ReadCall.f k a s) ((readOf (callsOf a) s).1, ((readOf (callsOf a) s).2 == 0)) := ⟨200, fun k hk => ref_readCall a s k hk⟩
theorem ra_ev (s : ByteArray) : Ev (fun k => hurdleref09_ReadAction.f k s) ((readAct s).1, ((readAct s).2 == 0)) := Ev.of (hurdleref09_ReadAction.mono s) (ref_readAction s)
theorem read_j1 (s : ByteArray) (ws : List (List UInt8)) (hws : ws.length ≤ 24) (hw : ∀ w ∈ ws, w.length ≤ 20000) (x0 x1 x3 : Int) (h0 : u32P x0) (h1 : u32P x1) (h3 : dfOk x3) (d : Nat) (hd : 4 + 5 * d = ws.length) :
 Ev (fun k => hurdleref10_Read.j1 k s (bl ws) x0 x1 x3 false) (readR s.data.toList x0 x1 x3 [] (condsX (ws.drop 4))) := by
 have h := read_l0 s ws hws hw x0 x1 x3 h0 h1 h3 d 4 [] hd (by simp; omega) (by simp)
 refine Ev.step (f := fun k => hurdleref10_Read.l0 k s (bl ws) ((4 : Nat) : Int) x0 x1 [] x3) (fun k => ?_) h
 simp only [hurdleref10_Read.j1]
 rw [if_neg (by simp)]
 rfl
theorem read_bad (s : ByteArray) (ws : List ByteArray) : Ev (fun k => hurdleref10_Read.j0 k s ws true) noR :=
 Ev.step (f := fun _ => some noR) (fun k => by simp only [hurdleref10_Read.j0, if_true]; rfl) (Ev.now _)
theorem read_j1t (s : ByteArray) (ws : List ByteArray) (x0 x1 x3 : Int) : Ev (fun k => hurdleref10_Read.j1 k s ws x0 x1 x3 true) noR :=
 Ev.step (f := fun _ => some noR) (fun k => by simp only [hurdleref10_Read.j1, if_true]; rfl) (Ev.now _)
theorem read_w (s : ByteArray) (ws : List (List UInt8)) (hw : ∀ w ∈ ws, w.length ≤ 20000) (hn : ws.length ≤ 1000000) :
 Ev (fun k => if ((bl ws).length : Int) < 4 then hurdleref10_Read.j0 k s (bl ws) true else if ((bl ws).length : Int) > 24 then hurdleref10_Read.j0 k s (bl ws) true else hurdleref10_Read.j0 k s (bl ws) ((Int.tmod (wrap64 (((bl ws).length : Int) - 4)) 5) != 0)) (readW s.data.toList ws) := by
 have hl : (bl ws).length = ws.length := by simp [bl]
 simp only [hl]
 by_cases h4 : ws.length < 4
 · have e : readW s.data.toList ws = noR := by unfold readW; rw [if_pos (.inl h4)]
   rw [e]
   exact Ev_pos (by omega) (read_bad s _)
 refine Ev_neg (by omega) ?_
 by_cases h24 : ws.length > 24
 · have e : readW s.data.toList ws = noR := by unfold readW; rw [if_pos (.inr (.inl h24))]
   rw [e]
   exact Ev_pos (by omega) (read_bad s _)
 refine Ev_neg (by omega) ?_
 have e1 : wrap64 ((ws.length : Int) - 4) = ((ws.length - 4 : Nat) : Int) := by unfold wrap64; omega
 have e2 : Int.tmod ((ws.length - 4 : Nat) : Int) 5 = (((ws.length - 4) % 5 : Nat) : Int) := rfl
 rw [e1, e2]
 by_cases hm : (ws.length - 4) % 5 = 0
 rotate_left
 · have e : readW s.data.toList ws = noR := by unfold readW; rw [if_pos (.inr (.inr hm))]
   rw [e]
   have e3 : ((((ws.length - 4) % 5 : Nat) : Int) != 0) = true := by rw [bne_iff_ne]; omega
   rw [e3]
   exact read_bad s _
 rw [hm]
 have e3 : ((((0 : Nat) : Int)) != 0) = false := rfl
 rw [e3]
 unfold readW
 rw [if_neg (by omega)]
 match ws, h4, hm, h24, hw, hn with
 | w :: m :: c :: a :: r, h4, hm, h24, hw, hn =>
  simp only []
  have hlen : (bl (w :: m :: c :: a :: r)).length = r.length + 4 := by simp [bl]
  have r1 : rdOf ByteArray.empty (bl (w :: m :: c :: a :: r)) 1 = ofBytes m := bl_rd (w :: m :: c :: a :: r) 1 (by simp)
  have r2 : rdOf ByteArray.empty (bl (w :: m :: c :: a :: r)) 2 = ofBytes c := bl_rd (w :: m :: c :: a :: r) 2 (by simp)
  have r3 : rdOf ByteArray.empty (bl (w :: m :: c :: a :: r)) 3 = ofBytes a := bl_rd (w :: m :: c :: a :: r) 3 (by simp)
  have main := read_j1 s (w :: m :: c :: a :: r) (by omega) hw
  have bad := read_j1t s (bl (w :: m :: c :: a :: r))
  generalize bl (w :: m :: c :: a :: r) = B at *
  refine Ev.step (f := fun k => (hurdleref09_ReadMachine.f k (ofBytes m)).bind fun bt390 => (hurdleref09_ReadCall.f k bt390.1 (ofBytes c)).bind fun bt393 => (hurdleref09_ReadAction.f k (ofBytes a)).bind fun bt396 => (if bt390.2 = true then (if bt393.2 = true then (hurdleref10_Read.j1 k s B bt390.1 bt393.1 bt396.1 (!bt396.2)) else (hurdleref10_Read.j1 k s B bt390.1 bt393.1 bt396.1 true)) else (hurdleref10_Read.j1 k s B bt390.1 bt393.1 bt396.1 true))) (fun k => ?_) ?_
  · simp only [hurdleref10_Read.j0, r1, r2, r3, hlen]
    rw [if_neg (by simp), if_pos (by omega)]
    congr 1
    funext bt
    rw [if_pos (by omega)]
    congr 1
    funext bt2
    rw [if_pos (by omega)]
  · refine Ev.bind (rm_ev (ofBytes m)) (Ev.bind (rc_ev _ (ofBytes c)) (Ev.bind (ra_ev (ofBytes a)) ?_))
    simp only []
    by_cases k1 : (readOf ML (ofBytes m)).2 = 0
    rotate_left
    · rw [if_neg (fun h => k1 h.1)]
      exact Ev_neg (by simpa using k1) (bad _ _ _)
    refine Ev_pos (by rw [k1]; rfl) ?_
    by_cases k2 : (readOf (callsOf (readOf ML (ofBytes m)).1) (ofBytes c)).2 = 0
    rotate_left
    · rw [if_neg (fun h => k2 h.2.1)]
      exact Ev_neg (by simpa using k2) (bad _ _ _)
    refine Ev_pos (by rw [k2]; rfl) ?_
    by_cases k3 : (readAct (ofBytes a)).2 = 0
    · rw [if_pos ⟨k1, k2, k3⟩, k3]
      obtain ⟨o0, o1, o3⟩ := reads_ok ⟨k1, k2, k3⟩
      exact main _ _ _ o0 o1 o3 (r.length / 5) (by simp at hm ⊢; omega)
    rw [if_neg (fun h => k3 h.2.2)]
    have e5 : (!((readAct (ofBytes a)).2 == 0)) = true := by simp [k3]
    rw [e5]
    exact bad _ _ _
 | [], h4, _, _, _, _ => exact absurd h4 (by simp)
 | [_], h4, _, _, _, _ => exact absurd h4 (by simp)
 | [_, _], h4, _, _, _, _ => exact absurd h4 (by simp)
 | [_, _, _], h4, _, _, _, _ => exact absurd h4 (by simp)
theorem read_ev (s : ByteArray) (hs : s.size ≤ 20000) : Ev (fun k => hurdleref10_Read.f k s) (match lineV s.data.toList with | some (.inl x) => (x.f0, x.f1, x.f2, x.f3, true) | _ => noR) := by
 have hz := spl_size 32 s.data.toList
 rw [list_size] at hz
 have h : Ev (fun k => hurdleref10_Read.f k s) (readW s.data.toList (spl 32 s.data.toList)) := by
  unfold hurdleref10_Read.f
  exact Ev.bind (cut_ev s (by omega) 32 32 rfl) (read_w s _ (fun w hw => by have := hz.2 w hw; omega) (by omega))
 rw [readW_eq] at h
 exact h
end Go.Proofs.Ytekpbgmmogpbdaa.H
set_option maxRecDepth 100000
namespace Go.Proofs.Ytekpbgmmogpbdaa.H
open Go.RowKit Go.Proofs.Ytekpbgmmogpbdaa.P Go.Proofs.YtekpbgmmogpbdaaW.PrintWords
abbrev PR := List S40 × Int × Int × Int
theorem j1_last (s : ByteArray) (B : List ByteArray) (at_ : Int) (done : Bool) (i : Int) (b : Bool) (L : List S40) (df : Int) :
 Ev (fun k => hurdleref10_Parse.j1 k s B at_ done i b true L df) (if done = true then (L, df, 0, 0) else ([], 0, (s.size : Int), 5)) := by
 refine Ev.step (f := fun _ => some (if done = true then (L, df, 0, 0) else ([], 0, (s.size : Int), 5))) (fun k => ?_) (Ev.now _)
 simp only [hurdleref10_Parse.j1, if_true]
 cases done <;> rfl
theorem j2_bad (s : ByteArray) (B : List ByteArray) (at_ : Int) (done : Bool) (i : Int) (L : List S40) (df : Int) :
 Ev (fun k => hurdleref10_Parse.j2 k s B at_ done i true L df) (([], 0, at_, 2) : PR) := by
 refine Ev.step (f := fun _ => some (([], 0, at_, 2) : PR)) (fun k => ?_) (Ev.now _)
 simp only [hurdleref10_Parse.j2, if_true]
theorem j1_go (s : ByteArray) (B : List ByteArray) (at_ : Int) (done : Bool) (i : Int) (b : Bool) (L : List S40) (df : Int) (r : PR)
 (h : Ev (fun k => hurdleref10_Parse.j2 k s B at_ done i (if b = true then true else done) L df) r) :
 Ev (fun k => hurdleref10_Parse.j1 k s B at_ done i b false L df) r := by
 refine Ev.step (f := fun k => hurdleref10_Parse.j2 k s B at_ done i (if b = true then true else done) L df) (fun k => ?_) h
 simp only [hurdleref10_Parse.j1]
 rw [if_neg (by simp)]
 cases b <;> rfl
theorem last_rd (a : List (List UInt8)) (x : List UInt8) : rdOf ByteArray.empty (bl (a ++ [x])) (a.length : Int) = ofBytes x := by
 rw [bl_rd _ _ (by simp)]
 congr 1
 simp
theorem list_same (a b : List UInt8) : (ofBytes a).toList = b ↔ a = b := by
 rw [ByteArray.toList_eq, data_of]
theorem wA (a b : Nat) (h : a + b ≤ 1000000) : wrap64 (wrap64 ((a : Int) + (b : Int)) + 1) = ((a + b + 1 : Nat) : Int) := by unfold wrap64; omega
theorem dflt_line (l : List UInt8) (hn : ∀ x, lineV l ≠ some (.inl x)) : (match lineV l with | some (.inr v) => some v | _ => none) =
 match spl 32 l with
 | [w, a] => if w = [100, 101, 102, 97, 117, 108, 116] ∧ (readAct (ofBytes a)).2 = 0 then some (readAct (ofBytes a)).1 else none
 | _ => none := by
 cases hs : spl 32 l with
 | nil => exact absurd hs (spl_ne _ _)
 | cons w ws =>
  have e := lineV_of hs
  rw [e] at hn ⊢
  unfold lineW at hn ⊢
  by_cases h1 : w = [111, 110]
  · rw [if_pos h1] at hn ⊢
    have : (ruleV ws).map (Sum.inl (β := Int)) = none := by
     cases hr : ruleV ws with
     | none => rfl
     | some x => exact absurd (by rw [hr]; rfl) (hn x)
    rw [this]
    match ws with
    | [] => rfl
    | [a] => simp only []; rw [if_neg (fun h => by rw [h1] at h; exact absurd h.1 (by decide))]
    | _ :: _ :: _ => rfl
  rw [if_neg h1]
  by_cases h2 : w = [100, 101, 102, 97, 117, 108, 116]
  rotate_left
  · rw [if_neg h2]
    match ws with
    | [] => rfl
    | [a] => simp only []; rw [if_neg (fun h => h2 h.1)]
    | _ :: _ :: _ => rfl
  rw [if_pos h2]
  match ws with
  | [] => rfl
  | [a] =>
   simp only [dfltV]
   by_cases h3 : (readAct (ofBytes a)).2 = 0
   · rw [if_pos h3, if_pos ⟨h2, h3⟩]; rfl
   rw [if_neg h3, if_neg (fun h => h3 h.2)]; rfl
  | _ :: _ :: _ => rfl
theorem j2_line (s : ByteArray) (ls : List (List UInt8)) (i : Nat) (l : List UInt8) (hi : i < ls.length) (hl : ls[i] = l) (hz : l.length ≤ 20000) (hn : ls.length ≤ 100000)
 (at_ : Nat) (ha : at_ + l.length ≤ 100000) (L : List S40) (hL : L.length ≤ 64) (df : Int) (r : PR)
 (hr : ∀ x, lineV l = some (.inl x) → L.length < 64 → Ev (fun k => hurdleref10_Parse.l0 k s (bl ls) ((at_ + l.length + 1 : Nat) : Int) false ((i + 1 : Nat) : Int) (L ++ [x]) df) r)
 (hr2 : ∀ x, lineV l = some (.inl x) → L.length = 64 → r = ([], 0, (at_ : Int), 3))
 (hd : ∀ v, lineV l = some (.inr v) → Ev (fun k => hurdleref10_Parse.l0 k s (bl ls) ((at_ + l.length + 1 : Nat) : Int) true ((i + 1 : Nat) : Int) L v) r)
 (hx : lineV l = none → r = ([], 0, (at_ : Int), 2)) :
 Ev (fun k => hurdleref10_Parse.j2 k s (bl ls) (at_ : Int) false (i : Int) false L df) r := by
 have hlen : (bl ls).length = ls.length := by simp [bl]
 have hrd : rdOf ByteArray.empty (bl ls) (i : Int) = ofBytes l := by rw [bl_rd ls i hi, hl]
 have e1 := wA at_ l.length (by omega)
 have e2 : wrap64 ((i : Int) + 1) = ((i + 1 : Nat) : Int) := by unfold wrap64; omega
 generalize hB : bl ls = B at *
 refine Ev.step (f := fun k => (hurdleref10_Read.f k (ofBytes l)).bind fun bt419 => (if bt419.2.2.2.2 = true then (if (L.length : Int) ≥ 64 then (some (([] : List (S40)), 0, (at_ : Int), 3)) else hurdleref10_Parse.l0 k s B ((at_ + l.length + 1 : Nat) : Int) false ((i + 1 : Nat) : Int) (L ++ [(⟨bt419.1, bt419.2.1, bt419.2.2.1, bt419.2.2.2.1⟩ : S40)]) df) else ((hurdleref02_Cut.f k (ofBytes l) 32).bind fun t432 => (if 0 ≤ (wrap64 ((t432.length : Int) - 1)) then (if (wrap64 ((t432.length : Int) - 1)) < (t432.length : Int) then ((hurdleref09_ReadAction.f k (rdOf ByteArray.empty t432 (wrap64 ((t432.length : Int) - 1)))).bind fun bt436 => (if (t432.length : Int) = 2 then (if 0 < (t432.length : Int) then (if (rdOf ByteArray.empty t432 0).toList = ([100, 101, 102, 97, 117, 108, 116] : List UInt8) then (if bt436.2 = true then (hurdleref10_Parse.l0 k s B ((at_ + l.length + 1 : Nat) : Int) true ((i + 1 : Nat) : Int) L bt436.1) else (some (([] : List (S40)), 0, (at_ : Int), 2))) else (some (([] : List (S40)), 0, (at_ : Int), 2))) else (none)) else (some (([] : List (S40)), 0, (at_ : Int), 2)))) else (none)) else (none))))) (fun k => ?_) ?_
 · simp only [hurdleref10_Parse.j2, hrd, size_of, e1, e2]
   rw [if_neg (by simp), if_pos (by omega), if_pos (by omega)]
   congr 1
   funext bt
   rw [if_pos (show L.length < 3518437208883 by omega)]
 · have hre := read_ev (ofBytes l) (by rw [size_of]; omega)
   rw [data_of] at hre
   refine Ev.bind hre ?_
   cases hv : lineV l with
   | some y =>
    cases y with
    | inl x =>
     refine Ev_pos rfl ?_
     by_cases h64 : L.length < 64
     · exact Ev_neg (by omega) (hr x hv h64)
     rw [hr2 x hv (by omega)]
     exact Ev_pos (by omega) (Ev.now _)
    | inr v =>
     simp only [noR]
     refine Ev_neg (by simp) ?_
     have hcut := cut_ev (ofBytes l) (by rw [size_of]; omega) 32 32 rfl
     rw [data_of] at hcut
     refine Ev.bind hcut ?_
     have hdl := dflt_line l (fun x => by rw [hv]; simp)
     rw [hv] at hdl
     match hs : spl 32 l, hdl with
     | [w, a], hdl =>
      simp only [] at hdl
      split at hdl
      · rename_i hok
        have e := Option.some.inj hdl
        have gw : wrap64 (((2 : Nat) : Int) - 1) = ((1 : Nat) : Int) := by unfold wrap64; omega
        have gl : (bl [w, a]).length = 2 := rfl
        have g1 : rdOf ByteArray.empty (bl [w, a]) ((1 : Nat) : Int) = ofBytes a := bl_rd [w, a] 1 (by simp)
        have g0 : rdOf ByteArray.empty (bl [w, a]) 0 = ofBytes w := bl_rd [w, a] 0 (by simp)
        rw [gl, gw, g1, g0]
        refine Ev_pos (by omega) (Ev_pos (by omega) (Ev.bind (ra_ev (ofBytes a)) (Ev_pos (by omega) (Ev_pos (by omega) (Ev_pos ((list_same _ _).2 hok.1) (Ev_pos (by rw [hok.2]; rfl) ?_))))))
        have := hd v hv
        rw [e] at this
        exact this
      · exact absurd hdl (by simp)
     | [], hdl => exact absurd hs (spl_ne _ _)
     | [_], hdl => exact absurd hdl (by simp)
     | _ :: _ :: _ :: _, hdl => exact absurd hdl (by simp)
   | none =>
    simp only [noR]
    rw [hx hv]
    refine Ev_neg (by simp) ?_
    have hcut := cut_ev (ofBytes l) (by rw [size_of]; omega) 32 32 rfl
    rw [data_of] at hcut
    refine Ev.bind hcut ?_
    have hdl := dflt_line l (fun x => by rw [hv]; simp)
    rw [hv] at hdl
    obtain ⟨pre, a, hpa⟩ : ∃ pre a, spl 32 l = pre ++ [a] := ⟨(spl 32 l).dropLast, (spl 32 l).getLast (spl_ne _ _), (List.dropLast_concat_getLast (spl_ne _ _)).symm⟩
    have hsz := (spl_size 32 l).1
    rw [hpa] at hsz hdl ⊢
    have g2 : ((bl (pre ++ [a])).length : Int) = ((pre.length + 1 : Nat) : Int) := by simp [bl]
    have g3 : wrap64 (((pre.length + 1 : Nat) : Int) - 1) = (pre.length : Int) := by simp at hsz; unfold wrap64; omega
    rw [g2, g3, last_rd]
    refine Ev_pos (by omega) (Ev_pos (by omega) (Ev.bind (ra_ev (ofBytes a)) ?_))
    match pre, hdl with
    | [w], hdl =>
     refine Ev_pos (by simp) (Ev_pos (by omega) ?_)
     have g0 : rdOf ByteArray.empty (bl ([w] ++ [a])) 0 = ofBytes w := bl_rd [w, a] 0 (by simp)
     rw [g0]
     simp only [List.cons_append, List.nil_append] at hdl
     by_cases hw : w = [100, 101, 102, 97, 117, 108, 116]
     rotate_left
     · exact Ev_neg (fun h => hw ((list_same _ _).1 h)) (Ev.now _)
     refine Ev_pos ((list_same _ _).2 hw) ?_
     by_cases hb : (readAct (ofBytes a)).2 = 0
     · rw [if_pos ⟨hw, hb⟩] at hdl; exact absurd hdl (by simp)
     exact Ev_neg (by simpa using hb) (Ev.now _)
    | [], hdl => exact Ev_neg (by decide) (Ev.now _)
    | _ :: _ :: _, hdl => exact Ev_neg (by simp; omega) (Ev.now _)
theorem parse_l0 (s : ByteArray) (ls : List (List UInt8)) (hw : ∀ w ∈ ls, w.length ≤ 20000) (hn : ls.length ≤ 100000) : ∀ (d i at_ : Nat) (done : Bool) (L : List S40) (df : Int), i + d = ls.length → 0 < d → L.length ≤ 64 →
 at_ + ((ls.drop i).map (fun l => l.length + 1)).sum ≤ 100000 →
 Ev (fun k => hurdleref10_Parse.l0 k s (bl ls) (at_ : Int) done (i : Int) L df) (plines s.size (ls.drop i) at_ done L df) := by
 have hlen : (bl ls).length = ls.length := by simp [bl]
 intro d
 induction d with
 | zero => intro i at_ done L df hi h0; omega
 | succ d ih =>
  intro i at_ done L df hi _ hL hs
  have hi' : i < ls.length := by omega
  have hd := List.drop_eq_getElem_cons hi'
  have hrd : rdOf ByteArray.empty (bl ls) (i : Int) = ofBytes ls[i] := bl_rd ls i hi'
  rw [hd] at hs ⊢
  simp only [List.map_cons, List.sum_cons] at hs
  have hz := hw _ (List.getElem_mem hi')
  generalize hl : ls[i] = l at *
  have e1 : wrap64 ((ls.length : Int) - 1) = ((ls.length - 1 : Nat) : Int) := by unfold wrap64; omega
  simp only [plines]
  by_cases hlast : d = 0
  · subst hlast
    have hnil : ls.drop (i + 1) = [] := List.drop_eq_nil_of_le (by omega)
    rw [hnil, if_pos rfl]
    have e2 : ((i : Int) = wrap64 (((bl ls).length : Int) - 1)) := by rw [hlen, e1]; omega
    refine Ev.step (f := fun k => hurdleref10_Parse.j1 k s (bl ls) (at_ : Int) done (i : Int) true (l == ([] : List UInt8)) L df) (fun k => ?_) ?_
    · simp only [hurdleref10_Parse.l0]
      rw [if_pos (by omega), if_pos e2, if_pos (by omega), beq_iff_eq.2 e2, hrd, ByteArray.toList_eq, data_of]
    · by_cases hle : l = []
      rotate_left
      · rw [if_pos hle, beq_eq_false_iff_ne.2 hle]
        exact j1_go s _ _ _ _ _ _ _ _ (j2_bad s _ _ _ _ _ _)
      subst hle
      rw [if_neg (by simp)]
      exact j1_last s _ _ _ _ _ _ _
  have hne : ls.drop (i + 1) ≠ [] := by intro h; have := congrArg List.length h; simp at this; omega
  rw [if_neg hne]
  have e2 : ¬ ((i : Int) = wrap64 (((bl ls).length : Int) - 1)) := by rw [hlen, e1]; omega
  refine Ev.step (f := fun k => hurdleref10_Parse.j1 k s (bl ls) (at_ : Int) done (i : Int) false false L df) (fun k => ?_) ?_
  · simp only [hurdleref10_Parse.l0]
    rw [if_pos (by omega), if_neg e2, beq_eq_false_iff_ne.2 e2]
  · refine j1_go s _ _ _ _ _ _ _ _ ?_
    cases done with
    | true => exact j2_bad s _ _ _ _ _ _
    | false =>
     refine j2_line s ls i l hi' hl hz hn at_ (by omega) L hL df _ (fun x hx h64 => ?_) (fun x hx h64 => ?_) (fun v hv => ?_) (fun hx => ?_)
     · rw [if_neg (by simp), hx]
       simp only []
       rw [if_neg (by omega)]
       exact ih (i + 1) (at_ + l.length + 1) false (L ++ [x]) df (by omega) (by omega) (by simp; omega) (by omega)
     · rw [if_neg (by simp), hx]
       simp only []
       rw [if_pos h64]
     · rw [if_neg (by simp), hv]
       exact ih (i + 1) (at_ + l.length + 1) true L v (by omega) (by omega) hL (by omega)
     · rw [if_neg (by simp), hx]
theorem spl_sum (c : UInt8) : ∀ l : List UInt8, ((spl c l).map (fun l => l.length + 1)).sum = l.length + 1 := by
 intro l
 induction l with
 | nil => simp [spl]
 | cons x l ih =>
  simp only [spl]
  split
  · simp only [List.map_cons, List.sum_cons, List.length_nil, List.length_cons, ih]; omega
  · cases h : spl c l with
    | nil => exact absurd h (spl_ne _ _)
    | cons a r =>
     rw [h] at ih
     simp only [List.map_cons, List.sum_cons, List.length_cons] at ih ⊢
     omega
theorem refParse10_ev (s : ByteArray) : Ev (fun k => hurdleref10_Parse.f k s) (parseV s.data.toList) := by
 unfold hurdleref10_Parse.f parseV
 rw [list_size]
 by_cases h : 20000 < s.size
 · rw [if_pos h]
   exact Ev_pos (by omega) (Ev.now _)
 rw [if_neg h]
 refine Ev_neg (by omega) ?_
 refine Ev.bind (cut_ev s (by omega) 10 10 rfl) ?_
 have hz := spl_size 10 s.data.toList
 rw [list_size] at hz
 have hsum := spl_sum 10 s.data.toList
 rw [list_size] at hsum
 have hp : 0 < (spl 10 s.data.toList).length := List.length_pos_iff.2 (spl_ne _ _)
 have := parse_l0 s (spl 10 s.data.toList) (fun w hw => by have := hz.2 w hw; omega) (by omega) (spl 10 s.data.toList).length 0 0 false [] 0 (by omega) hp (by simp) (by rw [List.drop_zero, hsum]; omega)
 rw [List.drop_zero] at this
 exact this
end Go.Proofs.Ytekpbgmmogpbdaa.H
set_option maxRecDepth 100000
namespace Go.Proofs.Ytekpbgmmogpbdaa.H
open Go.RowKit Go.Proofs.Ytekpbgmmogpbdaa.P Go.Proofs.YtekpbgmmogpbdaaW.PrintWords
def kn1 : List UInt8 := [111, 110, 32, 120, 54, 52, 32, 119, 114, 105, 116, 101, 32, 97, 108, 108, 111, 119, 32, 105, 102, 32, 97, 48, 32, 48, 120, 102, 102, 102, 102, 102, 102, 102, 102, 32, 101, 113, 32, 48, 120, 49, 10, 100, 101, 102, 97, 117, 108, 116, 32, 107, 105, 108, 108, 10]
def kn2 : List UInt8 := [100, 101, 102, 97, 117, 108, 116, 32, 107, 105, 108, 108, 10, 104, 97, 121, 10]
def knL : List S40 := [⟨3221225534, 1, [⟨0, 0, 4294967295, 1⟩], 2147418112⟩]
set_option maxRecDepth 100000 in
theorem kn1_parse : parseV kn1 = (knL, 0, 0, 0) := by kernel_rfl
set_option maxRecDepth 100000 in
theorem kn2_parse : (parseV kn2).2.2 = (13, 2) := by kernel_rfl
theorem parse_f (s : ByteArray) (h : s.size ≤ 140737488351232) : policy_Parse.f s = some (parseV s.data.toList) := by unfold policy_Parse.f; rw [if_pos h]
theorem knows_ev : Ev (fun k => hurdlelaw10_knows.f k) true := by
 obtain ⟨hz, h1, h2, _⟩ := parse_only kn1_parse
 have hk := polOk_K h2
 have hb := (polOk_iff hk).2 h2
 have hc : ∀ x ∈ knL, x.f2.length ≤ 1000 := by intro x hx; have := (h2.2.1 x hx).2.2.2.1; omega
 have hp := print_ev knL 0 hk (by decide) hc
 have hr := right_ev knL 0 hk (by decide) hc
 rw [if_pos hb] at hp
 rw [hb] at hr
 have e1 : policy_Parse.f (⟨#[111, 110, 32, 120, 54, 52, 32, 119, 114, 105, 116, 101, 32, 97, 108, 108, 111, 119, 32, 105, 102, 32, 97, 48, 32, 48, 120, 102, 102, 102, 102, 102, 102, 102, 102, 32, 101, 113, 32, 48, 120, 49, 10, 100, 101, 102, 97, 117, 108, 116, 32, 107, 105, 108, 108, 10]⟩ : ByteArray) = some (knL, 0, 0, 0) := by
  rw [parse_f _ (by decide), ← kn1_parse]; rfl
 have e2 : policy_Parse.f (⟨#[100, 101, 102, 97, 117, 108, 116, 32, 107, 105, 108, 108, 10, 104, 97, 121, 10]⟩ : ByteArray) = some ((parseV kn2).1, (parseV kn2).2.1, 13, 2) := by
  rw [parse_f _ (by decide)]
  exact congrArg (fun x => some ((parseV kn2).1, (parseV kn2).2.1, x)) kn2_parse
 unfold hurdlelaw10_knows.f
 simp only [e1, e2, Option.bind_some]
 refine Ev.bind hp ?_
 refine Ev.congr (f := fun k => (policy_Right.f k knL 0).bind fun t => some t) (fun k => ?_) (Ev.bind hr (Ev.now _))
 have t1 : (ofBytes (polT knL 0)).toList = kn1 := by rw [ByteArray.toList_eq, data_of, ← h1]
 simp only [t1]
 rfl
end Go.Proofs.Ytekpbgmmogpbdaa.H
set_option maxRecDepth 100000
namespace Go.Proofs.Ytekpbgmmogpbdaa.H
open Go.RowKit Go.Proofs.Ytekpbgmmogpbdaa.P Go.Proofs.YtekpbgmmogpbdaaW.PrintWords
theorem sameRule_l0 (a b c : Int) (l : List S61) (hl : l.length ≤ 1000) : ∀ (d i : Nat), i + d = l.length →
 Ev (fun k => hurdleref10_SameRule.l0 k (i : Int) a b l c a b l c) true := by
 intro d
 induction d with
 | zero =>
  intro i hi
  refine Ev.step (f := fun _ => some true) (fun k => ?_) (Ev.now _)
  simp only [hurdleref10_SameRule.l0]
  rw [if_neg (by omega)]
 | succ d ih =>
  intro i hi
  refine Ev.step (f := fun k => hurdleref10_SameRule.l0 k ((i + 1 : Nat) : Int) a b l c a b l c) (fun k => ?_) (ih (i + 1) (by omega))
  simp only [hurdleref10_SameRule.l0]
  rw [if_pos (by omega), if_pos (by omega), if_pos (by omega), if_neg (by simp), wS i (by omega)]
theorem sameRule_ev (x : S40) (hl : x.f2.length ≤ 1000) : Ev (fun k => hurdleref10_SameRule.f k x.f0 x.f1 x.f2 x.f3 x.f0 x.f1 x.f2 x.f3) true := by
 unfold hurdleref10_SameRule.f
 simp only [if_true]
 refine Ev.step (f := fun k => hurdleref10_SameRule.l0 k ((0 : Nat) : Int) x.f0 x.f1 x.f2 x.f3 x.f0 x.f1 x.f2 x.f3) (fun k => ?_) (sameRule_l0 _ _ _ _ hl x.f2.length 0 (by omega))
 simp only [hurdleref10_SameRule.j0]
 rw [if_neg (by simp)]
 rfl
theorem same_l0 (df : Int) (L : List S40) (hl : L.length ≤ 1000) (hc : ∀ x ∈ L, x.f2.length ≤ 1000) : ∀ (d i : Nat), i + d = L.length →
 Ev (fun k => hurdleref10_Same.l0 k (i : Int) L df L df) true := by
 intro d
 induction d with
 | zero =>
  intro i hi
  refine Ev.step (f := fun _ => some true) (fun k => ?_) (Ev.now _)
  simp only [hurdleref10_Same.l0]
  rw [if_neg (by omega)]
 | succ d ih =>
  intro i hi
  have hlt : i < L.length := by omega
  refine Ev.step (f := fun k => (hurdleref10_SameRule.f k L[i].f0 L[i].f1 L[i].f2 L[i].f3 L[i].f0 L[i].f1 L[i].f2 L[i].f3).bind fun t => if t = true then hurdleref10_Same.l0 k ((i + 1 : Nat) : Int) L df L df else some false) (fun k => ?_) ?_
  · simp only [hurdleref10_Same.l0]
    rw [if_pos (by omega), if_pos (by omega), if_pos (by omega), rd40 L i hlt, wS i (by omega)]
  · refine Ev.bind (sameRule_ev L[i] (hc _ (List.getElem_mem hlt))) ?_
    exact Ev.congr (fun k => if_pos rfl) (ih (i + 1) (by omega))
theorem same_ev (L : List S40) (df : Int) (hl : L.length ≤ 1000) (hc : ∀ x ∈ L, x.f2.length ≤ 1000) : Ev (fun k => hurdleref10_Same.f k L df L df) true := by
 unfold hurdleref10_Same.f
 simp only [if_true]
 refine Ev.step (f := fun k => hurdleref10_Same.l0 k ((0 : Nat) : Int) L df L df) (fun k => ?_) (same_l0 df L hl hc L.length 0 (by omega))
 simp only [hurdleref10_Same.j0]
 rw [if_neg (by simp)]
 rfl
end Go.Proofs.Ytekpbgmmogpbdaa.H
set_option maxRecDepth 100000
namespace Go.Proofs.Ytekpbgmmogpbdaa.Pure
open Go.RowKit Go.Proofs.Ytekpbgmmogpbdaa.P Go.Proofs.Ytekpbgmmogpbdaa.H Go.Proofs.YtekpbgmmogpbdaaW.PrintWords Go.Proofs.YtekpbgmmogpbdaaW.PrintLast
theorem PolicyParses : hurdlelaw10_PolicyParses.Pure := by
 intro a0 h0
 refine Ev.rounds (g := fun k => hurdlelaw10_PolicyParses.f k a0) ?_
 have hk : Ev (fun k => (hurdlelaw10_knows.f k).bind fun t => some t) true := Ev.bind knows_ev (Ev.now _)
 unfold hurdlelaw10_PolicyParses.f
 by_cases hb : (a0.size : Int) > 25000
 · exact Ev.congr (fun k => if_pos hb) hk
 simp only [if_neg hb, parse_f a0 h0, Option.bind_some]
 refine Ev.bind (refParse10_ev a0) ?_
 have hs : Ev (fun k => hurdleref10_Same.f k (parseV a0.data.toList).1 (parseV a0.data.toList).2.1 (parseV a0.data.toList).1 (parseV a0.data.toList).2.1) true := by
  have hp := parse_place a0.data.toList
  by_cases he : (parseV a0.data.toList).2.2.2 = 0
  rotate_left
  · have h3 := hp.2.2.1 he
    rw [h3.1, h3.2]
    exact same_ev [] 0 (by simp) (by simp)
  obtain ⟨L, df, i, e, hr⟩ : ∃ L df i e, parseV a0.data.toList = (L, df, i, e) := ⟨_, _, _, _, rfl⟩
  rw [hr] at he ⊢
  simp only [] at he ⊢
  subst he
  obtain ⟨hz, h1, h2, _⟩ := parse_only hr
  exact same_ev L df (by have := h2.1; omega) (by intro x hx; have := (h2.2.1 x hx).2.2.2.1; omega)
 refine Ev.bind hs ?_
 simp only [if_true]
 exact hk
end Go.Proofs.Ytekpbgmmogpbdaa.Pure
namespace Go.Proofs.Ytekpbgmmogpbdaa.policyParses
open Go.ChangeShapes Go.WideShapes Go.ChangeAt Go.RowKit
open Go.ChangeMaps (open_string shut_string)
theorem own : ownKnob Try.prog.godebug = none := by kernel_rfl
set_option maxRecDepth 100000 in
theorem lifted (os : Os) (started : os.Started) (H : Type) (enc : TypeId × Value → H) :
 ReturnsInHanded {} Try.checked os 4 .any (Rows.policyParsesSpec.pre6 enc Try.prog Try.f4 Rows.policyParsesRow.domain false) (Rows.policyParsesSpec.post enc Try.prog Try.f4 false true false false) := by
 refine returnsInHanded_of_change_sized (C := Try.checked) own started kR Try.func4
  (ChangeSpec.witness6 (enc := enc) (C := Try.checked) false ⟨#[], #[.string ByteArray.empty], []⟩ 8 kR kR kR kR) ?_
 intro W base args ds gs before hval0 hW hcnd hsz0 _
 have hsz : (DataW.weightsEach Try.prog (Try.f4.params.toList ++ Rows.policyParsesSpec.plain.varTypes Try.prog) (ds ++ gs)).all (· ≤ reachBytes) = true := hsz0
 have hval : ∀ (j : Nat) t v, Try.f4.params[j]? = some t → args[j]? = some v → Value.okWide Try.prog W .any base t v := hval0
 have hW' := hW
 obtain ⟨p, q, hA0, hV, rfl, hfz, hnd⟩ := hW
 have hA : DataW.TrodAll enc Try.prog W 0 (fun _ => true) true Try.f4.params.toList args.toList ds p := hA0
 rw [Try.params4] at hA hval hsz
 obtain ⟨v0, vs0, d0, ds0, p0, q0, hargs, rfl, rfl, h0, r0⟩ := trodAll_cons hA
 obtain ⟨rfl, rfl, rfl⟩ := trodAll_nil r0
 obtain rfl : args = #[v0] := by cases args; simp_all
 obtain ⟨rfl, rfl⟩ := trodVars_none hV
 obtain ⟨a0, rfl, rfl, rfl, y0⟩ := open_string Try.underlying9 (hval 0 9 v0 rfl rfl) h0
 have w0 : a0.size ≤ 140737488351232 := by
  have z := sized_string hsz (j := 0) (t := 9) rfl rfl
  rw [Array.length_toList] at z
  exact z
 clear hA0 hval0 hsz0 hsz
 refine (P.hurdlelaw10_PolicyParses.walk Pure.PolicyParses a0 W w0).mono fun e W' ⟨he, bel⟩ => ?_
 subst he
 exact ⟨_, rfl, _, _, _, [], _, [], hW', trodAll_mk1 (shut_bool Try.underlying4 _), (trodAll_cons_mk (shut_string Try.underlying9 y0) trodAll_mk0), rfl, bel.frame _, fun h => by cases h⟩
theorem over : Rows.policyParsesRow.holds Try.pinned (OpenSpec.ofChange Rows.policyParsesSpec) :=
 OpenClaim.holds_of_wide 4 Try.f4 rfl rfl rfl rfl rfl rfl rfl ⟨rfl, rfl, rfl, rfl, rfl⟩ rfl rfl rfl rfl rfl kR Try.func4 kR
  (of_decide_eq_true kR) (by unfold Func.isWrapper; first | (rw [if_pos (by decide +kernel)]; kernel_rfl) | (rw [if_neg (by decide +kernel)]; exact ⟨rfl, rfl⟩))
  (fun os started H enc _ => lifted os started H enc)
theorem proved : Rows.PolicyParsesSaid := over
#print axioms proved
end Go.Proofs.Ytekpbgmmogpbdaa.policyParses
namespace Go.Proofs.Ytekpbgmmogpbdaa
theorem policyParses_holds : Rows.PolicyParsesSaid := policyParses.proved
end Go.Proofs.Ytekpbgmmogpbdaa
