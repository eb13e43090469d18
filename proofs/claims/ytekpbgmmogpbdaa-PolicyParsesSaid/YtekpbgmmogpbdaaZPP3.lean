/- Lemmas for this claim: A text is the policy that the document says, or the place and the error are told (any text of up to 25000 bytes). (Some lines were printed for this seat by the kit's print.sh; wip/pack.py has put the needed ones together.) -/
import Derived.Test.YtekpbgmmogpbdaaZPP0
import Derived.Test.YtekpbgmmogpbdaaZPP1
import Derived.Test.YtekpbgmmogpbdaaZPP2
set_option linter.unusedVariables false
set_option linter.unusedSimpArgs false
namespace Go.Proofs.Ytekpbgmmogpbdaa.P
open Go.RowKit Go.Proofs.Ytekpbgmmogpbdaa.H Go.Proofs.YtekpbgmmogpbdaaW.PrintWords Go.Proofs.YtekpbgmmogpbdaaW.PrintLast Go.Proofs.YtekpbgmmogpbdaaW.PrintMore
attribute [local go_sem] max2_int min2_int max_two min_two max_three min_three max_four min_four
def hurdleref09_read.l0 : Nat → List ByteArray → List Int → ByteArray → Int → Option (Int × Bool)
 | 0, _, _, _, _ => none
 | k + 1, x0, x1, x2, x8 => if x8 < (x0.length : Int) then (if 0 ≤ x8 then (if (rdOf ByteArray.empty x0 x8).toList = x2.toList then (if x8 < (x1.length : Int) then (some (rd x1 x8, true)) else (none)) else (hurdleref09_read.l0 k x0 x1 x2 (wrap64 (x8 + 1)))) else (none)) else ((hurdleref01_Parse.f x2).bind fun bt346 => (if bt346.2 = true then (if bt346.1 > 4294967295 then (some (0, false)) else ((hurdleref09_text.f k x0 x1 ((bt346.1) % 4294967296)).bind fun t348 => (if t348.toList = x2.toList then (some ((bt346.1) % 4294967296, true)) else (some (0, false))))) else (some (0, false))))
def hurdleref09_read.f (k : Nat) (l0 : List ByteArray) (l1 : List Int) (a2 : ByteArray) : Option (Int × Bool) := hurdleref09_read.l0 k l0 l1 a2 0
set_option maxHeartbeats 8000000 in
set_option maxRecDepth 100000 in
theorem hurdleref09_read.calls (k : Nat) (A0 : Option Addr) (c0 : Nat) (l0 : List ByteArray) (A1 : Option Addr) (c1 : Nat) (l1 : List Int) (a2 : ByteArray) (r1 : Int) (r2 : Bool) (w : World) (hr0 : Kd.C Kd.string w A0 l0.length l0) (hc0 : l0.length ≤ c0) (hr1 : Kd.C (Kd.int .u32) w A1 l1.length l1) (hc1 : l1.length ≤ c1) (h : hurdleref09_read.f k l0 l1 a2 = some (r1, r2)) :
 Calls Try.prog 78 #[.slice A0 l0.length c0, .slice A1 l1.length c1, .string a2] w fun e w' => e = .returned (.tuple #[.int .u32 r1, .bool r2]) ∧ Below w.heap.size w w' := by
 have HR0 := aM hr0
 have HC0 := aM hc0
 clear hr0 hc0
 have HR1 := aM hr1
 have HC1 := aM hc1
 clear hr1 hc1
 have HB := aM (Below.refl w.heap.size w)
 have H : (hurdleref09_read.l0 k l0 l1 a2 0) = some (r1, r2) := h
 clear h
 have H' := aM H
 clear H
 go_enter Try.func78, Try.ntmps78
 go_wp2
 go_loopg [8] k (fun kq v8 w' => ∃ (x8_1 : Int), v8 = .int .i64 x8_1 ∧ Aside0 (hurdleref09_read.l0 kq l0 l1 a2 x8_1 = some (r1, r2)) ∧ Aside0 (kq ≤ k) ∧ Aside0 (Below w.heap.size w w'))
 case atStart => exact ⟨(0), (by first | rfl | (simp; done) | (simp [*]; done)), H', ⟨Nat.le_refl _⟩, ⟨bl0⟩⟩
 case round =>
  clear H'
  try clear c1
  try clear p2
  obtain ⟨x8_1, rfl, HA, HK1, HB⟩ := hrel
  cases gk with
  | zero => exact absurd HA.out (by simp [hurdleref09_read.l0])
  | succ k1 =>
   have H := HA.out
   clear HA
   simp only [hurdleref09_read.l0] at H
   by_cases c4 : x8_1 < (l0.length : Int)
   · rw [if_pos c4] at H
     have c4b0 : decide (x8_1 < (l0.length : Int)) = true := decide_eq_true c4
     clear c4
     by_cases c5 : 0 ≤ x8_1
     rotate_left
     · rw [if_neg c5] at H
       exact absurd H (by simp)
     rw [if_pos c5] at H
     have c5b0 : decide (0 ≤ x8_1) = true := decide_eq_true c5
     clear c5
     by_cases c6 : (rdOf ByteArray.empty l0 x8_1).toList = a2.toList
     rotate_left
     · rw [if_neg c6] at H
       have c6b0 : ((rdOf ByteArray.empty l0 x8_1).toList == a2.toList) = false := beq_eq_false_iff_ne.mpr c6
       have c6b1 : ((rdOf ByteArray.empty l0 x8_1).toList != a2.toList) = true := bne_iff_ne.mpr c6
       have H' := aM H
       clear H
       have p344 : 0 ≤ (x8_1 : Int) := of_decide_eq_true as_
       have q344 : x8_1 < (l0.length : Int) := of_decide_eq_true as_
       obtain ⟨ad344, e344, hx344_0⟩ := Kd.at_string HR0.out x8_1 p344 q344
       cases e344
       replace hx344_0 := (HB.out.cell (World.block_lt_of_cell? w _ hx344_0)).trans hx344_0
       replace p344 := eq_true p344
       replace q344 := eq_true q344
       go_wp2
       go_roundg k1
       case measure => have := HK1.out; omega
       case rel => exact ⟨(wrap64 (x8_1 + 1)), (by first | rfl | (simp; done) | (simp [*]; done)), H', ⟨by have := HK1.out; omega⟩, ⟨bl0⟩⟩
     rw [if_pos c6] at H
     have c6b0 : ((rdOf ByteArray.empty l0 x8_1).toList == a2.toList) = true := beq_iff_eq.mpr c6
     have c6b1 : ((rdOf ByteArray.empty l0 x8_1).toList != a2.toList) = false := bne_eq_false_iff_eq.mpr c6
     clear c6
     by_cases c7 : x8_1 < (l1.length : Int)
     rotate_left
     · rw [if_neg c7] at H
       exact absurd H (by simp)
     rw [if_pos c7] at H
     have c7b0 : decide (x8_1 < (l1.length : Int)) = true := decide_eq_true c7
     clear c7
     simp only [Option.some.injEq, Prod.mk.injEq] at H
     obtain ⟨rfl, rfl⟩ := H
     have p344 : 0 ≤ (x8_1 : Int) := of_decide_eq_true as_
     have q344 : x8_1 < (l0.length : Int) := of_decide_eq_true as_
     obtain ⟨ad344, e344, hx344_0⟩ := Kd.at_string HR0.out x8_1 p344 q344
     cases e344
     replace hx344_0 := (HB.out.cell (World.block_lt_of_cell? w _ hx344_0)).trans hx344_0
     replace p344 := eq_true p344
     replace q344 := eq_true q344
     have p345 : 0 ≤ (x8_1 : Int) := of_decide_eq_true as_
     have q345 : x8_1 < (l1.length : Int) := of_decide_eq_true as_
     obtain ⟨ad345, e345, hx345_0⟩ := Kd.at_int HR1.out x8_1 p345 q345
     cases e345
     replace hx345_0 := (HB.out.cell (World.block_lt_of_cell? w _ hx345_0)).trans hx345_0
     replace p345 := eq_true p345
     replace q345 := eq_true q345
     go_wp2
     go_ret2
     exact ⟨erA, bl0⟩
   rw [if_neg c4] at H
   have c4b0 : decide (x8_1 < (l0.length : Int)) = false := decide_eq_false c4
   clear c4
   replace H := Option.bind_eq_some_iff.mp H
   obtain ⟨⟨t346, t347⟩, A80, H⟩ := H
   replace H : (if t347 = true then (if t346 > 4294967295 then (some (0, false)) else ((hurdleref09_text.f k1 l0 l1 ((t346) % 4294967296)).bind fun t348 => (if t348.toList = a2.toList then (some ((t346) % 4294967296, true)) else (some (0, false))))) else (some (0, false))) = some (r1, r2) := H
   have A8 := aM A80
   clear A80
   by_cases c9 : t347 = true
   rotate_left
   · replace c9 := Bool.eq_false_iff.mpr c9
     subst c9
     have H1 : (some (0, false)) = some (r1, r2) := by rw [if_neg (show ¬ (false = true) by decide)] at H; exact H
     clear H
     have H := H1
     clear H1
     simp only [Option.some.injEq, Prod.mk.injEq] at H
     obtain ⟨rfl, rfl⟩ := H
     go_wp2_with (first | ((with_reducible refine gate_callee (f := 80) rfl ?_); refine goesL_ (some 29) rfl rfl Try.func80 kR rfl #[.string a2] rfl mpA ?_; (with_reducible refine (hurdleref01_Parse.calls a2 t346 false _ A8.out).mono ?_); rintro e w18 ⟨rfl, hb⟩; refine ⟨_, rfl, ?_⟩; have n0_ := aM (below_step bl0 hb); clear HB; have HB := n0_; clear n0_; (try clear hb); (try clear hb2); (try clear hk); (try clear hi)))
     go_ret2
     exact ⟨erA, bl0⟩
   subst c9
   have H1 : (if t346 > 4294967295 then (some (0, false)) else ((hurdleref09_text.f k1 l0 l1 ((t346) % 4294967296)).bind fun t348 => (if t348.toList = a2.toList then (some ((t346) % 4294967296, true)) else (some (0, false))))) = some (r1, r2) := by rw [if_pos rfl] at H; exact H
   clear H
   have H := H1
   clear H1
   by_cases c10 : t346 > 4294967295
   · rw [if_pos c10] at H
     have c10b0 : decide (4294967295 < t346) = true := decide_eq_true c10
     clear c10
     simp only [Option.some.injEq, Prod.mk.injEq] at H
     obtain ⟨rfl, rfl⟩ := H
     go_wp2_with (first | ((with_reducible refine gate_callee (f := 80) rfl ?_); refine goesL_ (some 29) rfl rfl Try.func80 kR rfl #[.string a2] rfl mpA ?_; (with_reducible refine (hurdleref01_Parse.calls a2 t346 true _ A8.out).mono ?_); rintro e w11 ⟨rfl, hb⟩; refine ⟨_, rfl, ?_⟩; have n0_ := aM (below_step bl0 hb); clear HB; have HB := n0_; clear n0_; (try clear hb); (try clear hb2); (try clear hk); (try clear hi)))
     go_ret2
     exact ⟨erA, bl0⟩
   rw [if_neg c10] at H
   have c10b0 : decide (4294967295 < t346) = false := decide_eq_false c10
   clear c10
   replace H := Option.bind_eq_some_iff.mp H
   obtain ⟨t348, A120, H⟩ := H
   replace H : (if t348.toList = a2.toList then (some ((t346) % 4294967296, true)) else (some (0, false))) = some (r1, r2) := H
   have A12 := aM A120
   clear A120
   by_cases c13 : t348.toList = a2.toList
   rotate_left
   · rw [if_neg c13] at H
     have c13b0 : (t348.toList == a2.toList) = false := beq_eq_false_iff_ne.mpr c13
     have c13b1 : (t348.toList != a2.toList) = true := bne_iff_ne.mpr c13
     simp only [Option.some.injEq, Prod.mk.injEq] at H
     obtain ⟨rfl, rfl⟩ := H
     go_wp2_with (first | ((with_reducible refine gate_callee (f := 80) rfl ?_); refine goesL_ (some 29) rfl rfl Try.func80 kR rfl #[.string a2] rfl mpA ?_; (with_reducible refine (hurdleref01_Parse.calls a2 t346 true _ A8.out).mono ?_); rintro e w16 ⟨rfl, hb⟩; refine ⟨_, rfl, ?_⟩; have n0_ := aM (below_step bl0 hb); clear HB; have HB := n0_; clear n0_; (try clear hb); (try clear hb2); (try clear hk); (try clear hi)) | (go_at_call 73; (with_reducible refine (hurdleref09_text.calls k1 _ _ l0 _ _ l1 ((t346) % 4294967296) t348 _ ?side1 ?side2 ?side3 ?side4 A12.out).mono ?_); (case side1 => repeat (first | exact (Kd.C_below HR0.out HB.out) | (with_reducible refine Kd.C_alloc ?_ _) | (with_reducible refine Kd.C_drewN ?_ _) | (with_reducible refine Kd.C_drew ?_))); (case side2 => exact HC0.out); (case side3 => repeat (first | exact (Kd.C_below HR1.out HB.out) | (with_reducible refine Kd.C_alloc ?_ _) | (with_reducible refine Kd.C_drewN ?_ _) | (with_reducible refine Kd.C_drew ?_))); (case side4 => exact HC1.out); rintro e w17 ⟨rfl, hb⟩; have n0_ := aM (below_step bl0 hb); clear HB; have HB := n0_; clear n0_; (try clear hb); (try clear hb2); (try clear hk); (try clear hi)))
     go_ret2
     exact ⟨erA, bl0⟩
   rw [if_pos c13] at H
   have c13b0 : (t348.toList == a2.toList) = true := beq_iff_eq.mpr c13
   have c13b1 : (t348.toList != a2.toList) = false := bne_eq_false_iff_eq.mpr c13
   clear c13
   simp only [Option.some.injEq, Prod.mk.injEq] at H
   obtain ⟨rfl, rfl⟩ := H
   go_wp2_with (first | ((with_reducible refine gate_callee (f := 80) rfl ?_); refine goesL_ (some 29) rfl rfl Try.func80 kR rfl #[.string a2] rfl mpA ?_; (with_reducible refine (hurdleref01_Parse.calls a2 t346 true _ A8.out).mono ?_); rintro e w14 ⟨rfl, hb⟩; refine ⟨_, rfl, ?_⟩; have n0_ := aM (below_step bl0 hb); clear HB; have HB := n0_; clear n0_; (try clear hb); (try clear hb2); (try clear hk); (try clear hi)) | (go_at_call 73; (with_reducible refine (hurdleref09_text.calls k1 _ _ l0 _ _ l1 ((t346) % 4294967296) t348 _ ?side1 ?side2 ?side3 ?side4 A12.out).mono ?_); (case side1 => repeat (first | exact (Kd.C_below HR0.out HB.out) | (with_reducible refine Kd.C_alloc ?_ _) | (with_reducible refine Kd.C_drewN ?_ _) | (with_reducible refine Kd.C_drew ?_))); (case side2 => exact HC0.out); (case side3 => repeat (first | exact (Kd.C_below HR1.out HB.out) | (with_reducible refine Kd.C_alloc ?_ _) | (with_reducible refine Kd.C_drewN ?_ _) | (with_reducible refine Kd.C_drew ?_))); (case side4 => exact HC1.out); rintro e w15 ⟨rfl, hb⟩; have n0_ := aM (below_step bl0 hb); clear HB; have HB := n0_; clear n0_; (try clear hb); (try clear hb2); (try clear hk); (try clear hi)))
   go_ret2
   exact ⟨erA, bl0⟩
def hurdleref09_ReadMachine.f (k : Nat) (a0 : ByteArray) : Option (Int × Bool) := (hurdleref09_Machines.f).bind fun bt349 => ((hurdleref09_read.f k bt349.1 bt349.2 a0).bind fun bt355 => (some (bt355.1, bt355.2)))
set_option maxHeartbeats 8000000 in
set_option maxRecDepth 100000 in
theorem hurdleref09_ReadMachine.calls (k : Nat) (a0 : ByteArray) (r1 : Int) (r2 : Bool) (w : World) (h : hurdleref09_ReadMachine.f k a0 = some (r1, r2)) :
 Calls Try.prog 63 #[.string a0] w fun e w' => e = .returned (.tuple #[.int .u32 r1, .bool r2]) ∧ Below w.heap.size w w' := by
 have HB := aM (Below.refl w.heap.size w)
 have H : ((hurdleref09_Machines.f).bind fun bt349 => ((hurdleref09_read.f k bt349.1 bt349.2 a0).bind fun bt355 => (some (bt355.1, bt355.2)))) = some (r1, r2) := h
 clear h
 replace H := Option.bind_eq_some_iff.mp H
 obtain ⟨⟨t349, t350⟩, A20, H⟩ := H
 replace H : ((hurdleref09_read.f k t349 t350 a0).bind fun bt355 => (some (bt355.1, bt355.2))) = some (r1, r2) := H
 have A2 := aM A20
 clear A20
 replace H := Option.bind_eq_some_iff.mp H
 obtain ⟨⟨t355, t356⟩, A30, H⟩ := H
 replace H : (some (t355, t356)) = some (r1, r2) := H
 have A3 := aM A30
 clear A30
 simp only [Option.some.injEq, Prod.mk.injEq] at H
 obtain ⟨rfl, rfl⟩ := H
 go_enter Try.func63, Try.ntmps63
 go_wp2_with (first | ((with_reducible refine gate_callee (f := 72) rfl ?_); refine goesL_ (some 7) rfl rfl Try.func72 kR rfl #[] rfl mpA ?_; (with_reducible refine (hurdleref09_Machines.calls  t349 t350 _ A2.out).mono ?_); rintro e w4 ⟨v351, v353, rfl, ho0, ho1, hb⟩; refine ⟨_, rfl, ?_⟩; have n0_ := aM (Kd.R_lower ho0 (below_size bl0)); have n1_ := aM (Kd.R_lower ho1 (below_size bl0)); have n2_ := aM (below_step bl0 hb); clear HB; have HO352 := n0_; have HO354 := n1_; have HB := n2_; clear n0_ n1_ n2_; (try clear hb); (try clear hb2); (try clear hk); (try clear hi); (try clear ho0); (try clear ho1); obtain ⟨Ao5, co5, eo5⟩ := Kd.R_slice HO352.out; subst eo5; obtain ⟨Ao6, co6, eo6⟩ := Kd.R_slice HO354.out; subst eo6) | ((with_reducible refine gate_callee (f := 78) rfl ?_); refine goesL_ (some 13) rfl rfl Try.func78 kR rfl #[.slice Ao5 t349.length co5, .slice Ao6 t350.length co6, .string a0] rfl mpA ?_; (with_reducible refine (hurdleref09_read.calls k _ _ t349 _ _ t350 a0 t355 t356 _ ?side1 ?side2 ?side3 ?side4 A3.out).mono ?_); (case side1 => repeat (first | exact (Kd.R_reads' HO352.out).2.2 | (with_reducible refine Kd.C_alloc ?_ _) | (with_reducible refine Kd.C_drewN ?_ _) | (with_reducible refine Kd.C_drew ?_))); (case side2 => exact (Kd.R_reads' HO352.out).2.1); (case side3 => repeat (first | exact (Kd.R_reads' HO354.out).2.2 | (with_reducible refine Kd.C_alloc ?_ _) | (with_reducible refine Kd.C_drewN ?_ _) | (with_reducible refine Kd.C_drew ?_))); (case side4 => exact (Kd.R_reads' HO354.out).2.1); rintro e w7 ⟨rfl, hb⟩; refine ⟨_, rfl, ?_⟩; have n0_ := aM (Kd.R_below (rdS HO352.out) hb); have n1_ := aM (Kd.R_below (rdS HO354.out) hb); have n2_ := aM (below_step bl0 hb); clear HO352; clear HO354; clear HB; have HO352 := n0_; have HO354 := n1_; have HB := n2_; clear n0_ n1_ n2_; (try clear hb); (try clear hb2); (try clear hk); (try clear hi)))
 go_ret2
 exact ⟨erA, bl0⟩
def hurdleref09_ReadCall.f (k : Nat) (a0 : Int) (a1 : ByteArray) : Option (Int × Bool) := (hurdleref09_Calls.f k a0).bind fun bt357 => ((hurdleref09_read.f k bt357.1 bt357.2 a1).bind fun bt363 => (some (bt363.1, bt363.2)))
set_option maxHeartbeats 8000000 in
set_option maxRecDepth 100000 in
theorem hurdleref09_ReadCall.calls (k : Nat) (a0 : Int) (a1 : ByteArray) (r1 : Int) (r2 : Bool) (w : World) (h : hurdleref09_ReadCall.f k a0 a1 = some (r1, r2)) :
 Calls Try.prog 64 #[.int .u32 a0, .string a1] w fun e w' => e = .returned (.tuple #[.int .u32 r1, .bool r2]) ∧ Below w.heap.size w w' := by
 have HB := aM (Below.refl w.heap.size w)
 have H : ((hurdleref09_Calls.f k a0).bind fun bt357 => ((hurdleref09_read.f k bt357.1 bt357.2 a1).bind fun bt363 => (some (bt363.1, bt363.2)))) = some (r1, r2) := h
 clear h
 replace H := Option.bind_eq_some_iff.mp H
 obtain ⟨⟨t357, t358⟩, A30, H⟩ := H
 replace H : ((hurdleref09_read.f k t357 t358 a1).bind fun bt363 => (some (bt363.1, bt363.2))) = some (r1, r2) := H
 have A3 := aM A30
 clear A30
 replace H := Option.bind_eq_some_iff.mp H
 obtain ⟨⟨t363, t364⟩, A40, H⟩ := H
 replace H : (some (t363, t364)) = some (r1, r2) := H
 have A4 := aM A40
 clear A40
 simp only [Option.some.injEq, Prod.mk.injEq] at H
 obtain ⟨rfl, rfl⟩ := H
 go_enter Try.func64, Try.ntmps64
 go_wp2_with (first | ((with_reducible refine gate_callee (f := 74) rfl ?_); refine goesL_ (some 10) rfl rfl Try.func74 kR rfl #[.int .u32 a0] rfl mpA ?_; (with_reducible refine (hurdleref09_Calls.calls k a0 t357 t358 _ A3.out).mono ?_); rintro e w5 ⟨v359, v361, rfl, ho0, ho1, hb⟩; refine ⟨_, rfl, ?_⟩; have n0_ := aM (Kd.R_lower ho0 (below_size bl0)); have n1_ := aM (Kd.R_lower ho1 (below_size bl0)); have n2_ := aM (below_step bl0 hb); clear HB; have HO360 := n0_; have HO362 := n1_; have HB := n2_; clear n0_ n1_ n2_; (try clear hb); (try clear hb2); (try clear hk); (try clear hi); (try clear ho0); (try clear ho1); obtain ⟨Ao6, co6, eo6⟩ := Kd.R_slice HO360.out; subst eo6; obtain ⟨Ao7, co7, eo7⟩ := Kd.R_slice HO362.out; subst eo7) | ((with_reducible refine gate_callee (f := 78) rfl ?_); refine goesL_ (some 16) rfl rfl Try.func78 kR rfl #[.slice Ao6 t357.length co6, .slice Ao7 t358.length co7, .string a1] rfl mpA ?_; (with_reducible refine (hurdleref09_read.calls k _ _ t357 _ _ t358 a1 t363 t364 _ ?side1 ?side2 ?side3 ?side4 A4.out).mono ?_); (case side1 => repeat (first | exact (Kd.R_reads' HO360.out).2.2 | (with_reducible refine Kd.C_alloc ?_ _) | (with_reducible refine Kd.C_drewN ?_ _) | (with_reducible refine Kd.C_drew ?_))); (case side2 => exact (Kd.R_reads' HO360.out).2.1); (case side3 => repeat (first | exact (Kd.R_reads' HO362.out).2.2 | (with_reducible refine Kd.C_alloc ?_ _) | (with_reducible refine Kd.C_drewN ?_ _) | (with_reducible refine Kd.C_drew ?_))); (case side4 => exact (Kd.R_reads' HO362.out).2.1); rintro e w8 ⟨rfl, hb⟩; refine ⟨_, rfl, ?_⟩; have n0_ := aM (Kd.R_below (rdS HO360.out) hb); have n1_ := aM (Kd.R_below (rdS HO362.out) hb); have n2_ := aM (below_step bl0 hb); clear HO360; clear HO362; clear HB; have HO360 := n0_; have HO362 := n1_; have HB := n2_; clear n0_ n1_ n2_; (try clear hb); (try clear hb2); (try clear hk); (try clear hi)))
 go_ret2
 exact ⟨erA, bl0⟩
def hurdleref08_part.l0 : Nat → ByteArray → Int → Int → Option (ByteArray × Int)
 | 0, _, _, _ => none
 | k + 1, x0, x1, x6 => if x6 < (x0.size : Int) then (if 0 ≤ x6 then (if (bt x0 x6) = 32 then (if x1 ≥ (x0.size : Int) then (some ((⟨#[]⟩ : ByteArray), x1)) else (if 0 ≤ x1 then (if x1 ≤ x6 then (if x6 ≤ (x0.size : Int) then (some (x0.extract (x1 : Int).toNat (x6 : Int).toNat, wrap64 (x6 + 1))) else (none)) else (none)) else (none))) else (hurdleref08_part.l0 k x0 x1 (wrap64 (x6 + 1)))) else (none)) else (if x1 ≥ (x0.size : Int) then (some ((⟨#[]⟩ : ByteArray), x1)) else (if 0 ≤ x1 then (if x1 ≤ x6 then (if x6 ≤ (x0.size : Int) then (some (x0.extract (x1 : Int).toNat (x6 : Int).toNat, wrap64 (x6 + 1))) else (none)) else (none)) else (none)))
def hurdleref08_part.f (k : Nat) (a0 : ByteArray) (a1 : Int) : Option (ByteArray × Int) := hurdleref08_part.l0 k a0 a1 a1
set_option maxHeartbeats 8000000 in
set_option maxRecDepth 100000 in
theorem hurdleref08_part.calls (k : Nat) (a0 : ByteArray) (a1 : Int) (r1 : ByteArray) (r2 : Int) (w : World) (h : hurdleref08_part.f k a0 a1 = some (r1, r2)) :
 Calls Try.prog 79 #[.string a0, .int .i64 a1] w fun e w' => e = .returned (.tuple #[.string r1, .int .i64 r2]) ∧ Drawn0 w w' := by
 have H : (hurdleref08_part.l0 k a0 a1 a1) = some (r1, r2) := h
 clear h
 have H' := aM H
 clear H
 go_enter Try.func79, Try.ntmps79
 go_wp2
 go_loopg [6] k (fun kq v6 w' => ∃ (x6_1 : Int), v6 = .int .i64 x6_1 ∧ Aside0 (hurdleref08_part.l0 kq a0 a1 x6_1 = some (r1, r2)) ∧ Aside0 (kq ≤ k) ∧ Drawn0 w w')
 case atStart => exact ⟨(a1), (by first | rfl | (simp; done) | (simp [*]; done)), H', ⟨Nat.le_refl _⟩, by repeat (first | exact Drawn0.refl _ | apply Drawn0.step)⟩
 case round =>
  clear H'
  try clear p2
  obtain ⟨x6_1, rfl, HA, HK1, ⟨m1, rfl⟩⟩ := hrel
  cases gk with
  | zero => exact absurd HA.out (by simp [hurdleref08_part.l0])
  | succ k1 =>
   have H := HA.out
   clear HA
   simp only [hurdleref08_part.l0] at H
   by_cases c3 : x6_1 < (a0.size : Int)
   rotate_left
   · rw [if_neg c3] at H
     have c3b0 : decide (x6_1 < (a0.size : Int)) = false := decide_eq_false c3
     clear c3
     by_cases c11 : a1 ≥ (a0.size : Int)
     · rw [if_pos c11] at H
       have c11b0 : decide ((a0.size : Int) ≤ a1) = true := decide_eq_true c11
       clear c11
       simp only [Option.some.injEq, Prod.mk.injEq] at H
       obtain ⟨rfl, rfl⟩ := H
       go_wp2
       go_ret2
       exact ⟨by first | rfl | (simp; done) | (simp [*]; done), by repeat (first | exact Drawn0.refl _ | apply Drawn0.step)⟩
     rw [if_neg c11] at H
     have c11b0 : decide ((a0.size : Int) ≤ a1) = false := decide_eq_false c11
     clear c11
     by_cases c12 : 0 ≤ a1
     rotate_left
     · rw [if_neg c12] at H
       exact absurd H (by simp)
     rw [if_pos c12] at H
     have c12b0 := eq_true c12
     have c12b1 : decide (0 ≤ a1) = true := decide_eq_true c12
     clear c12
     by_cases c13 : a1 ≤ x6_1
     rotate_left
     · rw [if_neg c13] at H
       exact absurd H (by simp)
     rw [if_pos c13] at H
     have c13b0 := eq_true c13
     have c13b1 : decide (a1 ≤ x6_1) = true := decide_eq_true c13
     clear c13
     by_cases c14 : x6_1 ≤ (a0.size : Int)
     rotate_left
     · rw [if_neg c14] at H
       exact absurd H (by simp)
     rw [if_pos c14] at H
     have c14b0 := eq_true c14
     have c14b1 : decide (x6_1 ≤ (a0.size : Int)) = true := decide_eq_true c14
     clear c14
     simp only [Option.some.injEq, Prod.mk.injEq] at H
     obtain ⟨rfl, rfl⟩ := H
     go_wp2
     go_ret2
     exact ⟨by first | rfl | (simp; done) | (simp [*]; done), by repeat (first | exact Drawn0.refl _ | apply Drawn0.step)⟩
   rw [if_pos c3] at H
   have c3b0 : decide (x6_1 < (a0.size : Int)) = true := decide_eq_true c3
   clear c3
   by_cases c4 : 0 ≤ x6_1
   rotate_left
   · rw [if_neg c4] at H
     exact absurd H (by simp)
   rw [if_pos c4] at H
   have c4b0 : decide (0 ≤ x6_1) = true := decide_eq_true c4
   clear c4
   by_cases c6 : (bt a0 x6_1) = 32
   rotate_left
   · rw [if_neg c6] at H
     have c6b0 : ((bt a0 x6_1) == 32) = false := beq_eq_false_iff_ne.mpr c6
     have c6b1 : ((bt a0 x6_1) != 32) = true := bne_iff_ne.mpr c6
     have H' := aM H
     clear H
     have p5 : 0 ≤ (x6_1 : Int) := of_decide_eq_true as_
     have q5 : x6_1 < (a0.size : Int) := of_decide_eq_true as_
     have hx5 := bt_at a0 x6_1
     replace p5 := eq_true p5
     replace q5 := eq_true q5
     go_wp2
     go_roundg k1
     case measure => have := HK1.out; omega
     case rel => exact ⟨(wrap64 (x6_1 + 1)), (by first | rfl | (simp; done) | (simp [*]; done)), H', ⟨by have := HK1.out; omega⟩, by repeat (first | exact Drawn0.refl _ | apply Drawn0.step)⟩
   rw [if_pos c6] at H
   have c6b0 : ((bt a0 x6_1) == 32) = true := beq_iff_eq.mpr c6
   have c6b1 : ((bt a0 x6_1) != 32) = false := bne_eq_false_iff_eq.mpr c6
   clear c6
   by_cases c7 : a1 ≥ (a0.size : Int)
   · rw [if_pos c7] at H
     have c7b0 : decide ((a0.size : Int) ≤ a1) = true := decide_eq_true c7
     clear c7
     simp only [Option.some.injEq, Prod.mk.injEq] at H
     obtain ⟨rfl, rfl⟩ := H
     have p5 : 0 ≤ (x6_1 : Int) := of_decide_eq_true as_
     have q5 : x6_1 < (a0.size : Int) := of_decide_eq_true as_
     have hx5 := bt_at a0 x6_1
     replace p5 := eq_true p5
     replace q5 := eq_true q5
     go_wp2
     go_ret2
     exact ⟨by first | rfl | (simp; done) | (simp [*]; done), by repeat (first | exact Drawn0.refl _ | apply Drawn0.step)⟩
   rw [if_neg c7] at H
   have c7b0 : decide ((a0.size : Int) ≤ a1) = false := decide_eq_false c7
   clear c7
   by_cases c8 : 0 ≤ a1
   rotate_left
   · rw [if_neg c8] at H
     exact absurd H (by simp)
   rw [if_pos c8] at H
   have c8b0 := eq_true c8
   have c8b1 : decide (0 ≤ a1) = true := decide_eq_true c8
   clear c8
   by_cases c9 : a1 ≤ x6_1
   rotate_left
   · rw [if_neg c9] at H
     exact absurd H (by simp)
   rw [if_pos c9] at H
   have c9b0 := eq_true c9
   have c9b1 : decide (a1 ≤ x6_1) = true := decide_eq_true c9
   clear c9
   by_cases c10 : x6_1 ≤ (a0.size : Int)
   rotate_left
   · rw [if_neg c10] at H
     exact absurd H (by simp)
   rw [if_pos c10] at H
   have c10b0 := eq_true c10
   have c10b1 : decide (x6_1 ≤ (a0.size : Int)) = true := decide_eq_true c10
   clear c10
   simp only [Option.some.injEq, Prod.mk.injEq] at H
   obtain ⟨rfl, rfl⟩ := H
   have p5 : 0 ≤ (x6_1 : Int) := of_decide_eq_true as_
   have q5 : x6_1 < (a0.size : Int) := of_decide_eq_true as_
   have hx5 := bt_at a0 x6_1
   replace p5 := eq_true p5
   replace q5 := eq_true q5
   go_wp2
   go_ret2
   exact ⟨by first | rfl | (simp; done) | (simp [*]; done), by repeat (first | exact Drawn0.refl _ | apply Drawn0.step)⟩
mutual
def hurdleref08_Parse.l0 : Nat → ByteArray → ByteArray → Int → Int → Int → Option (Int × Int × Int × Int × Bool)
 | 0, _, _, _, _, _ => none
 | k + 1, x0, x8, x12, x14, x16 => if x16 < 6 then (hurdleref08_Parse.l1 k x0 x8 x12 x14 x16 0) else (some (0, 0, 0, 0, false))
def hurdleref08_Parse.l1 : Nat → ByteArray → ByteArray → Int → Int → Int → Int → Option (Int × Int × Int × Int × Bool)
 | 0, _, _, _, _, _, _ => none
 | k + 1, x0, x8, x12, x14, x16, x17 => if x17 < 6 then ((hurdleref08_Words.f).bind fun t379 => (if 0 ≤ x17 then (if x17 < (t379.length : Int) then (if x8.toList = (rdOf ByteArray.empty t379 x17).toList then ((hurdleref08_Print.f x16 x17 x12 x14).bind fun t383 => (if t383.toList = x0.toList then (some (x16, x17, x12, x14, true)) else (hurdleref08_Parse.l1 k x0 x8 x12 x14 x16 (wrap64 (x17 + 1))))) else (hurdleref08_Parse.l1 k x0 x8 x12 x14 x16 (wrap64 (x17 + 1)))) else (none)) else (none))) else (hurdleref08_Parse.l0 k x0 x8 x12 x14 (wrap64 (x16 + 1)))
end
def hurdleref08_Parse.f (k : Nat) (a0 : ByteArray) : Option (Int × Int × Int × Int × Bool) := (hurdleref08_part.f k a0 0).bind fun bt366 => ((hurdleref08_part.f k a0 bt366.2).bind fun bt368 => ((hurdleref08_part.f k a0 bt368.2).bind fun bt370 => ((hurdleref08_part.f k a0 bt370.2).bind fun bt372 => ((hurdleref01_Parse.f bt368.1).bind fun bt374 => ((hurdleref01_Parse.f bt372.1).bind fun bt376 => (hurdleref08_Parse.l0 k a0 bt370.1 bt374.1 bt376.1 0))))))
set_option maxHeartbeats 8000000 in
set_option maxRecDepth 100000 in
theorem hurdleref08_Parse.calls (k : Nat) (a0 : ByteArray) (r1 : Int) (r2 : Int) (r3 : Int) (r4 : Int) (r5 : Bool) (w : World) (h : hurdleref08_Parse.f k a0 = some (r1, r2, r3, r4, r5)) :
 Calls Try.prog 65 #[.string a0] w fun e w' => e = .returned (.tuple #[.agg #[.int .i64 r1, .int .i64 r2, .int .u64 r3, .int .u64 r4], .bool r5]) ∧ Below w.heap.size w w' := by
 have hu61 := Try.underlying61
 have HB := aM (Below.refl w.heap.size w)
 have H : ((hurdleref08_part.f k a0 0).bind fun bt366 => ((hurdleref08_part.f k a0 bt366.2).bind fun bt368 => ((hurdleref08_part.f k a0 bt368.2).bind fun bt370 => ((hurdleref08_part.f k a0 bt370.2).bind fun bt372 => ((hurdleref01_Parse.f bt368.1).bind fun bt374 => ((hurdleref01_Parse.f bt372.1).bind fun bt376 => (hurdleref08_Parse.l0 k a0 bt370.1 bt374.1 bt376.1 0))))))) = some (r1, r2, r3, r4, r5) := h
 clear h
 replace H := Option.bind_eq_some_iff.mp H
 obtain ⟨⟨t366, t367⟩, A20, H⟩ := H
 replace H : ((hurdleref08_part.f k a0 t367).bind fun bt368 => ((hurdleref08_part.f k a0 bt368.2).bind fun bt370 => ((hurdleref08_part.f k a0 bt370.2).bind fun bt372 => ((hurdleref01_Parse.f bt368.1).bind fun bt374 => ((hurdleref01_Parse.f bt372.1).bind fun bt376 => (hurdleref08_Parse.l0 k a0 bt370.1 bt374.1 bt376.1 0)))))) = some (r1, r2, r3, r4, r5) := H
 have A2 := aM A20
 clear A20
 replace H := Option.bind_eq_some_iff.mp H
 obtain ⟨⟨t368, t369⟩, A30, H⟩ := H
 replace H : ((hurdleref08_part.f k a0 t369).bind fun bt370 => ((hurdleref08_part.f k a0 bt370.2).bind fun bt372 => ((hurdleref01_Parse.f t368).bind fun bt374 => ((hurdleref01_Parse.f bt372.1).bind fun bt376 => (hurdleref08_Parse.l0 k a0 bt370.1 bt374.1 bt376.1 0))))) = some (r1, r2, r3, r4, r5) := H
 have A3 := aM A30
 clear A30
 replace H := Option.bind_eq_some_iff.mp H
 obtain ⟨⟨t370, t371⟩, A40, H⟩ := H
 replace H : ((hurdleref08_part.f k a0 t371).bind fun bt372 => ((hurdleref01_Parse.f t368).bind fun bt374 => ((hurdleref01_Parse.f bt372.1).bind fun bt376 => (hurdleref08_Parse.l0 k a0 t370 bt374.1 bt376.1 0)))) = some (r1, r2, r3, r4, r5) := H
 have A4 := aM A40
 clear A40
 replace H := Option.bind_eq_some_iff.mp H
 obtain ⟨⟨t372, t373⟩, A50, H⟩ := H
 replace H : ((hurdleref01_Parse.f t368).bind fun bt374 => ((hurdleref01_Parse.f t372).bind fun bt376 => (hurdleref08_Parse.l0 k a0 t370 bt374.1 bt376.1 0))) = some (r1, r2, r3, r4, r5) := H
 have A5 := aM A50
 clear A50
 replace H := Option.bind_eq_some_iff.mp H
 obtain ⟨⟨t374, t375⟩, A60, H⟩ := H
 replace H : ((hurdleref01_Parse.f t372).bind fun bt376 => (hurdleref08_Parse.l0 k a0 t370 t374 bt376.1 0)) = some (r1, r2, r3, r4, r5) := H
 have A6 := aM A60
 clear A60
 replace H := Option.bind_eq_some_iff.mp H
 obtain ⟨⟨t376, t377⟩, A70, H⟩ := H
 replace H : (hurdleref08_Parse.l0 k a0 t370 t374 t376 0) = some (r1, r2, r3, r4, r5) := H
 have A7 := aM A70
 clear A70
 have H' := aM H
 clear H
 go_enter Try.func65, Try.ntmps65
 go_wp2_with (first | ((with_reducible refine gate_dst (N := 2) rfl ?_); refine box_event ?hg (N := 2) ?hd (cs := #[.int .i64 0, .int .i64 0, .int .u64 0, .int .u64 0]) (t := 61) ?hr ?_; (case hd => rfl); (case hg => rfl); (case hr => first | (go_simp; done) | (go_simp; rfl)); intro gb365 hg w8 hbox hb; have n0_ := aM (below_step bl0 hb); have n1_ := aM (hbox); have n2_ := aM ((by rw [hg]; exact (below_size bl0) : w.heap.size ≤ gb365)); have n3_ := aM ((by rw [hg]; exact (below_size bl0) : w.heap.size ≤ gb365)); clear HB; have HB := n0_; have BK365 := n1_; have GW365 := n2_; have GE365 := n3_; clear n0_ n1_ n2_ n3_; clear hb hbox hg) | ((with_reducible refine gate_callee (f := 79) rfl ?_); refine goesL_ (some 21) rfl rfl Try.func79 kR rfl #[.string a0, .int .i64 0] rfl mpA ?_; (with_reducible refine (hurdleref08_part.calls k a0 0 t366 t367 _ A2.out).mono ?_); rintro e w' ⟨rfl, ⟨nd, rfl⟩⟩; refine ⟨_, rfl, ?_⟩) | ((with_reducible refine gate_callee (f := 79) rfl ?_); refine goesL_ (some 27) rfl rfl Try.func79 kR rfl #[.string a0, .int .i64 t367] rfl mpA ?_; (with_reducible refine (hurdleref08_part.calls k a0 t367 t368 t369 _ A3.out).mono ?_); rintro e w' ⟨rfl, ⟨nd, rfl⟩⟩; refine ⟨_, rfl, ?_⟩) | ((with_reducible refine gate_callee (f := 79) rfl ?_); refine goesL_ (some 33) rfl rfl Try.func79 kR rfl #[.string a0, .int .i64 t369] rfl mpA ?_; (with_reducible refine (hurdleref08_part.calls k a0 t369 t370 t371 _ A4.out).mono ?_); rintro e w' ⟨rfl, ⟨nd, rfl⟩⟩; refine ⟨_, rfl, ?_⟩) | ((with_reducible refine gate_callee (f := 79) rfl ?_); refine goesL_ (some 39) rfl rfl Try.func79 kR rfl #[.string a0, .int .i64 t371] rfl mpA ?_; (with_reducible refine (hurdleref08_part.calls k a0 t371 t372 t373 _ A5.out).mono ?_); rintro e w' ⟨rfl, ⟨nd, rfl⟩⟩; refine ⟨_, rfl, ?_⟩) | ((with_reducible refine gate_callee (f := 80) rfl ?_); refine goesL_ (some 44) rfl rfl Try.func80 kR rfl #[.string t368] rfl mpA ?_; (with_reducible refine (hurdleref01_Parse.calls t368 t374 t375 _ A6.out).mono ?_); rintro e w9 ⟨rfl, hb⟩; refine ⟨_, rfl, ?_⟩; have n0_ := aM (blk_below (g := gb365) (o := .cells #[.int .i64 0, .int .i64 0, .int .u64 0, .int .u64 0] 61 (0, 0)) (bkS BK365.out) hb); have n1_ := aM (below_step (bl1 GE365.out) hb); clear BK365; clear HB; have BK365 := n0_; have HB := n1_; clear n0_ n1_; (try clear hb); (try clear hb2); (try clear hk); (try clear hi)) | ((with_reducible refine gate_callee (f := 80) rfl ?_); refine goesL_ (some 49) rfl rfl Try.func80 kR rfl #[.string t372] rfl mpA ?_; (with_reducible refine (hurdleref01_Parse.calls t372 t376 t377 _ A7.out).mono ?_); rintro e w10 ⟨rfl, hb⟩; refine ⟨_, rfl, ?_⟩; have n0_ := aM (blk_below (g := gb365) (o := .cells #[.int .i64 0, .int .i64 0, .int .u64 0, .int .u64 0] 61 (0, 0)) (bkS BK365.out) hb); have n1_ := aM (below_step (bl1 GE365.out) hb); clear BK365; clear HB; have BK365 := n0_; have HB := n1_; clear n0_ n1_; (try clear hb); (try clear hb2); (try clear hk); (try clear hi)))
 go_loopg [16] k (fun kq v16 w' => ∃ (x16_1 : Int) (x366000_1 : Int) (x366001_1 : Int) (x366002_1 : Int) (x366003_1 : Int), v16 = .int .i64 x16_1 ∧ Aside0 (hurdleref08_Parse.l0 kq a0 t370 t374 t376 x16_1 = some (r1, r2, r3, r4, r5)) ∧ Aside0 (kq ≤ k) ∧ Aside0 (w'.heap[gb365]? = some (.cells #[.int .i64 x366000_1, .int .i64 x366001_1, .int .u64 x366002_1, .int .u64 x366003_1] 61 (0, 0))) ∧ Aside0 (Below w.heap.size w w'))
 case atStart => exact ⟨(0), (0), (0), (0), (0), (by first | rfl | (simp; done) | (simp [*]; done)), H', ⟨Nat.le_refl _⟩, ⟨by refine bkS ?_; exact BK365.out⟩, ⟨bl1 GE365.out⟩⟩
 case round =>
  clear H'
  try clear p2
  try clear c6
  try clear c7
  try clear c8
  obtain ⟨x16_1, x366000_1, x366001_1, x366002_1, x366003_1, rfl, HA, HK1, BK365, HB⟩ := hrel
  cases gk with
  | zero => exact absurd HA.out (by simp [hurdleref08_Parse.l0])
  | succ k1 =>
   have H := HA.out
   clear HA
   simp only [hurdleref08_Parse.l0] at H
   by_cases c11 : x16_1 < 6
   rotate_left
   · rw [if_neg c11] at H
     have c11b0 : decide (x16_1 < 6) = false := decide_eq_false c11
     clear c11
     simp only [Option.some.injEq, Prod.mk.injEq] at H
     obtain ⟨rfl, rfl, rfl, rfl, rfl⟩ := H
     have hcz40_0 : wr.cell? ⟨gb365, 0, none⟩ = some (.int .i64 x366000_1) := (blk_cell BK365.out 0).trans rfl
     have hcz40_1 : wr.cell? ⟨gb365, 1, none⟩ = some (.int .i64 x366001_1) := (blk_cell BK365.out 1).trans rfl
     have hcz40_2 : wr.cell? ⟨gb365, 2, none⟩ = some (.int .u64 x366002_1) := (blk_cell BK365.out 2).trans rfl
     have hcz40_3 : wr.cell? ⟨gb365, 3, none⟩ = some (.int .u64 x366003_1) := (blk_cell BK365.out 3).trans rfl
     have hfz40_0 := blk_frozen BK365.out 0
     have hfz40_1 := blk_frozen BK365.out 1
     have hfz40_2 := blk_frozen BK365.out 2
     have hfz40_3 := blk_frozen BK365.out 3
     go_wp2
     refine bodyPost_ret (results_ct rfl _ _ gb365 61 #[.int .i64 0, .int .i64 0, .int .u64 0, .int .u64 0] (0, 0) _ rfl (by refine bkS ?_; refine blk_put (cs := #[.int .i64 0, .int .i64 0, .int .u64 0, .int .u64 x366003_1]) ?_ 3 _ rfl; refine bkS ?_; refine blk_put (cs := #[.int .i64 0, .int .i64 0, .int .u64 x366002_1, .int .u64 x366003_1]) ?_ 2 _ rfl; refine bkS ?_; refine blk_put (cs := #[.int .i64 0, .int .i64 x366001_1, .int .u64 x366002_1, .int .u64 x366003_1]) ?_ 1 _ rfl; refine bkS ?_; refine blk_put (cs := #[.int .i64 x366000_1, .int .i64 x366001_1, .int .u64 x366002_1, .int .u64 x366003_1]) ?_ 0 _ rfl; refine bkS ?_; exact BK365.out) Try.underlying61 rfl kR) rfl ?_
     exact ⟨erA, bl1 GE365.out⟩
   rw [if_pos c11] at H
   have c11b0 : decide (x16_1 < 6) = true := decide_eq_true c11
   clear c11
   have H' := aM H
   clear H
   go_wp2
   go_loopg [17] k1 (fun kq v17 w' => ∃ (x17_2 : Int) (x366000_2 : Int) (x366001_2 : Int) (x366002_2 : Int) (x366003_2 : Int), v17 = .int .i64 x17_2 ∧ Aside0 (hurdleref08_Parse.l1 kq a0 t370 t374 t376 x16_1 x17_2 = some (r1, r2, r3, r4, r5)) ∧ Aside0 (kq ≤ k1) ∧ Aside0 (w'.heap[gb365]? = some (.cells #[.int .i64 x366000_2, .int .i64 x366001_2, .int .u64 x366002_2, .int .u64 x366003_2] 61 (0, 0))) ∧ Aside0 (Below w.heap.size w w'))
   case atStart => exact ⟨(0), (x366000_1), (x366001_1), (x366002_1), (x366003_1), (by first | rfl | (simp; done) | (simp [*]; done)), H', ⟨Nat.le_refl _⟩, ⟨by refine bkS ?_; exact BK365.out⟩, ⟨bl1 GE365.out⟩⟩
   case round =>
    clear H'
    try clear c1
    try clear p2
    try clear c6
    try clear c7
    try clear c8
    try clear c11
    try clear c11b0
    try clear p2
    obtain ⟨x17_2, x366000_2, x366001_2, x366002_2, x366003_2, rfl, HA, HK2, BK365, HB⟩ := hrel
    cases gk with
    | zero => exact absurd HA.out (by simp [hurdleref08_Parse.l1])
    | succ k2 =>
     have H := HA.out
     clear HA
     simp only [hurdleref08_Parse.l1] at H
     by_cases c12 : x17_2 < 6
     rotate_left
     · rw [if_neg c12] at H
       have c12b0 : decide (x17_2 < 6) = false := decide_eq_false c12
       clear c12
       have H' := aM H
       clear H
       go_wp2
       go_roundg k2
       case measure => have := HK1.out; have := HK2.out; omega
       case rel => exact ⟨(wrap64 (x16_1 + 1)), (x366000_2), (x366001_2), (x366002_2), (x366003_2), (by first | rfl | (simp; done) | (simp [*]; done)), H', ⟨by have := HK1.out; have := HK2.out; omega⟩, ⟨by refine bkS ?_; exact BK365.out⟩, ⟨bl1 GE365.out⟩⟩
     rw [if_pos c12] at H
     have c12b0 : decide (x17_2 < 6) = true := decide_eq_true c12
     clear c12
     replace H := Option.bind_eq_some_iff.mp H
     obtain ⟨t379, A130, H⟩ := H
     replace H : (if 0 ≤ x17_2 then (if x17_2 < (t379.length : Int) then (if t370.toList = (rdOf ByteArray.empty t379 x17_2).toList then ((hurdleref08_Print.f x16_1 x17_2 t374 t376).bind fun t383 => (if t383.toList = a0.toList then (some (x16_1, x17_2, t374, t376, true)) else (hurdleref08_Parse.l1 k2 a0 t370 t374 t376 x16_1 (wrap64 (x17_2 + 1))))) else (hurdleref08_Parse.l1 k2 a0 t370 t374 t376 x16_1 (wrap64 (x17_2 + 1)))) else (none)) else (none)) = some (r1, r2, r3, r4, r5) := H
     have A13 := aM A130
     clear A130
     by_cases c14 : 0 ≤ x17_2
     rotate_left
     · rw [if_neg c14] at H
       exact absurd H (by simp)
     rw [if_pos c14] at H
     have c14b0 : decide (0 ≤ x17_2) = true := decide_eq_true c14
     clear c14
     by_cases c15 : x17_2 < (t379.length : Int)
     rotate_left
     · rw [if_neg c15] at H
       exact absurd H (by simp)
     rw [if_pos c15] at H
     have c15b0 : decide (x17_2 < (t379.length : Int)) = true := decide_eq_true c15
     clear c15
     by_cases c16 : t370.toList = (rdOf ByteArray.empty t379 x17_2).toList
     rotate_left
     · rw [if_neg c16] at H
       have c16b0 : (t370.toList == (rdOf ByteArray.empty t379 x17_2).toList) = false := beq_eq_false_iff_ne.mpr c16
       have c16b1 : (t370.toList != (rdOf ByteArray.empty t379 x17_2).toList) = true := bne_iff_ne.mpr c16
       have H' := aM H
       clear H
       go_wp2_with (first | ((with_reducible refine gate_dst (N := 18) rfl ?_); refine box_event ?hg (N := 18) ?hd (cs := #[.int .i64 0, .int .i64 0, .int .u64 0, .int .u64 0]) (t := 61) ?hr ?_; (case hd => rfl); (case hg => rfl); (case hr => first | (go_simp; done) | (go_simp; rfl)); intro gb378 hg w35 hbox hb; have n0_ := aM (blk_below (g := gb365) (o := .cells #[.int .i64 x366000_2, .int .i64 x366001_2, .int .u64 x366002_2, .int .u64 x366003_2] 61 (0, 0)) (bkS BK365.out) hb); have n1_ := aM (below_step (bl1 GE365.out) hb); have n2_ := aM (hbox); have n3_ := aM ((by rw [hg]; exact (below_size (bl1 GE365.out)) : w.heap.size ≤ gb378)); have n4_ := aM ((by rw [hg]; exact (below_size (bl1 GE365.out)) : w.heap.size ≤ gb378)); have n5_ := aM ((by rw [hg]; exact Nat.ne_of_lt (blk_lt (g := gb365) (o := .cells #[.int .i64 x366000_2, .int .i64 x366001_2, .int .u64 x366002_2, .int .u64 x366003_2] 61 (0, 0)) (bkS BK365.out)) : gb365 ≠ gb378)); have n6_ := aM ((by rw [hg]; exact Nat.ne_of_gt (blk_lt (g := gb365) (o := .cells #[.int .i64 x366000_2, .int .i64 x366001_2, .int .u64 x366002_2, .int .u64 x366003_2] 61 (0, 0)) (bkS BK365.out)) : gb378 ≠ gb365)); clear BK365; clear HB; have BK365 := n0_; have HB := n1_; have BK378 := n2_; have GW378 := n3_; have GE378 := n4_; have NB365_378 := n5_; have NB378_365 := n6_; clear n0_ n1_ n2_ n3_ n4_ n5_ n6_; clear hb hbox hg; have hnb36 := NB378_365.out; have hnc36 := NB365_378.out; have hcz37_0 : w35.cell? ⟨gb378, 0, none⟩ = some (.int .i64 0) := (blk_cell BK378.out 0).trans rfl; have hcz37_1 : w35.cell? ⟨gb378, 1, none⟩ = some (.int .i64 0) := (blk_cell BK378.out 1).trans rfl; have hcz37_2 : w35.cell? ⟨gb378, 2, none⟩ = some (.int .u64 0) := (blk_cell BK378.out 2).trans rfl; have hcz37_3 : w35.cell? ⟨gb378, 3, none⟩ = some (.int .u64 0) := (blk_cell BK378.out 3).trans rfl; have hfz37_0 := blk_frozen BK378.out 0; have hfz37_1 := blk_frozen BK378.out 1; have hfz37_2 := blk_frozen BK378.out 2; have hfz37_3 := blk_frozen BK378.out 3) | ((with_reducible refine gate_callee (f := 75) rfl ?_); refine goesL_ (some 66) rfl rfl Try.func75 kR rfl #[] rfl mpA ?_; (with_reducible refine (hurdleref08_Words.calls  t379 _ A13.out).mono ?_); rintro e w38 ⟨v380, rfl, ho0, hb⟩; refine ⟨_, rfl, ?_⟩; have n0_ := aM (Kd.R_lower ho0 (below_size (bl2 GE365.out GE378.out))); have n1_ := aM (blk_below (g := gb365) (o := .cells #[.int .i64 x366000_2, .int .i64 x366001_2, .int .u64 x366002_2, .int .u64 x366003_2] 61 (0, 0)) (by refine bkS ?_; refine blk_far ?_ NB365_378.out _; refine bkS ?_; refine blk_far ?_ NB365_378.out _; refine bkS ?_; refine blk_far ?_ NB365_378.out _; refine bkS ?_; refine blk_far ?_ NB365_378.out _; refine bkS ?_; exact BK365.out) hb); have n2_ := aM (blk_below (g := gb378) (o := .cells #[.int .i64 x16_1, .int .i64 x17_2, .int .u64 t374, .int .u64 t376] 61 (0, 0)) (by refine bkS ?_; refine blk_put (cs := #[.int .i64 x16_1, .int .i64 x17_2, .int .u64 t374, .int .u64 0]) ?_ 3 _ rfl; refine bkS ?_; refine blk_put (cs := #[.int .i64 x16_1, .int .i64 x17_2, .int .u64 0, .int .u64 0]) ?_ 2 _ rfl; refine bkS ?_; refine blk_put (cs := #[.int .i64 x16_1, .int .i64 0, .int .u64 0, .int .u64 0]) ?_ 1 _ rfl; refine bkS ?_; refine blk_put (cs := #[.int .i64 0, .int .i64 0, .int .u64 0, .int .u64 0]) ?_ 0 _ rfl; refine bkS ?_; exact BK378.out) hb); have n3_ := aM (below_step (bl2 GE365.out GE378.out) hb); clear BK365; clear BK378; clear HB; have HO381 := n0_; have BK365 := n1_; have BK378 := n2_; have HB := n3_; clear n0_ n1_ n2_ n3_; (try clear hb); (try clear hb2); (try clear hk); (try clear hi); (try clear ho0); obtain ⟨Ao39, co39, eo39⟩ := Kd.R_slice HO381.out; subst eo39; have p382 : 0 ≤ (x17_2 : Int) := of_decide_eq_true as_; have q382 : x17_2 < (t379.length : Int) := of_decide_eq_true as_; obtain ⟨ad382, e382, hx382_0⟩ := Kd.at_string (Kd.R_reads' HO381.out).2.2 x17_2 p382 q382; cases e382; replace p382 := eq_true p382; replace q382 := eq_true q382))
       go_roundg k2
       case measure => have := HK1.out; have := HK2.out; omega
       case rel => exact ⟨(wrap64 (x17_2 + 1)), (x366000_2), (x366001_2), (x366002_2), (x366003_2), (by first | rfl | (simp; done) | (simp [*]; done)), H', ⟨by have := HK1.out; have := HK2.out; omega⟩, ⟨by refine bkS ?_; exact BK365.out⟩, ⟨bl2 GE365.out GE378.out⟩⟩
     rw [if_pos c16] at H
     have c16b0 : (t370.toList == (rdOf ByteArray.empty t379 x17_2).toList) = true := beq_iff_eq.mpr c16
     have c16b1 : (t370.toList != (rdOf ByteArray.empty t379 x17_2).toList) = false := bne_eq_false_iff_eq.mpr c16
     clear c16
     replace H := Option.bind_eq_some_iff.mp H
     obtain ⟨t383, A170, H⟩ := H
     replace H : (if t383.toList = a0.toList then (some (x16_1, x17_2, t374, t376, true)) else (hurdleref08_Parse.l1 k2 a0 t370 t374 t376 x16_1 (wrap64 (x17_2 + 1)))) = some (r1, r2, r3, r4, r5) := H
     have A17 := aM A170
     clear A170
     by_cases c18 : t383.toList = a0.toList
     · rw [if_pos c18] at H
       have c18b0 : (t383.toList == a0.toList) = true := beq_iff_eq.mpr c18
       have c18b1 : (t383.toList != a0.toList) = false := bne_eq_false_iff_eq.mpr c18
       clear c18
       simp only [Option.some.injEq, Prod.mk.injEq] at H
       obtain ⟨rfl, rfl, rfl, rfl, rfl⟩ := H
       go_wp2_with (first | ((with_reducible refine gate_dst (N := 18) rfl ?_); refine box_event ?hg (N := 18) ?hd (cs := #[.int .i64 0, .int .i64 0, .int .u64 0, .int .u64 0]) (t := 61) ?hr ?_; (case hd => rfl); (case hg => rfl); (case hr => first | (go_simp; done) | (go_simp; rfl)); intro gb378 hg w19 hbox hb; have n0_ := aM (blk_below (g := gb365) (o := .cells #[.int .i64 x366000_2, .int .i64 x366001_2, .int .u64 x366002_2, .int .u64 x366003_2] 61 (0, 0)) (bkS BK365.out) hb); have n1_ := aM (below_step (bl1 GE365.out) hb); have n2_ := aM (hbox); have n3_ := aM ((by rw [hg]; exact (below_size (bl1 GE365.out)) : w.heap.size ≤ gb378)); have n4_ := aM ((by rw [hg]; exact (below_size (bl1 GE365.out)) : w.heap.size ≤ gb378)); have n5_ := aM ((by rw [hg]; exact Nat.ne_of_lt (blk_lt (g := gb365) (o := .cells #[.int .i64 x366000_2, .int .i64 x366001_2, .int .u64 x366002_2, .int .u64 x366003_2] 61 (0, 0)) (bkS BK365.out)) : gb365 ≠ gb378)); have n6_ := aM ((by rw [hg]; exact Nat.ne_of_gt (blk_lt (g := gb365) (o := .cells #[.int .i64 x366000_2, .int .i64 x366001_2, .int .u64 x366002_2, .int .u64 x366003_2] 61 (0, 0)) (bkS BK365.out)) : gb378 ≠ gb365)); clear BK365; clear HB; have BK365 := n0_; have HB := n1_; have BK378 := n2_; have GW378 := n3_; have GE378 := n4_; have NB365_378 := n5_; have NB378_365 := n6_; clear n0_ n1_ n2_ n3_ n4_ n5_ n6_; clear hb hbox hg; have hnb20 := NB378_365.out; have hnc20 := NB365_378.out; have hcz21_0 : w19.cell? ⟨gb378, 0, none⟩ = some (.int .i64 0) := (blk_cell BK378.out 0).trans rfl; have hcz21_1 : w19.cell? ⟨gb378, 1, none⟩ = some (.int .i64 0) := (blk_cell BK378.out 1).trans rfl; have hcz21_2 : w19.cell? ⟨gb378, 2, none⟩ = some (.int .u64 0) := (blk_cell BK378.out 2).trans rfl; have hcz21_3 : w19.cell? ⟨gb378, 3, none⟩ = some (.int .u64 0) := (blk_cell BK378.out 3).trans rfl; have hfz21_0 := blk_frozen BK378.out 0; have hfz21_1 := blk_frozen BK378.out 1; have hfz21_2 := blk_frozen BK378.out 2; have hfz21_3 := blk_frozen BK378.out 3) | ((with_reducible refine gate_callee (f := 75) rfl ?_); refine goesL_ (some 66) rfl rfl Try.func75 kR rfl #[] rfl mpA ?_; (with_reducible refine (hurdleref08_Words.calls  t379 _ A13.out).mono ?_); rintro e w22 ⟨v380, rfl, ho0, hb⟩; refine ⟨_, rfl, ?_⟩; have n0_ := aM (Kd.R_lower ho0 (below_size (bl2 GE365.out GE378.out))); have n1_ := aM (blk_below (g := gb365) (o := .cells #[.int .i64 x366000_2, .int .i64 x366001_2, .int .u64 x366002_2, .int .u64 x366003_2] 61 (0, 0)) (by refine bkS ?_; refine blk_far ?_ NB365_378.out _; refine bkS ?_; refine blk_far ?_ NB365_378.out _; refine bkS ?_; refine blk_far ?_ NB365_378.out _; refine bkS ?_; refine blk_far ?_ NB365_378.out _; refine bkS ?_; exact BK365.out) hb); have n2_ := aM (blk_below (g := gb378) (o := .cells #[.int .i64 x16_1, .int .i64 x17_2, .int .u64 t374, .int .u64 t376] 61 (0, 0)) (by refine bkS ?_; refine blk_put (cs := #[.int .i64 x16_1, .int .i64 x17_2, .int .u64 t374, .int .u64 0]) ?_ 3 _ rfl; refine bkS ?_; refine blk_put (cs := #[.int .i64 x16_1, .int .i64 x17_2, .int .u64 0, .int .u64 0]) ?_ 2 _ rfl; refine bkS ?_; refine blk_put (cs := #[.int .i64 x16_1, .int .i64 0, .int .u64 0, .int .u64 0]) ?_ 1 _ rfl; refine bkS ?_; refine blk_put (cs := #[.int .i64 0, .int .i64 0, .int .u64 0, .int .u64 0]) ?_ 0 _ rfl; refine bkS ?_; exact BK378.out) hb); have n3_ := aM (below_step (bl2 GE365.out GE378.out) hb); clear BK365; clear BK378; clear HB; have HO381 := n0_; have BK365 := n1_; have BK378 := n2_; have HB := n3_; clear n0_ n1_ n2_ n3_; (try clear hb); (try clear hb2); (try clear hk); (try clear hi); (try clear ho0); obtain ⟨Ao23, co23, eo23⟩ := Kd.R_slice HO381.out; subst eo23; have p382 : 0 ≤ (x17_2 : Int) := of_decide_eq_true as_; have q382 : x17_2 < (t379.length : Int) := of_decide_eq_true as_; obtain ⟨ad382, e382, hx382_0⟩ := Kd.at_string (Kd.R_reads' HO381.out).2.2 x17_2 p382 q382; cases e382; replace p382 := eq_true p382; replace q382 := eq_true q382; have hcz24_0 : w22.cell? ⟨gb378, 0, none⟩ = some (.int .i64 x16_1) := (blk_cell BK378.out 0).trans rfl; have hcz24_1 : w22.cell? ⟨gb378, 1, none⟩ = some (.int .i64 x17_2) := (blk_cell BK378.out 1).trans rfl; have hcz24_2 : w22.cell? ⟨gb378, 2, none⟩ = some (.int .u64 t374) := (blk_cell BK378.out 2).trans rfl; have hcz24_3 : w22.cell? ⟨gb378, 3, none⟩ = some (.int .u64 t376) := (blk_cell BK378.out 3).trans rfl; have hfz24_0 := blk_frozen BK378.out 0; have hfz24_1 := blk_frozen BK378.out 1; have hfz24_2 := blk_frozen BK378.out 2; have hfz24_3 := blk_frozen BK378.out 3) | (go_at_call 58; (with_reducible refine (hurdleref08_Print.calls x16_1 x17_2 t374 t376 t383 _ A17.out).mono ?_); rintro e w25 ⟨rfl, hb⟩; have n0_ := aM (Kd.R_below (rdS HO381.out) hb); have n1_ := aM (blk_below (g := gb365) (o := .cells #[.int .i64 x366000_2, .int .i64 x366001_2, .int .u64 x366002_2, .int .u64 x366003_2] 61 (0, 0)) (bkS BK365.out) hb); have n2_ := aM (blk_below (g := gb378) (o := .cells #[.int .i64 x16_1, .int .i64 x17_2, .int .u64 t374, .int .u64 t376] 61 (0, 0)) (bkS BK378.out) hb); have n3_ := aM (below_step (bl2 GE365.out GE378.out) hb); clear HO381; clear BK365; clear BK378; clear HB; have HO381 := n0_; have BK365 := n1_; have BK378 := n2_; have HB := n3_; clear n0_ n1_ n2_ n3_; (try clear hb); (try clear hb2); (try clear hk); (try clear hi); have hcz26_0 : w25.cell? ⟨gb378, 0, none⟩ = some (.int .i64 x16_1) := (blk_cell BK378.out 0).trans rfl; have hcz26_1 : w25.cell? ⟨gb378, 1, none⟩ = some (.int .i64 x17_2) := (blk_cell BK378.out 1).trans rfl; have hcz26_2 : w25.cell? ⟨gb378, 2, none⟩ = some (.int .u64 t374) := (blk_cell BK378.out 2).trans rfl; have hcz26_3 : w25.cell? ⟨gb378, 3, none⟩ = some (.int .u64 t376) := (blk_cell BK378.out 3).trans rfl; have hfz26_0 := blk_frozen BK378.out 0; have hfz26_1 := blk_frozen BK378.out 1; have hfz26_2 := blk_frozen BK378.out 2; have hfz26_3 := blk_frozen BK378.out 3; have hcz27_0 : w25.cell? ⟨gb365, 0, none⟩ = some (.int .i64 x366000_2) := (blk_cell BK365.out 0).trans rfl; have hcz27_1 : w25.cell? ⟨gb365, 1, none⟩ = some (.int .i64 x366001_2) := (blk_cell BK365.out 1).trans rfl; have hcz27_2 : w25.cell? ⟨gb365, 2, none⟩ = some (.int .u64 x366002_2) := (blk_cell BK365.out 2).trans rfl; have hcz27_3 : w25.cell? ⟨gb365, 3, none⟩ = some (.int .u64 x366003_2) := (blk_cell BK365.out 3).trans rfl; have hfz27_0 := blk_frozen BK365.out 0; have hfz27_1 := blk_frozen BK365.out 1; have hfz27_2 := blk_frozen BK365.out 2; have hfz27_3 := blk_frozen BK365.out 3))
       refine bodyPost_ret (results_ct rfl _ _ gb365 61 #[.int .i64 x16_1, .int .i64 x17_2, .int .u64 t374, .int .u64 t376] (0, 0) _ rfl (by refine bkS ?_; refine blk_put (cs := #[.int .i64 x16_1, .int .i64 x17_2, .int .u64 t374, .int .u64 x366003_2]) ?_ 3 _ rfl; refine bkS ?_; refine blk_put (cs := #[.int .i64 x16_1, .int .i64 x17_2, .int .u64 x366002_2, .int .u64 x366003_2]) ?_ 2 _ rfl; refine bkS ?_; refine blk_put (cs := #[.int .i64 x16_1, .int .i64 x366001_2, .int .u64 x366002_2, .int .u64 x366003_2]) ?_ 1 _ rfl; refine bkS ?_; refine blk_put (cs := #[.int .i64 x366000_2, .int .i64 x366001_2, .int .u64 x366002_2, .int .u64 x366003_2]) ?_ 0 _ rfl; refine bkS ?_; exact BK365.out) Try.underlying61 rfl kR) rfl ?_
       exact ⟨erA, bl2 GE365.out GE378.out⟩
     rw [if_neg c18] at H
     have c18b0 : (t383.toList == a0.toList) = false := beq_eq_false_iff_ne.mpr c18
     have c18b1 : (t383.toList != a0.toList) = true := bne_iff_ne.mpr c18
     have H' := aM H
     clear H
     go_wp2_with (first | ((with_reducible refine gate_dst (N := 18) rfl ?_); refine box_event ?hg (N := 18) ?hd (cs := #[.int .i64 0, .int .i64 0, .int .u64 0, .int .u64 0]) (t := 61) ?hr ?_; (case hd => rfl); (case hg => rfl); (case hr => first | (go_simp; done) | (go_simp; rfl)); intro gb378 hg w28 hbox hb; have n0_ := aM (blk_below (g := gb365) (o := .cells #[.int .i64 x366000_2, .int .i64 x366001_2, .int .u64 x366002_2, .int .u64 x366003_2] 61 (0, 0)) (bkS BK365.out) hb); have n1_ := aM (below_step (bl1 GE365.out) hb); have n2_ := aM (hbox); have n3_ := aM ((by rw [hg]; exact (below_size (bl1 GE365.out)) : w.heap.size ≤ gb378)); have n4_ := aM ((by rw [hg]; exact (below_size (bl1 GE365.out)) : w.heap.size ≤ gb378)); have n5_ := aM ((by rw [hg]; exact Nat.ne_of_lt (blk_lt (g := gb365) (o := .cells #[.int .i64 x366000_2, .int .i64 x366001_2, .int .u64 x366002_2, .int .u64 x366003_2] 61 (0, 0)) (bkS BK365.out)) : gb365 ≠ gb378)); have n6_ := aM ((by rw [hg]; exact Nat.ne_of_gt (blk_lt (g := gb365) (o := .cells #[.int .i64 x366000_2, .int .i64 x366001_2, .int .u64 x366002_2, .int .u64 x366003_2] 61 (0, 0)) (bkS BK365.out)) : gb378 ≠ gb365)); clear BK365; clear HB; have BK365 := n0_; have HB := n1_; have BK378 := n2_; have GW378 := n3_; have GE378 := n4_; have NB365_378 := n5_; have NB378_365 := n6_; clear n0_ n1_ n2_ n3_ n4_ n5_ n6_; clear hb hbox hg; have hnb29 := NB378_365.out; have hnc29 := NB365_378.out; have hcz30_0 : w28.cell? ⟨gb378, 0, none⟩ = some (.int .i64 0) := (blk_cell BK378.out 0).trans rfl; have hcz30_1 : w28.cell? ⟨gb378, 1, none⟩ = some (.int .i64 0) := (blk_cell BK378.out 1).trans rfl; have hcz30_2 : w28.cell? ⟨gb378, 2, none⟩ = some (.int .u64 0) := (blk_cell BK378.out 2).trans rfl; have hcz30_3 : w28.cell? ⟨gb378, 3, none⟩ = some (.int .u64 0) := (blk_cell BK378.out 3).trans rfl; have hfz30_0 := blk_frozen BK378.out 0; have hfz30_1 := blk_frozen BK378.out 1; have hfz30_2 := blk_frozen BK378.out 2; have hfz30_3 := blk_frozen BK378.out 3) | ((with_reducible refine gate_callee (f := 75) rfl ?_); refine goesL_ (some 66) rfl rfl Try.func75 kR rfl #[] rfl mpA ?_; (with_reducible refine (hurdleref08_Words.calls  t379 _ A13.out).mono ?_); rintro e w31 ⟨v380, rfl, ho0, hb⟩; refine ⟨_, rfl, ?_⟩; have n0_ := aM (Kd.R_lower ho0 (below_size (bl2 GE365.out GE378.out))); have n1_ := aM (blk_below (g := gb365) (o := .cells #[.int .i64 x366000_2, .int .i64 x366001_2, .int .u64 x366002_2, .int .u64 x366003_2] 61 (0, 0)) (by refine bkS ?_; refine blk_far ?_ NB365_378.out _; refine bkS ?_; refine blk_far ?_ NB365_378.out _; refine bkS ?_; refine blk_far ?_ NB365_378.out _; refine bkS ?_; refine blk_far ?_ NB365_378.out _; refine bkS ?_; exact BK365.out) hb); have n2_ := aM (blk_below (g := gb378) (o := .cells #[.int .i64 x16_1, .int .i64 x17_2, .int .u64 t374, .int .u64 t376] 61 (0, 0)) (by refine bkS ?_; refine blk_put (cs := #[.int .i64 x16_1, .int .i64 x17_2, .int .u64 t374, .int .u64 0]) ?_ 3 _ rfl; refine bkS ?_; refine blk_put (cs := #[.int .i64 x16_1, .int .i64 x17_2, .int .u64 0, .int .u64 0]) ?_ 2 _ rfl; refine bkS ?_; refine blk_put (cs := #[.int .i64 x16_1, .int .i64 0, .int .u64 0, .int .u64 0]) ?_ 1 _ rfl; refine bkS ?_; refine blk_put (cs := #[.int .i64 0, .int .i64 0, .int .u64 0, .int .u64 0]) ?_ 0 _ rfl; refine bkS ?_; exact BK378.out) hb); have n3_ := aM (below_step (bl2 GE365.out GE378.out) hb); clear BK365; clear BK378; clear HB; have HO381 := n0_; have BK365 := n1_; have BK378 := n2_; have HB := n3_; clear n0_ n1_ n2_ n3_; (try clear hb); (try clear hb2); (try clear hk); (try clear hi); (try clear ho0); obtain ⟨Ao32, co32, eo32⟩ := Kd.R_slice HO381.out; subst eo32; have p382 : 0 ≤ (x17_2 : Int) := of_decide_eq_true as_; have q382 : x17_2 < (t379.length : Int) := of_decide_eq_true as_; obtain ⟨ad382, e382, hx382_0⟩ := Kd.at_string (Kd.R_reads' HO381.out).2.2 x17_2 p382 q382; cases e382; replace p382 := eq_true p382; replace q382 := eq_true q382; have hcz33_0 : w31.cell? ⟨gb378, 0, none⟩ = some (.int .i64 x16_1) := (blk_cell BK378.out 0).trans rfl; have hcz33_1 : w31.cell? ⟨gb378, 1, none⟩ = some (.int .i64 x17_2) := (blk_cell BK378.out 1).trans rfl; have hcz33_2 : w31.cell? ⟨gb378, 2, none⟩ = some (.int .u64 t374) := (blk_cell BK378.out 2).trans rfl; have hcz33_3 : w31.cell? ⟨gb378, 3, none⟩ = some (.int .u64 t376) := (blk_cell BK378.out 3).trans rfl; have hfz33_0 := blk_frozen BK378.out 0; have hfz33_1 := blk_frozen BK378.out 1; have hfz33_2 := blk_frozen BK378.out 2; have hfz33_3 := blk_frozen BK378.out 3) | (go_at_call 58; (with_reducible refine (hurdleref08_Print.calls x16_1 x17_2 t374 t376 t383 _ A17.out).mono ?_); rintro e w34 ⟨rfl, hb⟩; have n0_ := aM (Kd.R_below (rdS HO381.out) hb); have n1_ := aM (blk_below (g := gb365) (o := .cells #[.int .i64 x366000_2, .int .i64 x366001_2, .int .u64 x366002_2, .int .u64 x366003_2] 61 (0, 0)) (bkS BK365.out) hb); have n2_ := aM (blk_below (g := gb378) (o := .cells #[.int .i64 x16_1, .int .i64 x17_2, .int .u64 t374, .int .u64 t376] 61 (0, 0)) (bkS BK378.out) hb); have n3_ := aM (below_step (bl2 GE365.out GE378.out) hb); clear HO381; clear BK365; clear BK378; clear HB; have HO381 := n0_; have BK365 := n1_; have BK378 := n2_; have HB := n3_; clear n0_ n1_ n2_ n3_; (try clear hb); (try clear hb2); (try clear hk); (try clear hi)))
     go_roundg k2
     case measure => have := HK1.out; have := HK2.out; omega
     case rel => exact ⟨(wrap64 (x17_2 + 1)), (x366000_2), (x366001_2), (x366002_2), (x366003_2), (by first | rfl | (simp; done) | (simp [*]; done)), H', ⟨by have := HK1.out; have := HK2.out; omega⟩, ⟨by refine bkS ?_; exact BK365.out⟩, ⟨bl2 GE365.out GE378.out⟩⟩
end Go.Proofs.Ytekpbgmmogpbdaa.P
namespace Go.Proofs.Ytekpbgmmogpbdaa.P
open Go.RowKit Go.Proofs.Ytekpbgmmogpbdaa.H Go.Proofs.YtekpbgmmogpbdaaW.PrintWords Go.Proofs.YtekpbgmmogpbdaaW.PrintLast Go.Proofs.YtekpbgmmogpbdaaW.PrintMore
attribute [local go_sem] max2_int min2_int max_two min_two max_three min_three max_four min_four
mutual
def hurdleref10_Read.j0 : Nat → ByteArray → List ByteArray → Bool → Option (Int × Int × (List (S61)) × Int × Bool)
 | 0, _, _, _ => none
 | k + 1, x0, x4, x31 => if x31 = true then (some (0, 0, ([] : List (S61)), 0, false)) else (if 1 < (x4.length : Int) then ((hurdleref09_ReadMachine.f k (rdOf ByteArray.empty x4 1)).bind fun bt390 => (if 2 < (x4.length : Int) then ((hurdleref09_ReadCall.f k bt390.1 (rdOf ByteArray.empty x4 2)).bind fun bt393 => (if 3 < (x4.length : Int) then ((hurdleref09_ReadAction.f k (rdOf ByteArray.empty x4 3)).bind fun bt396 => (if bt390.2 = true then (if bt393.2 = true then (hurdleref10_Read.j1 k x0 x4 bt390.1 bt393.1 bt396.1 (!bt396.2)) else (hurdleref10_Read.j1 k x0 x4 bt390.1 bt393.1 bt396.1 true)) else (hurdleref10_Read.j1 k x0 x4 bt390.1 bt393.1 bt396.1 true))) else (none))) else (none))) else (none))
def hurdleref10_Read.j1 : Nat → ByteArray → List ByteArray → Int → Int → Int → Bool → Option (Int × Int × (List (S61)) × Int × Bool)
 | 0, _, _, _, _, _, _ => none
 | k + 1, x0, x4, x6, x8, x10, x64 => if x64 = true then (some (0, 0, ([] : List (S61)), 0, false)) else (hurdleref10_Read.l0 k x0 x4 4 x6 x8 ([] : List (S61)) x10)
def hurdleref10_Read.l0 : Nat → ByteArray → List ByteArray → Int → Int → Int → List (S61) → Int → Option (Int × Int × (List (S61)) × Int × Bool)
 | 0, _, _, _, _, _, _, _ => none
 | k + 1, x0, x4, x12, x389000, x389001, x389002, x389003 => if x12 < (x4.length : Int) then (if 0 ≤ (wrap64 (x12 + 1)) then (if (wrap64 (x12 + 1)) < (x4.length : Int) then (if (rdOf ByteArray.empty x4 (wrap64 (x12 + 1))).size + 1 ≤ 9223372036854775807 then (if 0 ≤ (wrap64 (x12 + 2)) then (if (wrap64 (x12 + 2)) < (x4.length : Int) then (if ((rdOf ByteArray.empty x4 (wrap64 (x12 + 1))) ++ (⟨#[32]⟩ : ByteArray)).size + (rdOf ByteArray.empty x4 (wrap64 (x12 + 2))).size ≤ 9223372036854775807 then (if (((rdOf ByteArray.empty x4 (wrap64 (x12 + 1))) ++ (⟨#[32]⟩ : ByteArray)) ++ (rdOf ByteArray.empty x4 (wrap64 (x12 + 2)))).size + 1 ≤ 9223372036854775807 then (if 0 ≤ (wrap64 (x12 + 3)) then (if (wrap64 (x12 + 3)) < (x4.length : Int) then (if ((((rdOf ByteArray.empty x4 (wrap64 (x12 + 1))) ++ (⟨#[32]⟩ : ByteArray)) ++ (rdOf ByteArray.empty x4 (wrap64 (x12 + 2)))) ++ (⟨#[32]⟩ : ByteArray)).size + (rdOf ByteArray.empty x4 (wrap64 (x12 + 3))).size ≤ 9223372036854775807 then (if (((((rdOf ByteArray.empty x4 (wrap64 (x12 + 1))) ++ (⟨#[32]⟩ : ByteArray)) ++ (rdOf ByteArray.empty x4 (wrap64 (x12 + 2)))) ++ (⟨#[32]⟩ : ByteArray)) ++ (rdOf ByteArray.empty x4 (wrap64 (x12 + 3)))).size + 1 ≤ 9223372036854775807 then (if 0 ≤ (wrap64 (x12 + 4)) then (if (wrap64 (x12 + 4)) < (x4.length : Int) then (if ((((((rdOf ByteArray.empty x4 (wrap64 (x12 + 1))) ++ (⟨#[32]⟩ : ByteArray)) ++ (rdOf ByteArray.empty x4 (wrap64 (x12 + 2)))) ++ (⟨#[32]⟩ : ByteArray)) ++ (rdOf ByteArray.empty x4 (wrap64 (x12 + 3)))) ++ (⟨#[32]⟩ : ByteArray)).size + (rdOf ByteArray.empty x4 (wrap64 (x12 + 4))).size ≤ 9223372036854775807 then ((hurdleref08_Parse.f k (((((((rdOf ByteArray.empty x4 (wrap64 (x12 + 1))) ++ (⟨#[32]⟩ : ByteArray)) ++ (rdOf ByteArray.empty x4 (wrap64 (x12 + 2)))) ++ (⟨#[32]⟩ : ByteArray)) ++ (rdOf ByteArray.empty x4 (wrap64 (x12 + 3)))) ++ (⟨#[32]⟩ : ByteArray)) ++ (rdOf ByteArray.empty x4 (wrap64 (x12 + 4))))).bind fun bt402 => (if bt402.2.2.2.2 = true then (if x389002.length < 4398046511104 then (hurdleref10_Read.l0 k x0 x4 (wrap64 (x12 + 5)) x389000 x389001 (x389002 ++ [(⟨bt402.1, bt402.2.1, bt402.2.2.1, bt402.2.2.2.1⟩ : S61)]) x389003) else (none)) else (some (0, 0, ([] : List (S61)), 0, false)))) else (none)) else (none)) else (none)) else (none)) else (none)) else (none)) else (none)) else (none)) else (none)) else (none)) else (none)) else (none)) else (none)) else (none)) else ((hurdleref10_Line.f k x389000 x389001 x389002 x389003).bind fun t411 => (if t411.toList = x0.toList then (some (x389000, x389001, x389002, x389003, true)) else (some (0, 0, ([] : List (S61)), 0, false))))
end
def hurdleref10_Read.f (k : Nat) (a0 : ByteArray) : Option (Int × Int × (List (S61)) × Int × Bool) := (hurdleref02_Cut.f k a0 32).bind fun t385 => (if (t385.length : Int) < 4 then (hurdleref10_Read.j0 k a0 t385 true) else (if (t385.length : Int) > 24 then (hurdleref10_Read.j0 k a0 t385 true) else (hurdleref10_Read.j0 k a0 t385 ((Int.tmod (wrap64 ((t385.length : Int) - 4)) 5) != 0))))
def hurdleref10_Read.T16 : Bool × List (List Nat × List Nat) := (true, [([], []), ([], []), ([1], [1]), ([0, 2], [0, 2]), ([3], [3]), ([4], [4]), ([], []), ([], []), ([7], [7]), ([6, 8], [6, 8]), ([9], [9]), ([5, 10], [5, 10]), ([11], [11]), ([], []), ([], []), ([14], [14]), ([13, 15], [13, 15]), ([16], [16]), ([12, 17], [12, 17]), ([18], [18]), ([], []), ([], []), ([21], [21]), ([20, 22], [20, 22]), ([23], [23]), ([19, 24], [19, 24]), ([25], [25]), ([26], [26]), ([27], [27]), ([27], [27]), ([], []), ([30, 28, 26, 0, 1, 2, 3, 4, 5, 6, 7, 8, 9, 10, 11, 12, 13, 14, 15, 16, 17, 18, 19, 20, 21, 22, 23, 24, 25, 26, 27, 28, 30], [28, 30]), ([29, 31, 0, 1, 2, 3, 4, 5, 6, 7, 8, 9, 10, 11, 12, 13, 14, 15, 16, 17, 18, 19, 20, 21, 22, 23, 24, 25, 26, 27, 28, 29, 30, 31], [29])])
def hurdleref10_Read.B16 : List Nat := [0, 0, 2, 7, 15, 31, 0, 0, 128, 448, 960, 2047, 4095, 0, 0, 16384, 57344, 122880, 262143, 524287, 0, 0, 2097152, 7340032, 15728640, 33554431, 67108863, 134217727, 268435455, 268435455, 0, 1610612735, 4294967295]
theorem hurdleref10_Read.tab16 : rtab .any (opsOf Try.f42 16) = hurdleref10_Read.T16 := by kernel_rfl
theorem hurdleref10_Read.bits16 : waitsOk hurdleref10_Read.T16.2 hurdleref10_Read.B16 = true := by kernel_rfl
end Go.Proofs.Ytekpbgmmogpbdaa.P
namespace Go.Proofs.Ytekpbgmmogpbdaa.P
open Go.RowKit Go.Proofs.Ytekpbgmmogpbdaa.H Go.Proofs.YtekpbgmmogpbdaaW.PrintWords Go.Proofs.YtekpbgmmogpbdaaW.PrintLast Go.Proofs.YtekpbgmmogpbdaaW.PrintMore
attribute [local go_sem] max2_int min2_int max_two min_two max_three min_three max_four min_four
set_option maxHeartbeats 8000000 in
set_option maxRecDepth 100000 in
theorem hurdleref10_Read.calls (k : Nat) (a0 : ByteArray) (r1 : Int) (r2 : Int) (r3 : List (S61)) (r4 : Int) (r5 : Bool) (w : World) (h : hurdleref10_Read.f k a0 = some (r1, r2, r3, r4, r5)) :
 Calls Try.prog 42 #[.string a0] w fun e w' => ∃ v2_ : Value, e = .returned (.tuple #[.agg #[.int .u32 r1, .int .u32 r2, v2_, .int .u32 r4], .bool r5]) ∧ Kd.R k61 61 w' w.heap.size (fun _ => True) v2_ r3 ∧ Below w.heap.size w w' := by
 have hu40 := Try.underlying40
 have hu61 := Try.underlying61
 have HB := aM (Below.refl w.heap.size w)
 have H : ((hurdleref02_Cut.f k a0 32).bind fun t385 => (if (t385.length : Int) < 4 then (hurdleref10_Read.j0 k a0 t385 true) else (if (t385.length : Int) > 24 then (hurdleref10_Read.j0 k a0 t385 true) else (hurdleref10_Read.j0 k a0 t385 ((Int.tmod (wrap64 ((t385.length : Int) - 4)) 5) != 0))))) = some (r1, r2, r3, r4, r5) := h
 clear h
 replace H := Option.bind_eq_some_iff.mp H
 obtain ⟨t385, A20, H⟩ := H
 replace H : (if (t385.length : Int) < 4 then (hurdleref10_Read.j0 k a0 t385 true) else (if (t385.length : Int) > 24 then (hurdleref10_Read.j0 k a0 t385 true) else (hurdleref10_Read.j0 k a0 t385 ((Int.tmod (wrap64 ((t385.length : Int) - 4)) 5) != 0)))) = some (r1, r2, r3, r4, r5) := H
 have A2 := aM A20
 clear A20
 have HC3 := aM H
 clear H
 go_enter Try.func42, Try.ntmps42
 go_upto_region 2 with (first | ((with_reducible refine gate_dst (N := 2) rfl ?_); (try (refine gate_guard (by rfl) ?_; dsimp only)); refine box_event ?hg (N := 2) ?hd (cs := #[.int .u32 0, .int .u32 0, .slice none 0 0, .int .u32 0]) (t := 40) ?hr ?_; (case hd => rfl); (case hg => rfl); (case hr => first | (go_simp; done) | (go_simp; rfl)); intro gb384 hg w4 hbox hb; have n0_ := aM (below_step bl0 hb); have n1_ := aM (hbox); have n2_ := aM ((by rw [hg]; exact (below_size bl0) : w.heap.size ≤ gb384)); have n3_ := aM ((by rw [hg]; exact (below_size bl0) : w.heap.size ≤ gb384)); clear HB; have HB := n0_; have BK384 := n1_; have GW384 := n2_; have GE384 := n3_; clear n0_ n1_ n2_ n3_; clear hb hbox hg) | ((with_reducible refine gate_callee (f := 41) rfl ?_); refine goesL_ (some 16) rfl rfl Try.func41 kR rfl #[.string a0, .int .u8 32] rfl mpA ?_; (with_reducible refine (hurdleref02_Cut.calls k a0 32 t385 _ A2.out).mono ?_); rintro e w5 ⟨v386, rfl, ho0, hb⟩; refine ⟨_, rfl, ?_⟩; have n0_ := aM (Kd.R_lower ho0 (below_size (bl1 GE384.out))); have n1_ := aM (blk_below (g := gb384) (o := .cells #[.int .u32 0, .int .u32 0, .slice none 0 0, .int .u32 0] 40 (0, 0)) (bkS BK384.out) hb); have n2_ := aM (below_step (bl1 GE384.out) hb); clear BK384; clear HB; have HO387 := n0_; have BK384 := n1_; have HB := n2_; clear n0_ n1_ n2_; (try clear hb); (try clear hb2); (try clear hk); (try clear hi); (try clear ho0)))
 (try simp only [Act.put, List.setIfInBounds_toArray, List.set_cons_zero, List.set_cons_succ])
 go_cut [31] (fun v31 wc => ∃ (kq : Nat) (x31_2 : Bool), v31 = .bool x31_2 ∧ Aside0 (hurdleref10_Read.j0 kq a0 t385 x31_2 = some (r1, r2, r3, r4, r5)) ∧ Aside0 (kq ≤ k) ∧ Aside0 (Kd.R Kd.string 9 wc w.heap.size (fun _ => True) v386 t385) ∧ Aside0 (wc.heap[gb384]? = some (.cells #[.int .u32 0, .int .u32 0, (.slice none 0 0), .int .u32 0] 40 (0, 0))) ∧ Aside0 (Below w.heap.size w wc))
 case first =>
  have H := HC3.out
  clear HC3
  by_cases c6 : (t385.length : Int) < 4
  · rw [if_pos c6] at H
    have c6b0 : decide ((t385.length : Int) < 4) = true := decide_eq_true c6
    have c6b1 : decide (t385.length < 4) = true := decide_eq_true (by omega)
    clear c6
    (first | rw [c6b0] | (simp only [i64_w, i32_w]; rw [c6b0]) | skip)
    have H' := aM H
    clear H
    obtain ⟨Ao7, co7, eo7⟩ := Kd.R_slice HO387.out
    subst eo7
    go_wp2
    go_meet
    case rel => exact ⟨_, (true), (by first | rfl | (simp; done) | (simp [*]; done)), H', ⟨by first | omega | exact Nat.le_refl _⟩, ⟨by refine rdS ?_; exact HO387.out⟩, ⟨by refine bkS ?_; exact BK384.out⟩, ⟨bl1 GE384.out⟩⟩
  rw [if_neg c6] at H
  have c6b0 : decide ((t385.length : Int) < 4) = false := decide_eq_false c6
  have c6b1 : decide (t385.length < 4) = false := decide_eq_false (by omega)
  clear c6
  (first | rw [c6b0] | (simp only [i64_w, i32_w]; rw [c6b0]) | skip)
  by_cases c8 : (t385.length : Int) > 24
  · rw [if_pos c8] at H
    have c8b0 : decide (24 < (t385.length : Int)) = true := decide_eq_true c8
    have c8b1 : decide (24 < t385.length) = true := decide_eq_true (by omega)
    clear c8
    have H' := aM H
    clear H
    obtain ⟨Ao9, co9, eo9⟩ := Kd.R_slice HO387.out
    subst eo9
    go_wp2
    go_meet
    case rel => exact ⟨_, (true), (by first | rfl | (simp; done) | (simp [*]; done)), H', ⟨by first | omega | exact Nat.le_refl _⟩, ⟨by refine rdS ?_; exact HO387.out⟩, ⟨by refine bkS ?_; exact BK384.out⟩, ⟨bl1 GE384.out⟩⟩
  rw [if_neg c8] at H
  have c8b0 : decide (24 < (t385.length : Int)) = false := decide_eq_false c8
  have c8b1 : decide (24 < t385.length) = false := decide_eq_false (by omega)
  clear c8
  have H' := aM H
  clear H
  obtain ⟨Ao10, co10, eo10⟩ := Kd.R_slice HO387.out
  subst eo10
  go_wp2
  go_meet
  case rel => exact ⟨_, (((Int.tmod (wrap64 ((t385.length : Int) - 4)) 5) != 0)), (by first | rfl | (simp; done) | (simp [*]; done)), H', ⟨by first | omega | exact Nat.le_refl _⟩, ⟨by refine rdS ?_; exact HO387.out⟩, ⟨by refine bkS ?_; exact BK384.out⟩, ⟨bl1 GE384.out⟩⟩
 case rest =>
  clear HC3
  try clear p2
  try clear c4
  try clear c6
  try clear c6b0
  try clear c6b1
  try clear p6
  try clear c8
  try clear c8b0
  try clear c8b1
  obtain ⟨kq, x31_2, rfl, HA, HJ2, HO_4, BK384, HB⟩ := hcut
  cases kq with
  | zero => exact absurd HA.out (by simp [hurdleref10_Read.j0])
  | succ kj2 =>
   have H := HA.out
   clear HA
   simp only [hurdleref10_Read.j0] at H
   by_cases c11 : x31_2 = true
   · subst c11
     have H1 : (some (0, 0, ([] : List (S61)), 0, false)) = some (r1, r2, r3, r4, r5) := by rw [if_pos rfl] at H; exact H
     clear H
     have H := H1
     clear H1
     simp only [Option.some.injEq, Prod.mk.injEq] at H
     obtain ⟨rfl, rfl, rfl, rfl, rfl⟩ := H
     have hcz12_0 : wc.cell? ⟨gb384, 0, none⟩ = some (.int .u32 0) := (blk_cell BK384.out 0).trans rfl
     have hcz12_1 : wc.cell? ⟨gb384, 1, none⟩ = some (.int .u32 0) := (blk_cell BK384.out 1).trans rfl
     have hcz12_2 : wc.cell? ⟨gb384, 2, none⟩ = some (.slice none 0 0) := (blk_cell BK384.out 2).trans rfl
     have hcz12_3 : wc.cell? ⟨gb384, 3, none⟩ = some (.int .u32 0) := (blk_cell BK384.out 3).trans rfl
     have hfz12_0 := blk_frozen BK384.out 0
     have hfz12_1 := blk_frozen BK384.out 1
     have hfz12_2 := blk_frozen BK384.out 2
     have hfz12_3 := blk_frozen BK384.out 3
     go_wp2_with (first | ((with_reducible refine bpI ?_); refine bodyPost_ret (results_ct rfl _ _ gb384 40 #[.int .u32 0, .int .u32 0, .slice none 0 0, .int .u32 0] (0, 0) _ rfl (by refine bkS ?_; refine blk_put (cs := #[.int .u32 0, .int .u32 0, .slice none 0 0, .int .u32 0]) ?_ 3 _ rfl; refine bkS ?_; refine blk_put (cs := #[.int .u32 0, .int .u32 0, .slice none 0 0, .int .u32 0]) ?_ 2 _ rfl; refine bkS ?_; refine blk_put (cs := #[.int .u32 0, .int .u32 0, .slice none 0 0, .int .u32 0]) ?_ 1 _ rfl; refine bkS ?_; refine blk_put (cs := #[.int .u32 0, .int .u32 0, .slice none 0 0, .int .u32 0]) ?_ 0 _ rfl; refine bkS ?_; exact BK384.out) Try.underlying40 rfl kR) rfl ?_; exact ⟨_, erA, by first | exact Kd.R_nil _ _ _ _ _ | exact Kd.N_nil _ _ _ _ _ | exact Kd.V_nil _ _ _ _ _ | exact Kd.Q_nil _ _ _ _ _ | exact Kd.S_nil _ _ _ _ _, bl1 GE384.out⟩) | go_in)
   replace c11 := Bool.eq_false_iff.mpr c11
   subst c11
   have H1 : (if 1 < (t385.length : Int) then ((hurdleref09_ReadMachine.f kj2 (rdOf ByteArray.empty t385 1)).bind fun bt390 => (if 2 < (t385.length : Int) then ((hurdleref09_ReadCall.f kj2 bt390.1 (rdOf ByteArray.empty t385 2)).bind fun bt393 => (if 3 < (t385.length : Int) then ((hurdleref09_ReadAction.f kj2 (rdOf ByteArray.empty t385 3)).bind fun bt396 => (if bt390.2 = true then (if bt393.2 = true then (hurdleref10_Read.j1 kj2 a0 t385 bt390.1 bt393.1 bt396.1 (!bt396.2)) else (hurdleref10_Read.j1 kj2 a0 t385 bt390.1 bt393.1 bt396.1 true)) else (hurdleref10_Read.j1 kj2 a0 t385 bt390.1 bt393.1 bt396.1 true))) else (none))) else (none))) else (none)) = some (r1, r2, r3, r4, r5) := by rw [if_neg (show ¬ (false = true) by decide)] at H; exact H
   clear H
   have H := H1
   clear H1
   by_cases c13 : 1 < (t385.length : Int)
   rotate_left
   · rw [if_neg c13] at H
     exact absurd H (by simp)
   rw [if_pos c13] at H
   have c13b0 : decide (1 < (t385.length : Int)) = true := decide_eq_true c13
   have c13b1 : decide (1 < t385.length) = true := decide_eq_true (by omega)
   clear c13
   replace H := Option.bind_eq_some_iff.mp H
   obtain ⟨⟨t390, t391⟩, A140, H⟩ := H
   replace H : (if 2 < (t385.length : Int) then ((hurdleref09_ReadCall.f kj2 t390 (rdOf ByteArray.empty t385 2)).bind fun bt393 => (if 3 < (t385.length : Int) then ((hurdleref09_ReadAction.f kj2 (rdOf ByteArray.empty t385 3)).bind fun bt396 => (if t391 = true then (if bt393.2 = true then (hurdleref10_Read.j1 kj2 a0 t385 t390 bt393.1 bt396.1 (!bt396.2)) else (hurdleref10_Read.j1 kj2 a0 t385 t390 bt393.1 bt396.1 true)) else (hurdleref10_Read.j1 kj2 a0 t385 t390 bt393.1 bt396.1 true))) else (none))) else (none)) = some (r1, r2, r3, r4, r5) := H
   have A14 := aM A140
   clear A140
   by_cases c15 : 2 < (t385.length : Int)
   rotate_left
   · rw [if_neg c15] at H
     exact absurd H (by simp)
   rw [if_pos c15] at H
   have c15b0 : decide (2 < (t385.length : Int)) = true := decide_eq_true c15
   have c15b1 : decide (2 < t385.length) = true := decide_eq_true (by omega)
   clear c15
   replace H := Option.bind_eq_some_iff.mp H
   obtain ⟨⟨t393, t394⟩, A160, H⟩ := H
   replace H : (if 3 < (t385.length : Int) then ((hurdleref09_ReadAction.f kj2 (rdOf ByteArray.empty t385 3)).bind fun bt396 => (if t391 = true then (if t394 = true then (hurdleref10_Read.j1 kj2 a0 t385 t390 t393 bt396.1 (!bt396.2)) else (hurdleref10_Read.j1 kj2 a0 t385 t390 t393 bt396.1 true)) else (hurdleref10_Read.j1 kj2 a0 t385 t390 t393 bt396.1 true))) else (none)) = some (r1, r2, r3, r4, r5) := H
   have A16 := aM A160
   clear A160
   by_cases c17 : 3 < (t385.length : Int)
   rotate_left
   · rw [if_neg c17] at H
     exact absurd H (by simp)
   rw [if_pos c17] at H
   have c17b0 : decide (3 < (t385.length : Int)) = true := decide_eq_true c17
   have c17b1 : decide (3 < t385.length) = true := decide_eq_true (by omega)
   clear c17
   replace H := Option.bind_eq_some_iff.mp H
   obtain ⟨⟨t396, t397⟩, A180, H⟩ := H
   replace H : (if t391 = true then (if t394 = true then (hurdleref10_Read.j1 kj2 a0 t385 t390 t393 t396 (!t397)) else (hurdleref10_Read.j1 kj2 a0 t385 t390 t393 t396 true)) else (hurdleref10_Read.j1 kj2 a0 t385 t390 t393 t396 true)) = some (r1, r2, r3, r4, r5) := H
   have A18 := aM A180
   clear A180
   have HC19 := aM H
   clear H
   go_upto_region 8 with (first | ((with_reducible refine gate_dst (N := 5) rfl ?_); (try (refine gate_guard (by rfl) ?_; dsimp only)); refine box_event ?hg (N := 5) ?hd (cs := #[.int .u32 0, .int .u32 0, .slice none 0 0, .int .u32 0]) (t := 40) ?hr ?_; (case hd => rfl); (case hg => rfl); (case hr => first | (go_simp; done) | (go_simp; rfl)); intro gb388 hg w20 hbox hb; have n0_ := aM (Kd.R_below (rdS HO_4.out) hb); have n1_ := aM (blk_below (g := gb384) (o := .cells #[.int .u32 0, .int .u32 0, .slice none 0 0, .int .u32 0] 40 (0, 0)) (bkS BK384.out) hb); have n2_ := aM (below_step (bl1 GE384.out) hb); have n3_ := aM (hbox); have n4_ := aM ((by rw [hg]; exact (below_size (bl1 GE384.out)) : w.heap.size ≤ gb388)); have n5_ := aM ((by rw [hg]; exact (below_size (bl1 GE384.out)) : w.heap.size ≤ gb388)); have n6_ := aM ((by rw [hg]; exact Nat.ne_of_lt (blk_lt (g := gb384) (o := .cells #[.int .u32 0, .int .u32 0, .slice none 0 0, .int .u32 0] 40 (0, 0)) (bkS BK384.out)) : gb384 ≠ gb388)); have n7_ := aM ((by rw [hg]; exact Nat.ne_of_gt (blk_lt (g := gb384) (o := .cells #[.int .u32 0, .int .u32 0, .slice none 0 0, .int .u32 0] 40 (0, 0)) (bkS BK384.out)) : gb388 ≠ gb384)); clear HO_4; clear BK384; clear HB; have HO_4 := n0_; have BK384 := n1_; have HB := n2_; have BK388 := n3_; have GW388 := n4_; have GE388 := n5_; have NB384_388 := n6_; have NB388_384 := n7_; clear n0_ n1_ n2_ n3_ n4_ n5_ n6_ n7_; clear hb hbox hg; obtain ⟨Ao21, co21, eo21⟩ := Kd.R_slice HO_4.out; subst eo21; have p389 : 0 ≤ (1 : Int) := (by omega); have q389 : 1 < (t385.length : Int) := of_decide_eq_true as_; obtain ⟨ad389, e389, hx389_0⟩ := Kd.at_string (Kd.R_reads' HO_4.out).2.2 1 p389 q389; cases e389; (try simp only [show (1 : Int).toNat = 1 from rfl, Nat.reduceMul, Nat.reduceEqDiff, Go.Addr.add, ↓reduceIte] at hx389_0); have qi389 : (1 < t385.length) = True := eq_true (by omega); (try rw [show ((1 : Int)).toNat = 1 from rfl] at hx389_0); replace p389 := eq_true p389; replace q389 := eq_true q389) | ((with_reducible refine gate_callee (f := 63) rfl ?_); refine goesL_ (some 37) rfl rfl Try.func63 kR rfl #[.string (rdOf ByteArray.empty t385 1)] rfl mpA ?_; (with_reducible refine (hurdleref09_ReadMachine.calls kj2 (rdOf ByteArray.empty t385 1) t390 t391 _ A14.out).mono ?_); rintro e w22 ⟨rfl, hb⟩; refine ⟨_, rfl, ?_⟩; have n0_ := aM (Kd.R_below (rdS HO_4.out) hb); have n1_ := aM (blk_below (g := gb384) (o := .cells #[.int .u32 0, .int .u32 0, .slice none 0 0, .int .u32 0] 40 (0, 0)) (bkS BK384.out) hb); have n2_ := aM (blk_below (g := gb388) (o := .cells #[.int .u32 0, .int .u32 0, .slice none 0 0, .int .u32 0] 40 (0, 0)) (bkS BK388.out) hb); have n3_ := aM (below_step (bl2 GE384.out GE388.out) hb); clear HO_4; clear BK384; clear BK388; clear HB; have HO_4 := n0_; have BK384 := n1_; have BK388 := n2_; have HB := n3_; clear n0_ n1_ n2_ n3_; (try clear hb); (try clear hb2); (try clear hk); (try clear hi); have p392 : 0 ≤ (2 : Int) := (by omega); have q392 : 2 < (t385.length : Int) := of_decide_eq_true as_; obtain ⟨ad392, e392, hx392_0⟩ := Kd.at_string (Kd.R_reads' HO_4.out).2.2 2 p392 q392; obtain rfl : ad389 = ad392 := (by injection e392); (try simp only [show (2 : Int).toNat = 2 from rfl, Nat.reduceMul, Nat.reduceEqDiff, Go.Addr.add, ↓reduceIte] at hx392_0); have qi392 : (2 < t385.length) = True := eq_true (by omega); (try rw [show ((2 : Int)).toNat = 2 from rfl] at hx392_0); replace p392 := eq_true p392; replace q392 := eq_true q392) | ((with_reducible refine gate_callee (f := 64) rfl ?_); refine goesL_ (some 45) rfl rfl Try.func64 kR rfl #[.int .u32 t390, .string (rdOf ByteArray.empty t385 2)] rfl mpA ?_; (with_reducible refine (hurdleref09_ReadCall.calls kj2 t390 (rdOf ByteArray.empty t385 2) t393 t394 _ A16.out).mono ?_); rintro e w23 ⟨rfl, hb⟩; refine ⟨_, rfl, ?_⟩; have n0_ := aM (Kd.R_below (rdS HO_4.out) hb); have n1_ := aM (blk_below (g := gb384) (o := .cells #[.int .u32 0, .int .u32 0, .slice none 0 0, .int .u32 0] 40 (0, 0)) (bkS BK384.out) hb); have n2_ := aM (blk_below (g := gb388) (o := .cells #[.int .u32 0, .int .u32 0, .slice none 0 0, .int .u32 0] 40 (0, 0)) (bkS BK388.out) hb); have n3_ := aM (below_step (bl2 GE384.out GE388.out) hb); clear HO_4; clear BK384; clear BK388; clear HB; have HO_4 := n0_; have BK384 := n1_; have BK388 := n2_; have HB := n3_; clear n0_ n1_ n2_ n3_; (try clear hb); (try clear hb2); (try clear hk); (try clear hi); have p395 : 0 ≤ (3 : Int) := (by omega); have q395 : 3 < (t385.length : Int) := of_decide_eq_true as_; obtain ⟨ad395, e395, hx395_0⟩ := Kd.at_string (Kd.R_reads' HO_4.out).2.2 3 p395 q395; obtain rfl : ad389 = ad395 := (by injection e395); (try simp only [show (3 : Int).toNat = 3 from rfl, Nat.reduceMul, Nat.reduceEqDiff, Go.Addr.add, ↓reduceIte] at hx395_0); have qi395 : (3 < t385.length) = True := eq_true (by omega); (try rw [show ((3 : Int)).toNat = 3 from rfl] at hx395_0); replace p395 := eq_true p395; replace q395 := eq_true q395) | ((with_reducible refine gate_callee (f := 43) rfl ?_); refine goesL_ (some 52) rfl rfl Try.func43 kR rfl #[.string (rdOf ByteArray.empty t385 3)] rfl mpA ?_; (with_reducible refine (hurdleref09_ReadAction.calls kj2 (rdOf ByteArray.empty t385 3) t396 t397 _ A18.out).mono ?_); rintro e w24 ⟨rfl, hb⟩; refine ⟨_, rfl, ?_⟩; have n0_ := aM (Kd.R_below (rdS HO_4.out) hb); have n1_ := aM (blk_below (g := gb384) (o := .cells #[.int .u32 0, .int .u32 0, .slice none 0 0, .int .u32 0] 40 (0, 0)) (bkS BK384.out) hb); have n2_ := aM (blk_below (g := gb388) (o := .cells #[.int .u32 0, .int .u32 0, .slice none 0 0, .int .u32 0] 40 (0, 0)) (bkS BK388.out) hb); have n3_ := aM (below_step (bl2 GE384.out GE388.out) hb); clear HO_4; clear BK384; clear BK388; clear HB; have HO_4 := n0_; have BK384 := n1_; have BK388 := n2_; have HB := n3_; clear n0_ n1_ n2_ n3_; (try clear hb); (try clear hb2); (try clear hk); (try clear hi)))
   (try simp only [Act.put, List.setIfInBounds_toArray, List.set_cons_zero, List.set_cons_succ])
   go_cut [64] (fun v64 wc => ∃ (kq : Nat) (x64_18 : Bool), v64 = .bool x64_18 ∧ Aside0 (hurdleref10_Read.j1 kq a0 t385 t390 t393 t396 x64_18 = some (r1, r2, r3, r4, r5)) ∧ Aside0 (kq ≤ kj2) ∧ Aside0 (Kd.R Kd.string 9 wc w.heap.size (fun _ => True) (.slice (some ad389) t385.length co21) t385) ∧ Aside0 (wc.heap[gb384]? = some (.cells #[.int .u32 0, .int .u32 0, (.slice none 0 0), .int .u32 0] 40 (0, 0))) ∧ Aside0 (wc.heap[gb388]? = some (.cells #[.int .u32 0, .int .u32 0, (.slice none 0 0), .int .u32 0] 40 (0, 0))) ∧ Aside0 (Below w.heap.size w wc))
   case first =>
    have H := HC19.out
    clear HC19
    by_cases c25 : t391 = true
    rotate_left
    · replace c25 := Bool.eq_false_iff.mpr c25
      subst c25
      have H1 : (hurdleref10_Read.j1 kj2 a0 t385 t390 t393 t396 true) = some (r1, r2, r3, r4, r5) := by rw [if_neg (show ¬ (false = true) by decide)] at H; exact H
      clear H
      have H := H1
      clear H1
      have H' := aM H
      clear H
      go_wp2
      go_meet
      case rel => exact ⟨_, (true), (by first | rfl | (simp; done) | (simp [*]; done)), H', ⟨by have := HJ2.out; first | omega | exact Nat.le_refl _⟩, ⟨by refine rdS ?_; exact HO_4.out⟩, ⟨by refine bkS ?_; exact BK384.out⟩, ⟨by refine bkS ?_; exact BK388.out⟩, ⟨bl2 GE384.out GE388.out⟩⟩
    subst c25
    have H1 : (if t394 = true then (hurdleref10_Read.j1 kj2 a0 t385 t390 t393 t396 (!t397)) else (hurdleref10_Read.j1 kj2 a0 t385 t390 t393 t396 true)) = some (r1, r2, r3, r4, r5) := by rw [if_pos rfl] at H; exact H
    clear H
    have H := H1
    clear H1
    by_cases c26 : t394 = true
    · subst c26
      have H1 : (hurdleref10_Read.j1 kj2 a0 t385 t390 t393 t396 (!t397)) = some (r1, r2, r3, r4, r5) := by rw [if_pos rfl] at H; exact H
      clear H
      have H := H1
      clear H1
      have H' := aM H
      clear H
      go_wp2
      go_meet
      case rel => exact ⟨_, (!t397), (by first | rfl | (simp; done) | (simp [*]; done)), H', ⟨by have := HJ2.out; first | omega | exact Nat.le_refl _⟩, ⟨by refine rdS ?_; exact HO_4.out⟩, ⟨by refine bkS ?_; exact BK384.out⟩, ⟨by refine bkS ?_; exact BK388.out⟩, ⟨bl2 GE384.out GE388.out⟩⟩
    replace c26 := Bool.eq_false_iff.mpr c26
    subst c26
    have H1 : (hurdleref10_Read.j1 kj2 a0 t385 t390 t393 t396 true) = some (r1, r2, r3, r4, r5) := by rw [if_neg (show ¬ (false = true) by decide)] at H; exact H
    clear H
    have H := H1
    clear H1
    have H' := aM H
    clear H
    go_wp2
    go_meet
    case rel => exact ⟨_, (true), (by first | rfl | (simp; done) | (simp [*]; done)), H', ⟨by have := HJ2.out; first | omega | exact Nat.le_refl _⟩, ⟨by refine rdS ?_; exact HO_4.out⟩, ⟨by refine bkS ?_; exact BK384.out⟩, ⟨by refine bkS ?_; exact BK388.out⟩, ⟨bl2 GE384.out GE388.out⟩⟩
   case rest =>
    clear HC19
    try clear c1
    try clear c2
    try clear p2
    try clear p3
    try clear q3
    try clear hx3
    try clear qi3
    try clear c4
    try clear c6
    try clear c6b0
    try clear c6b1
    try clear p6
    try clear c8
    try clear c8b0
    try clear c8b1
    try clear c11
    try clear c13
    try clear c13b0
    try clear c13b1
    try clear c15
    try clear c15b0
    try clear c15b1
    try clear c17
    try clear c17b0
    try clear c17b1
    try clear c25
    try clear c26
    try clear hcz12_0
    try clear hcz12_1
    try clear hcz12_2
    try clear hcz12_3
    try clear hfz12_0
    try clear hfz12_1
    try clear hfz12_2
    try clear hfz12_3
    try clear hx389_0
    try clear hx392_0
    try clear hx395_0
    try clear p2
    try clear p389
    try clear p392
    try clear p395
    try clear p6
    try clear q389
    try clear q392
    try clear q395
    obtain ⟨kq, x64_18, rfl, HA, HJ18, HO_4, BK384, BK388, HB⟩ := hcut
    cases kq with
    | zero => exact absurd HA.out (by simp [hurdleref10_Read.j1])
    | succ kj18 =>
     have H := HA.out
     clear HA
     simp only [hurdleref10_Read.j1] at H
     by_cases c27 : x64_18 = true
     · subst c27
       have H1 : (some (0, 0, ([] : List (S61)), 0, false)) = some (r1, r2, r3, r4, r5) := by rw [if_pos rfl] at H; exact H
       clear H
       have H := H1
       clear H1
       simp only [Option.some.injEq, Prod.mk.injEq] at H
       obtain ⟨rfl, rfl, rfl, rfl, rfl⟩ := H
       have hnb28 := NB384_388.out
       have hnc28 := NB388_384.out
       have hcz29_0 : wc.cell? ⟨gb384, 0, none⟩ = some (.int .u32 0) := (blk_cell BK384.out 0).trans rfl
       have hcz29_1 : wc.cell? ⟨gb384, 1, none⟩ = some (.int .u32 0) := (blk_cell BK384.out 1).trans rfl
       have hcz29_2 : wc.cell? ⟨gb384, 2, none⟩ = some (.slice none 0 0) := (blk_cell BK384.out 2).trans rfl
       have hcz29_3 : wc.cell? ⟨gb384, 3, none⟩ = some (.int .u32 0) := (blk_cell BK384.out 3).trans rfl
       have hfz29_0 := blk_frozen BK384.out 0
       have hfz29_1 := blk_frozen BK384.out 1
       have hfz29_2 := blk_frozen BK384.out 2
       have hfz29_3 := blk_frozen BK384.out 3
       go_wp2_with (first | ((with_reducible refine bpI ?_); refine bodyPost_ret (results_ct rfl _ _ gb384 40 #[.int .u32 0, .int .u32 0, .slice none 0 0, .int .u32 0] (0, 0) _ rfl (by refine bkS ?_; refine blk_put (cs := #[.int .u32 0, .int .u32 0, .slice none 0 0, .int .u32 0]) ?_ 3 _ rfl; refine bkS ?_; refine blk_put (cs := #[.int .u32 0, .int .u32 0, .slice none 0 0, .int .u32 0]) ?_ 2 _ rfl; refine bkS ?_; refine blk_put (cs := #[.int .u32 0, .int .u32 0, .slice none 0 0, .int .u32 0]) ?_ 1 _ rfl; refine bkS ?_; refine blk_put (cs := #[.int .u32 0, .int .u32 0, .slice none 0 0, .int .u32 0]) ?_ 0 _ rfl; refine bkS ?_; exact BK384.out) Try.underlying40 rfl kR) rfl ?_; exact ⟨_, erA, by first | exact Kd.R_nil _ _ _ _ _ | exact Kd.N_nil _ _ _ _ _ | exact Kd.V_nil _ _ _ _ _ | exact Kd.Q_nil _ _ _ _ _ | exact Kd.S_nil _ _ _ _ _, bl2 GE384.out GE388.out⟩) | go_in)
     replace c27 := Bool.eq_false_iff.mpr c27
     subst c27
     have H1 : (hurdleref10_Read.l0 kj18 a0 t385 4 t390 t393 ([] : List (S61)) t396) = some (r1, r2, r3, r4, r5) := by rw [if_neg (show ¬ (false = true) by decide)] at H; exact H
     clear H
     have H := H1
     clear H1
     have H' := aM H
     clear H
     have hnb30 := NB388_384.out
     have hnc30 := NB384_388.out
     have hcz31_0 : wc.cell? ⟨gb388, 0, none⟩ = some (.int .u32 0) := (blk_cell BK388.out 0).trans rfl
     have hcz31_1 : wc.cell? ⟨gb388, 1, none⟩ = some (.int .u32 0) := (blk_cell BK388.out 1).trans rfl
     have hcz31_2 : wc.cell? ⟨gb388, 2, none⟩ = some (.slice none 0 0) := (blk_cell BK388.out 2).trans rfl
     have hcz31_3 : wc.cell? ⟨gb388, 3, none⟩ = some (.int .u32 0) := (blk_cell BK388.out 3).trans rfl
     have hfz31_0 := blk_frozen BK388.out 0
     have hfz31_1 := blk_frozen BK388.out 1
     have hfz31_2 := blk_frozen BK388.out 2
     have hfz31_3 := blk_frozen BK388.out 3
     go_wp2
     go_loopg [12] kj18 (fun kq v12 w' => ∃ (x12_3 : Int) (x385000_3 : Int) (x385001_3 : Int) (x385003_3 : Int) (x389002_3 : List (S61)) (u389002 : Value), v12 = .int .i64 x12_3 ∧ Aside0 (hurdleref10_Read.l0 kq a0 t385 x12_3 t390 t393 x389002_3 t396 = some (r1, r2, r3, r4, r5)) ∧ Aside0 (kq ≤ kj18) ∧ Aside0 (Kd.R Kd.string 9 w' w.heap.size (fun _ => True) (.slice (some ad389) t385.length co21) t385) ∧ Aside0 (Kd.R k61 61 w' w.heap.size (fun _ => True) u389002 x389002_3) ∧ Aside0 (w'.heap[gb384]? = some (.cells #[.int .u32 x385000_3, .int .u32 x385001_3, (.slice none 0 0), .int .u32 x385003_3] 40 (0, 0))) ∧ Aside0 (w'.heap[gb388]? = some (.cells #[.int .u32 t390, .int .u32 t393, u389002, .int .u32 t396] 40 (0, 0))) ∧ Aside0 (Below w.heap.size w w'))
     case atStart => exact ⟨(4), (0), (0), (0), (([] : List (S61))), (.slice none 0 0), (by first | rfl | (simp; done) | (simp [*]; done)), H', ⟨Nat.le_refl _⟩, ⟨by refine rdS ?_; exact Kd.R_mono (Kd.R_far (p := ⟨gb388, 3, none⟩) (Kd.R_far (p := ⟨gb388, 1, none⟩) (Kd.R_far (p := ⟨gb388, 0, none⟩) (Kd.R_types HO_4.out BK388.out (by decide)) (fun _ hk => hk.2) (.int .u32 t390)) (fun _ hk => hk.2) (.int .u32 t393)) (fun _ hk => hk.2) (.int .u32 t396)) (fun _ hk => trivial)⟩, ⟨by first | exact Kd.R_nil _ _ _ _ _ | exact Kd.N_nil _ _ _ _ _ | exact Kd.V_nil _ _ _ _ _ | exact Kd.Q_nil _ _ _ _ _ | exact Kd.S_nil _ _ _ _ _⟩, ⟨by refine bkS ?_; refine blk_far ?_ NB384_388.out _; refine bkS ?_; refine blk_far ?_ NB384_388.out _; refine bkS ?_; refine blk_far ?_ NB384_388.out _; refine bkS ?_; exact BK384.out⟩, ⟨by refine bkS ?_; refine blk_put (cs := #[.int .u32 t390, .int .u32 t393, .slice none 0 0, .int .u32 0]) ?_ 3 _ rfl; refine bkS ?_; refine blk_put (cs := #[.int .u32 t390, .int .u32 0, .slice none 0 0, .int .u32 0]) ?_ 1 _ rfl; refine bkS ?_; refine blk_put (cs := #[.int .u32 0, .int .u32 0, .slice none 0 0, .int .u32 0]) ?_ 0 _ rfl; refine bkS ?_; exact BK388.out⟩, ⟨bl2 GE384.out GE388.out⟩⟩
     case round =>
      clear H'
      try clear c1
      try clear c2
      try clear p2
      try clear c3
      try clear p3
      try clear q3
      try clear hx3
      try clear qi3
      try clear c4
      try clear c6
      try clear c6b0
      try clear c6b1
      try clear p6
      try clear c8
      try clear c8b0
      try clear c8b1
      try clear c11
      try clear c13
      try clear c13b0
      try clear c13b1
      try clear c15
      try clear c15b0
      try clear c15b1
      try clear c17
      try clear c17b0
      try clear c17b1
      try clear c25
      try clear c26
      try clear c27
      try clear c28
      try clear c30
      try clear hcz12_0
      try clear hcz12_1
      try clear hcz12_2
      try clear hcz12_3
      try clear hcz29_0
      try clear hcz29_1
      try clear hcz29_2
      try clear hcz29_3
      try clear hcz31_0
      try clear hcz31_1
      try clear hcz31_2
      try clear hcz31_3
      try clear hfz12_0
      try clear hfz12_1
      try clear hfz12_2
      try clear hfz12_3
      try clear hfz29_0
      try clear hfz29_1
      try clear hfz29_2
      try clear hfz29_3
      try clear hfz31_0
      try clear hfz31_1
      try clear hfz31_2
      try clear hfz31_3
      try clear hx389_0
      try clear hx392_0
      try clear hx395_0
      try clear p2
      try clear p3
      try clear p389
      try clear p392
      try clear p395
      try clear p6
      try clear q3
      try clear q389
      try clear q392
      try clear q395
      obtain ⟨x12_3, x385000_3, x385001_3, x385003_3, x389002_3, u389002, rfl, HA, HK3, HO_4, HO_389002, BK384, BK388, HB⟩ := hrel
      cases gk with
      | zero => exact absurd HA.out (by simp [hurdleref10_Read.l0])
      | succ k3 =>
       have H := HA.out
       clear HA
       simp only [hurdleref10_Read.l0] at H
       by_cases c32 : x12_3 < (t385.length : Int)
       rotate_left
       · rw [if_neg c32] at H
         have c32b0 : decide (x12_3 < (t385.length : Int)) = false := decide_eq_false c32
         clear c32
         replace H := Option.bind_eq_some_iff.mp H
         obtain ⟨t411, A810, H⟩ := H
         replace H : (if t411.toList = a0.toList then (some (t390, t393, x389002_3, t396, true)) else (some (0, 0, ([] : List (S61)), 0, false))) = some (r1, r2, r3, r4, r5) := H
         have A81 := aM A810
         clear A810
         by_cases c82 : t411.toList = a0.toList
         rotate_left
         · rw [if_neg c82] at H
           have c82b0 : (t411.toList == a0.toList) = false := beq_eq_false_iff_ne.mpr c82
           have c82b1 : (t411.toList != a0.toList) = true := bne_iff_ne.mpr c82
           simp only [Option.some.injEq, Prod.mk.injEq] at H
           obtain ⟨rfl, rfl, rfl, rfl, rfl⟩ := H
           have hnb89 := NB388_384.out
           have hnc89 := NB384_388.out
           have hcz90_0 : wr.cell? ⟨gb388, 0, none⟩ = some (.int .u32 t390) := (blk_cell BK388.out 0).trans rfl
           have hcz90_1 : wr.cell? ⟨gb388, 1, none⟩ = some (.int .u32 t393) := (blk_cell BK388.out 1).trans rfl
           have hcz90_2 : wr.cell? ⟨gb388, 2, none⟩ = some (u389002) := (blk_cell BK388.out 2).trans rfl
           have hcz90_3 : wr.cell? ⟨gb388, 3, none⟩ = some (.int .u32 t396) := (blk_cell BK388.out 3).trans rfl
           have hfz90_0 := blk_frozen BK388.out 0
           have hfz90_1 := blk_frozen BK388.out 1
           have hfz90_2 := blk_frozen BK388.out 2
           have hfz90_3 := blk_frozen BK388.out 3
           obtain ⟨Ao91, co91, eo91⟩ := Kd.R_slice HO_389002.out
           subst eo91
           go_wp2_with (first | ((with_reducible refine bpI ?_); refine bodyPost_ret (results_ct rfl _ _ gb384 40 #[.int .u32 0, .int .u32 0, .slice none 0 0, .int .u32 0] (0, 0) _ rfl (by refine bkS ?_; refine blk_put (cs := #[.int .u32 0, .int .u32 0, .slice none 0 0, .int .u32 x385003_3]) ?_ 3 _ rfl; refine bkS ?_; refine blk_put (cs := #[.int .u32 0, .int .u32 0, .slice none 0 0, .int .u32 x385003_3]) ?_ 2 _ rfl; refine bkS ?_; refine blk_put (cs := #[.int .u32 0, .int .u32 x385001_3, .slice none 0 0, .int .u32 x385003_3]) ?_ 1 _ rfl; refine bkS ?_; refine blk_put (cs := #[.int .u32 x385000_3, .int .u32 x385001_3, .slice none 0 0, .int .u32 x385003_3]) ?_ 0 _ rfl; refine bkS ?_; exact BK384.out) Try.underlying40 rfl kR) rfl ?_; exact ⟨_, erA, by first | exact Kd.R_nil _ _ _ _ _ | exact Kd.N_nil _ _ _ _ _ | exact Kd.V_nil _ _ _ _ _ | exact Kd.Q_nil _ _ _ _ _ | exact Kd.S_nil _ _ _ _ _, bl2 GE384.out GE388.out⟩) | ((with_reducible refine gate_callee (f := 36) rfl ?_); refine goesL_ (some 118) rfl rfl Try.func36 kR rfl #[.agg #[.int .u32 t390, .int .u32 t393, .slice Ao91 x389002_3.length co91, .int .u32 t396]] rfl mpA ?_; (with_reducible refine (hurdleref10_Line.calls k3 t390 t393 _ _ x389002_3 t396 t411 _ ?side1 ?side2 A81.out).mono ?_); (case side1 => repeat (first | exact (Kd.R_reads' HO_389002.out).2.2 | (with_reducible refine Kd.C_alloc ?_ _) | (with_reducible refine Kd.C_drewN ?_ _) | (with_reducible refine Kd.C_drew ?_))); (case side2 => exact (Kd.R_reads' HO_389002.out).2.1); rintro e w92 ⟨rfl, hb⟩; refine ⟨_, rfl, ?_⟩; have n0_ := aM (Kd.R_below (rdS HO_4.out) hb); have n1_ := aM (Kd.R_below (rdS HO_389002.out) hb); have n2_ := aM (blk_below (g := gb384) (o := .cells #[.int .u32 x385000_3, .int .u32 x385001_3, .slice none 0 0, .int .u32 x385003_3] 40 (0, 0)) (bkS BK384.out) hb); have n3_ := aM (blk_below (g := gb388) (o := .cells #[.int .u32 t390, .int .u32 t393, .slice Ao91 x389002_3.length co91, .int .u32 t396] 40 (0, 0)) (bkS BK388.out) hb); have n4_ := aM (below_step (bl2 GE384.out GE388.out) hb); clear HO_4; clear HO_389002; clear BK384; clear BK388; clear HB; have HO_4 := n0_; have HO_389002 := n1_; have BK384 := n2_; have BK388 := n3_; have HB := n4_; clear n0_ n1_ n2_ n3_ n4_; (try clear hb); (try clear hb2); (try clear hk); (try clear hi); have hcz93_0 : w92.cell? ⟨gb384, 0, none⟩ = some (.int .u32 x385000_3) := (blk_cell BK384.out 0).trans rfl; have hcz93_1 : w92.cell? ⟨gb384, 1, none⟩ = some (.int .u32 x385001_3) := (blk_cell BK384.out 1).trans rfl; have hcz93_2 : w92.cell? ⟨gb384, 2, none⟩ = some (.slice none 0 0) := (blk_cell BK384.out 2).trans rfl; have hcz93_3 : w92.cell? ⟨gb384, 3, none⟩ = some (.int .u32 x385003_3) := (blk_cell BK384.out 3).trans rfl; have hfz93_0 := blk_frozen BK384.out 0; have hfz93_1 := blk_frozen BK384.out 1; have hfz93_2 := blk_frozen BK384.out 2; have hfz93_3 := blk_frozen BK384.out 3))
         rw [if_pos c82] at H
         have c82b0 : (t411.toList == a0.toList) = true := beq_iff_eq.mpr c82
         have c82b1 : (t411.toList != a0.toList) = false := bne_eq_false_iff_eq.mpr c82
         clear c82
         simp only [Option.some.injEq, Prod.mk.injEq] at H
         obtain ⟨rfl, rfl, rfl, rfl, rfl⟩ := H
         have hnb83 := NB388_384.out
         have hnc83 := NB384_388.out
         have hcz84_0 : wr.cell? ⟨gb388, 0, none⟩ = some (.int .u32 t390) := (blk_cell BK388.out 0).trans rfl
         have hcz84_1 : wr.cell? ⟨gb388, 1, none⟩ = some (.int .u32 t393) := (blk_cell BK388.out 1).trans rfl
         have hcz84_2 : wr.cell? ⟨gb388, 2, none⟩ = some (u389002) := (blk_cell BK388.out 2).trans rfl
         have hcz84_3 : wr.cell? ⟨gb388, 3, none⟩ = some (.int .u32 t396) := (blk_cell BK388.out 3).trans rfl
         have hfz84_0 := blk_frozen BK388.out 0
         have hfz84_1 := blk_frozen BK388.out 1
         have hfz84_2 := blk_frozen BK388.out 2
         have hfz84_3 := blk_frozen BK388.out 3
         obtain ⟨Ao85, co85, eo85⟩ := Kd.R_slice HO_389002.out
         subst eo85
         go_wp2_with (first | ((with_reducible refine bpI ?_); refine bodyPost_ret (results_ct rfl _ _ gb384 40 #[.int .u32 t390, .int .u32 t393, .slice Ao85 x389002_3.length co85, .int .u32 t396] (0, 0) _ rfl (by refine bkS ?_; refine blk_put (cs := #[.int .u32 t390, .int .u32 t393, .slice Ao85 x389002_3.length co85, .int .u32 x385003_3]) ?_ 3 _ rfl; refine bkS ?_; refine blk_put (cs := #[.int .u32 t390, .int .u32 t393, .slice none 0 0, .int .u32 x385003_3]) ?_ 2 _ rfl; refine bkS ?_; refine blk_put (cs := #[.int .u32 t390, .int .u32 x385001_3, .slice none 0 0, .int .u32 x385003_3]) ?_ 1 _ rfl; refine bkS ?_; refine blk_put (cs := #[.int .u32 x385000_3, .int .u32 x385001_3, .slice none 0 0, .int .u32 x385003_3]) ?_ 0 _ rfl; refine bkS ?_; exact BK384.out) Try.underlying40 rfl kR) rfl ?_; exact ⟨_, erA, by refine rdS ?_; exact Kd.R_mono (Kd.R_far (p := ⟨gb384, 3, none⟩) (Kd.R_far (p := ⟨gb384, 2, none⟩) (Kd.R_far (p := ⟨gb384, 1, none⟩) (Kd.R_far (p := ⟨gb384, 0, none⟩) (Kd.R_types HO_389002.out BK384.out (by decide)) (fun _ hk => hk.2) (.int .u32 t390)) (fun _ hk => hk.2) (.int .u32 t393)) (fun _ hk => hk.2) (.slice Ao85 x389002_3.length co85)) (fun _ hk => hk.2) (.int .u32 t396)) (fun _ hk => trivial), bl2 GE384.out GE388.out⟩) | ((with_reducible refine gate_callee (f := 36) rfl ?_); refine goesL_ (some 118) rfl rfl Try.func36 kR rfl #[.agg #[.int .u32 t390, .int .u32 t393, .slice Ao85 x389002_3.length co85, .int .u32 t396]] rfl mpA ?_; (with_reducible refine (hurdleref10_Line.calls k3 t390 t393 _ _ x389002_3 t396 t411 _ ?side1 ?side2 A81.out).mono ?_); (case side1 => repeat (first | exact (Kd.R_reads' HO_389002.out).2.2 | (with_reducible refine Kd.C_alloc ?_ _) | (with_reducible refine Kd.C_drewN ?_ _) | (with_reducible refine Kd.C_drew ?_))); (case side2 => exact (Kd.R_reads' HO_389002.out).2.1); rintro e w86 ⟨rfl, hb⟩; refine ⟨_, rfl, ?_⟩; have n0_ := aM (Kd.R_below (rdS HO_4.out) hb); have n1_ := aM (Kd.R_below (rdS HO_389002.out) hb); have n2_ := aM (blk_below (g := gb384) (o := .cells #[.int .u32 x385000_3, .int .u32 x385001_3, .slice none 0 0, .int .u32 x385003_3] 40 (0, 0)) (bkS BK384.out) hb); have n3_ := aM (blk_below (g := gb388) (o := .cells #[.int .u32 t390, .int .u32 t393, .slice Ao85 x389002_3.length co85, .int .u32 t396] 40 (0, 0)) (bkS BK388.out) hb); have n4_ := aM (below_step (bl2 GE384.out GE388.out) hb); clear HO_4; clear HO_389002; clear BK384; clear BK388; clear HB; have HO_4 := n0_; have HO_389002 := n1_; have BK384 := n2_; have BK388 := n3_; have HB := n4_; clear n0_ n1_ n2_ n3_ n4_; (try clear hb); (try clear hb2); (try clear hk); (try clear hi); have hcz87_0 : w86.cell? ⟨gb388, 0, none⟩ = some (.int .u32 t390) := (blk_cell BK388.out 0).trans rfl; have hcz87_1 : w86.cell? ⟨gb388, 1, none⟩ = some (.int .u32 t393) := (blk_cell BK388.out 1).trans rfl; have hcz87_2 : w86.cell? ⟨gb388, 2, none⟩ = some (.slice Ao85 x389002_3.length co85) := (blk_cell BK388.out 2).trans rfl; have hcz87_3 : w86.cell? ⟨gb388, 3, none⟩ = some (.int .u32 t396) := (blk_cell BK388.out 3).trans rfl; have hfz87_0 := blk_frozen BK388.out 0; have hfz87_1 := blk_frozen BK388.out 1; have hfz87_2 := blk_frozen BK388.out 2; have hfz87_3 := blk_frozen BK388.out 3; have hcz88_0 : w86.cell? ⟨gb384, 0, none⟩ = some (.int .u32 x385000_3) := (blk_cell BK384.out 0).trans rfl; have hcz88_1 : w86.cell? ⟨gb384, 1, none⟩ = some (.int .u32 x385001_3) := (blk_cell BK384.out 1).trans rfl; have hcz88_2 : w86.cell? ⟨gb384, 2, none⟩ = some (.slice none 0 0) := (blk_cell BK384.out 2).trans rfl; have hcz88_3 : w86.cell? ⟨gb384, 3, none⟩ = some (.int .u32 x385003_3) := (blk_cell BK384.out 3).trans rfl; have hfz88_0 := blk_frozen BK384.out 0; have hfz88_1 := blk_frozen BK384.out 1; have hfz88_2 := blk_frozen BK384.out 2; have hfz88_3 := blk_frozen BK384.out 3))
       rw [if_pos c32] at H
       have c32b0 : decide (x12_3 < (t385.length : Int)) = true := decide_eq_true c32
       clear c32
       obtain ⟨ji33, hji33⟩ : ∃ j_ : Int, (wrap64 (x12_3 + 1)) = j_ := ⟨_, rfl⟩
       replace H : (if 0 ≤ (ji33) then (if (ji33) < (t385.length : Int) then (if (rdOf ByteArray.empty t385 (ji33)).size + 1 ≤ 9223372036854775807 then (if 0 ≤ (wrap64 (x12_3 + 2)) then (if (wrap64 (x12_3 + 2)) < (t385.length : Int) then (if ((rdOf ByteArray.empty t385 (ji33)) ++ (⟨#[32]⟩ : ByteArray)).size + (rdOf ByteArray.empty t385 (wrap64 (x12_3 + 2))).size ≤ 9223372036854775807 then (if (((rdOf ByteArray.empty t385 (ji33)) ++ (⟨#[32]⟩ : ByteArray)) ++ (rdOf ByteArray.empty t385 (wrap64 (x12_3 + 2)))).size + 1 ≤ 9223372036854775807 then (if 0 ≤ (wrap64 (x12_3 + 3)) then (if (wrap64 (x12_3 + 3)) < (t385.length : Int) then (if ((((rdOf ByteArray.empty t385 (ji33)) ++ (⟨#[32]⟩ : ByteArray)) ++ (rdOf ByteArray.empty t385 (wrap64 (x12_3 + 2)))) ++ (⟨#[32]⟩ : ByteArray)).size + (rdOf ByteArray.empty t385 (wrap64 (x12_3 + 3))).size ≤ 9223372036854775807 then (if (((((rdOf ByteArray.empty t385 (ji33)) ++ (⟨#[32]⟩ : ByteArray)) ++ (rdOf ByteArray.empty t385 (wrap64 (x12_3 + 2)))) ++ (⟨#[32]⟩ : ByteArray)) ++ (rdOf ByteArray.empty t385 (wrap64 (x12_3 + 3)))).size + 1 ≤ 9223372036854775807 then (if 0 ≤ (wrap64 (x12_3 + 4)) then (if (wrap64 (x12_3 + 4)) < (t385.length : Int) then (if ((((((rdOf ByteArray.empty t385 (ji33)) ++ (⟨#[32]⟩ : ByteArray)) ++ (rdOf ByteArray.empty t385 (wrap64 (x12_3 + 2)))) ++ (⟨#[32]⟩ : ByteArray)) ++ (rdOf ByteArray.empty t385 (wrap64 (x12_3 + 3)))) ++ (⟨#[32]⟩ : ByteArray)).size + (rdOf ByteArray.empty t385 (wrap64 (x12_3 + 4))).size ≤ 9223372036854775807 then ((hurdleref08_Parse.f k3 (((((((rdOf ByteArray.empty t385 (ji33)) ++ (⟨#[32]⟩ : ByteArray)) ++ (rdOf ByteArray.empty t385 (wrap64 (x12_3 + 2)))) ++ (⟨#[32]⟩ : ByteArray)) ++ (rdOf ByteArray.empty t385 (wrap64 (x12_3 + 3)))) ++ (⟨#[32]⟩ : ByteArray)) ++ (rdOf ByteArray.empty t385 (wrap64 (x12_3 + 4))))).bind fun bt402 => (if bt402.2.2.2.2 = true then (if x389002_3.length < 4398046511104 then (hurdleref10_Read.l0 k3 a0 t385 (wrap64 (x12_3 + 5)) t390 t393 (x389002_3 ++ [(⟨bt402.1, bt402.2.1, bt402.2.2.1, bt402.2.2.2.1⟩ : S61)]) t396) else (none)) else (some (0, 0, ([] : List (S61)), 0, false)))) else (none)) else (none)) else (none)) else (none)) else (none)) else (none)) else (none)) else (none)) else (none)) else (none)) else (none)) else (none)) else (none)) else (none)) = some (r1, r2, r3, r4, r5) := by first | (rw [hji33] at H; exact H) | (simp only [hji33] at H ⊢; exact H)
       have hji33w : (IntKind.i64.wrap (x12_3 + 1)) = ji33 := (i64_w _).trans hji33
       by_cases c34 : 0 ≤ (ji33)
       rotate_left
       · rw [if_neg c34] at H
         exact absurd H (by simp)
       rw [if_pos c34] at H
       have c34b0 : decide (0 ≤ (ji33)) = true := decide_eq_true c34
       clear c34
       by_cases c35 : (ji33) < (t385.length : Int)
       rotate_left
       · rw [if_neg c35] at H
         exact absurd H (by simp)
       rw [if_pos c35] at H
       have c35b0 : decide ((ji33) < (t385.length : Int)) = true := decide_eq_true c35
       clear c35
       by_cases c36 : (rdOf ByteArray.empty t385 (ji33)).size + 1 ≤ 9223372036854775807
       rotate_left
       · rw [if_neg c36] at H
         exact absurd H (by simp)
       rw [if_pos c36] at H
       have c36b0 := eq_true c36
       have c36b1 : decide ((rdOf ByteArray.empty t385 (ji33)).size + 1 ≤ 9223372036854775807) = true := decide_eq_true c36
       try have c36b2 : (9223372036854775807 < (rdOf ByteArray.empty t385 (ji33)).size + 1) = False := eq_false (Nat.not_lt.2 c36)
       obtain ⟨ji37, hji37⟩ : ∃ j_ : Int, (wrap64 (x12_3 + 2)) = j_ := ⟨_, rfl⟩
       replace H : (if 0 ≤ (ji37) then (if (ji37) < (t385.length : Int) then (if ((rdOf ByteArray.empty t385 (ji33)) ++ (⟨#[32]⟩ : ByteArray)).size + (rdOf ByteArray.empty t385 (ji37)).size ≤ 9223372036854775807 then (if (((rdOf ByteArray.empty t385 (ji33)) ++ (⟨#[32]⟩ : ByteArray)) ++ (rdOf ByteArray.empty t385 (ji37))).size + 1 ≤ 9223372036854775807 then (if 0 ≤ (wrap64 (x12_3 + 3)) then (if (wrap64 (x12_3 + 3)) < (t385.length : Int) then (if ((((rdOf ByteArray.empty t385 (ji33)) ++ (⟨#[32]⟩ : ByteArray)) ++ (rdOf ByteArray.empty t385 (ji37))) ++ (⟨#[32]⟩ : ByteArray)).size + (rdOf ByteArray.empty t385 (wrap64 (x12_3 + 3))).size ≤ 9223372036854775807 then (if (((((rdOf ByteArray.empty t385 (ji33)) ++ (⟨#[32]⟩ : ByteArray)) ++ (rdOf ByteArray.empty t385 (ji37))) ++ (⟨#[32]⟩ : ByteArray)) ++ (rdOf ByteArray.empty t385 (wrap64 (x12_3 + 3)))).size + 1 ≤ 9223372036854775807 then (if 0 ≤ (wrap64 (x12_3 + 4)) then (if (wrap64 (x12_3 + 4)) < (t385.length : Int) then (if ((((((rdOf ByteArray.empty t385 (ji33)) ++ (⟨#[32]⟩ : ByteArray)) ++ (rdOf ByteArray.empty t385 (ji37))) ++ (⟨#[32]⟩ : ByteArray)) ++ (rdOf ByteArray.empty t385 (wrap64 (x12_3 + 3)))) ++ (⟨#[32]⟩ : ByteArray)).size + (rdOf ByteArray.empty t385 (wrap64 (x12_3 + 4))).size ≤ 9223372036854775807 then ((hurdleref08_Parse.f k3 (((((((rdOf ByteArray.empty t385 (ji33)) ++ (⟨#[32]⟩ : ByteArray)) ++ (rdOf ByteArray.empty t385 (ji37))) ++ (⟨#[32]⟩ : ByteArray)) ++ (rdOf ByteArray.empty t385 (wrap64 (x12_3 + 3)))) ++ (⟨#[32]⟩ : ByteArray)) ++ (rdOf ByteArray.empty t385 (wrap64 (x12_3 + 4))))).bind fun bt402 => (if bt402.2.2.2.2 = true then (if x389002_3.length < 4398046511104 then (hurdleref10_Read.l0 k3 a0 t385 (wrap64 (x12_3 + 5)) t390 t393 (x389002_3 ++ [(⟨bt402.1, bt402.2.1, bt402.2.2.1, bt402.2.2.2.1⟩ : S61)]) t396) else (none)) else (some (0, 0, ([] : List (S61)), 0, false)))) else (none)) else (none)) else (none)) else (none)) else (none)) else (none)) else (none)) else (none)) else (none)) else (none)) else (none)) = some (r1, r2, r3, r4, r5) := by first | (rw [hji37] at H; exact H) | (simp only [hji37] at H ⊢; exact H)
       have hji37w : (IntKind.i64.wrap (x12_3 + 2)) = ji37 := (i64_w _).trans hji37
       by_cases c38 : 0 ≤ (ji37)
       rotate_left
       · rw [if_neg c38] at H
         exact absurd H (by simp)
       rw [if_pos c38] at H
       have c38b0 : decide (0 ≤ (ji37)) = true := decide_eq_true c38
       clear c38
       by_cases c39 : (ji37) < (t385.length : Int)
       rotate_left
       · rw [if_neg c39] at H
         exact absurd H (by simp)
       rw [if_pos c39] at H
       have c39b0 : decide ((ji37) < (t385.length : Int)) = true := decide_eq_true c39
       clear c39
       by_cases c40 : ((rdOf ByteArray.empty t385 (ji33)) ++ (⟨#[32]⟩ : ByteArray)).size + (rdOf ByteArray.empty t385 (ji37)).size ≤ 9223372036854775807
       rotate_left
       · rw [if_neg c40] at H
         exact absurd H (by simp)
       rw [if_pos c40] at H
       have c40b0 := eq_true c40
       have c40b1 : decide (((rdOf ByteArray.empty t385 (ji33)) ++ (⟨#[32]⟩ : ByteArray)).size + (rdOf ByteArray.empty t385 (ji37)).size ≤ 9223372036854775807) = true := decide_eq_true c40
       try have c40b2 : (9223372036854775807 < ((rdOf ByteArray.empty t385 (ji33)) ++ (⟨#[32]⟩ : ByteArray)).size + (rdOf ByteArray.empty t385 (ji37)).size) = False := eq_false (Nat.not_lt.2 c40)
       try have c40b3 : (9223372036854775807 < (rdOf ByteArray.empty t385 (ji33)).size + 1 + (rdOf ByteArray.empty t385 (ji37)).size) = False := by have h := c40b2; simp only [ByteArray.size_append] at h; exact h
       by_cases c41 : (((rdOf ByteArray.empty t385 (ji33)) ++ (⟨#[32]⟩ : ByteArray)) ++ (rdOf ByteArray.empty t385 (ji37))).size + 1 ≤ 9223372036854775807
       rotate_left
       · rw [if_neg c41] at H
         exact absurd H (by simp)
       rw [if_pos c41] at H
       have c41b0 := eq_true c41
       have c41b1 : decide ((((rdOf ByteArray.empty t385 (ji33)) ++ (⟨#[32]⟩ : ByteArray)) ++ (rdOf ByteArray.empty t385 (ji37))).size + 1 ≤ 9223372036854775807) = true := decide_eq_true c41
       try have c41b2 : (9223372036854775807 < (((rdOf ByteArray.empty t385 (ji33)) ++ (⟨#[32]⟩ : ByteArray)) ++ (rdOf ByteArray.empty t385 (ji37))).size + 1) = False := eq_false (Nat.not_lt.2 c41)
       try have c41b3 : (9223372036854775807 < (rdOf ByteArray.empty t385 (ji33)).size + 1 + (rdOf ByteArray.empty t385 (ji37)).size + 1) = False := by have h := c41b2; simp only [ByteArray.size_append] at h; exact h
       obtain ⟨ji42, hji42⟩ : ∃ j_ : Int, (wrap64 (x12_3 + 3)) = j_ := ⟨_, rfl⟩
       replace H : (if 0 ≤ (ji42) then (if (ji42) < (t385.length : Int) then (if ((((rdOf ByteArray.empty t385 (ji33)) ++ (⟨#[32]⟩ : ByteArray)) ++ (rdOf ByteArray.empty t385 (ji37))) ++ (⟨#[32]⟩ : ByteArray)).size + (rdOf ByteArray.empty t385 (ji42)).size ≤ 9223372036854775807 then (if (((((rdOf ByteArray.empty t385 (ji33)) ++ (⟨#[32]⟩ : ByteArray)) ++ (rdOf ByteArray.empty t385 (ji37))) ++ (⟨#[32]⟩ : ByteArray)) ++ (rdOf ByteArray.empty t385 (ji42))).size + 1 ≤ 9223372036854775807 then (if 0 ≤ (wrap64 (x12_3 + 4)) then (if (wrap64 (x12_3 + 4)) < (t385.length : Int) then (if ((((((rdOf ByteArray.empty t385 (ji33)) ++ (⟨#[32]⟩ : ByteArray)) ++ (rdOf ByteArray.empty t385 (ji37))) ++ (⟨#[32]⟩ : ByteArray)) ++ (rdOf ByteArray.empty t385 (ji42))) ++ (⟨#[32]⟩ : ByteArray)).size + (rdOf ByteArray.empty t385 (wrap64 (x12_3 + 4))).size ≤ 9223372036854775807 then ((hurdleref08_Parse.f k3 (((((((rdOf ByteArray.empty t385 (ji33)) ++ (⟨#[32]⟩ : ByteArray)) ++ (rdOf ByteArray.empty t385 (ji37))) ++ (⟨#[32]⟩ : ByteArray)) ++ (rdOf ByteArray.empty t385 (ji42))) ++ (⟨#[32]⟩ : ByteArray)) ++ (rdOf ByteArray.empty t385 (wrap64 (x12_3 + 4))))).bind fun bt402 => (if bt402.2.2.2.2 = true then (if x389002_3.length < 4398046511104 then (hurdleref10_Read.l0 k3 a0 t385 (wrap64 (x12_3 + 5)) t390 t393 (x389002_3 ++ [(⟨bt402.1, bt402.2.1, bt402.2.2.1, bt402.2.2.2.1⟩ : S61)]) t396) else (none)) else (some (0, 0, ([] : List (S61)), 0, false)))) else (none)) else (none)) else (none)) else (none)) else (none)) else (none)) else (none)) = some (r1, r2, r3, r4, r5) := by first | (rw [hji42] at H; exact H) | (simp only [hji42] at H ⊢; exact H)
       have hji42w : (IntKind.i64.wrap (x12_3 + 3)) = ji42 := (i64_w _).trans hji42
       by_cases c43 : 0 ≤ (ji42)
       rotate_left
       · rw [if_neg c43] at H
         exact absurd H (by simp)
       rw [if_pos c43] at H
       have c43b0 : decide (0 ≤ (ji42)) = true := decide_eq_true c43
       clear c43
       by_cases c44 : (ji42) < (t385.length : Int)
       rotate_left
       · rw [if_neg c44] at H
         exact absurd H (by simp)
       rw [if_pos c44] at H
       have c44b0 : decide ((ji42) < (t385.length : Int)) = true := decide_eq_true c44
       clear c44
       by_cases c45 : ((((rdOf ByteArray.empty t385 (ji33)) ++ (⟨#[32]⟩ : ByteArray)) ++ (rdOf ByteArray.empty t385 (ji37))) ++ (⟨#[32]⟩ : ByteArray)).size + (rdOf ByteArray.empty t385 (ji42)).size ≤ 9223372036854775807
       rotate_left
       · rw [if_neg c45] at H
         exact absurd H (by simp)
       rw [if_pos c45] at H
       have c45b0 := eq_true c45
       have c45b1 : decide (((((rdOf ByteArray.empty t385 (ji33)) ++ (⟨#[32]⟩ : ByteArray)) ++ (rdOf ByteArray.empty t385 (ji37))) ++ (⟨#[32]⟩ : ByteArray)).size + (rdOf ByteArray.empty t385 (ji42)).size ≤ 9223372036854775807) = true := decide_eq_true c45
       try have c45b2 : (9223372036854775807 < ((((rdOf ByteArray.empty t385 (ji33)) ++ (⟨#[32]⟩ : ByteArray)) ++ (rdOf ByteArray.empty t385 (ji37))) ++ (⟨#[32]⟩ : ByteArray)).size + (rdOf ByteArray.empty t385 (ji42)).size) = False := eq_false (Nat.not_lt.2 c45)
       try have c45b3 : (9223372036854775807 < (rdOf ByteArray.empty t385 (ji33)).size + 1 + (rdOf ByteArray.empty t385 (ji37)).size + 1 + (rdOf ByteArray.empty t385 (ji42)).size) = False := by have h := c45b2; simp only [ByteArray.size_append] at h; exact h
       by_cases c46 : (((((rdOf ByteArray.empty t385 (ji33)) ++ (⟨#[32]⟩ : ByteArray)) ++ (rdOf ByteArray.empty t385 (ji37))) ++ (⟨#[32]⟩ : ByteArray)) ++ (rdOf ByteArray.empty t385 (ji42))).size + 1 ≤ 9223372036854775807
       rotate_left
       · rw [if_neg c46] at H
         exact absurd H (by simp)
       rw [if_pos c46] at H
       have c46b0 := eq_true c46
       have c46b1 : decide ((((((rdOf ByteArray.empty t385 (ji33)) ++ (⟨#[32]⟩ : ByteArray)) ++ (rdOf ByteArray.empty t385 (ji37))) ++ (⟨#[32]⟩ : ByteArray)) ++ (rdOf ByteArray.empty t385 (ji42))).size + 1 ≤ 9223372036854775807) = true := decide_eq_true c46
       try have c46b2 : (9223372036854775807 < (((((rdOf ByteArray.empty t385 (ji33)) ++ (⟨#[32]⟩ : ByteArray)) ++ (rdOf ByteArray.empty t385 (ji37))) ++ (⟨#[32]⟩ : ByteArray)) ++ (rdOf ByteArray.empty t385 (ji42))).size + 1) = False := eq_false (Nat.not_lt.2 c46)
       try have c46b3 : (9223372036854775807 < (rdOf ByteArray.empty t385 (ji33)).size + 1 + (rdOf ByteArray.empty t385 (ji37)).size + 1 + (rdOf ByteArray.empty t385 (ji42)).size + 1) = False := by have h := c46b2; simp only [ByteArray.size_append] at h; exact h
       obtain ⟨ji47, hji47⟩ : ∃ j_ : Int, (wrap64 (x12_3 + 4)) = j_ := ⟨_, rfl⟩
       replace H : (if 0 ≤ (ji47) then (if (ji47) < (t385.length : Int) then (if ((((((rdOf ByteArray.empty t385 (ji33)) ++ (⟨#[32]⟩ : ByteArray)) ++ (rdOf ByteArray.empty t385 (ji37))) ++ (⟨#[32]⟩ : ByteArray)) ++ (rdOf ByteArray.empty t385 (ji42))) ++ (⟨#[32]⟩ : ByteArray)).size + (rdOf ByteArray.empty t385 (ji47)).size ≤ 9223372036854775807 then ((hurdleref08_Parse.f k3 (((((((rdOf ByteArray.empty t385 (ji33)) ++ (⟨#[32]⟩ : ByteArray)) ++ (rdOf ByteArray.empty t385 (ji37))) ++ (⟨#[32]⟩ : ByteArray)) ++ (rdOf ByteArray.empty t385 (ji42))) ++ (⟨#[32]⟩ : ByteArray)) ++ (rdOf ByteArray.empty t385 (ji47)))).bind fun bt402 => (if bt402.2.2.2.2 = true then (if x389002_3.length < 4398046511104 then (hurdleref10_Read.l0 k3 a0 t385 (wrap64 (x12_3 + 5)) t390 t393 (x389002_3 ++ [(⟨bt402.1, bt402.2.1, bt402.2.2.1, bt402.2.2.2.1⟩ : S61)]) t396) else (none)) else (some (0, 0, ([] : List (S61)), 0, false)))) else (none)) else (none)) else (none)) = some (r1, r2, r3, r4, r5) := by first | (rw [hji47] at H; exact H) | (simp only [hji47] at H ⊢; exact H)
       have hji47w : (IntKind.i64.wrap (x12_3 + 4)) = ji47 := (i64_w _).trans hji47
       by_cases c48 : 0 ≤ (ji47)
       rotate_left
       · rw [if_neg c48] at H
         exact absurd H (by simp)
       rw [if_pos c48] at H
       have c48b0 : decide (0 ≤ (ji47)) = true := decide_eq_true c48
       clear c48
       by_cases c49 : (ji47) < (t385.length : Int)
       rotate_left
       · rw [if_neg c49] at H
         exact absurd H (by simp)
       rw [if_pos c49] at H
       have c49b0 : decide ((ji47) < (t385.length : Int)) = true := decide_eq_true c49
       clear c49
       by_cases c50 : ((((((rdOf ByteArray.empty t385 (ji33)) ++ (⟨#[32]⟩ : ByteArray)) ++ (rdOf ByteArray.empty t385 (ji37))) ++ (⟨#[32]⟩ : ByteArray)) ++ (rdOf ByteArray.empty t385 (ji42))) ++ (⟨#[32]⟩ : ByteArray)).size + (rdOf ByteArray.empty t385 (ji47)).size ≤ 9223372036854775807
       rotate_left
       · rw [if_neg c50] at H
         exact absurd H (by simp)
       rw [if_pos c50] at H
       have c50b0 := eq_true c50
       have c50b1 : decide (((((((rdOf ByteArray.empty t385 (ji33)) ++ (⟨#[32]⟩ : ByteArray)) ++ (rdOf ByteArray.empty t385 (ji37))) ++ (⟨#[32]⟩ : ByteArray)) ++ (rdOf ByteArray.empty t385 (ji42))) ++ (⟨#[32]⟩ : ByteArray)).size + (rdOf ByteArray.empty t385 (ji47)).size ≤ 9223372036854775807) = true := decide_eq_true c50
       try have c50b2 : (9223372036854775807 < ((((((rdOf ByteArray.empty t385 (ji33)) ++ (⟨#[32]⟩ : ByteArray)) ++ (rdOf ByteArray.empty t385 (ji37))) ++ (⟨#[32]⟩ : ByteArray)) ++ (rdOf ByteArray.empty t385 (ji42))) ++ (⟨#[32]⟩ : ByteArray)).size + (rdOf ByteArray.empty t385 (ji47)).size) = False := eq_false (Nat.not_lt.2 c50)
       try have c50b3 : (9223372036854775807 < (rdOf ByteArray.empty t385 (ji33)).size + 1 + (rdOf ByteArray.empty t385 (ji37)).size + 1 + (rdOf ByteArray.empty t385 (ji42)).size + 1 + (rdOf ByteArray.empty t385 (ji47)).size) = False := by have h := c50b2; simp only [ByteArray.size_append] at h; exact h
       replace H := Option.bind_eq_some_iff.mp H
       obtain ⟨⟨t402, t403, t404, t405, t406⟩, A510, H⟩ := H
       replace H : (if t406 = true then (if x389002_3.length < 4398046511104 then (hurdleref10_Read.l0 k3 a0 t385 (wrap64 (x12_3 + 5)) t390 t393 (x389002_3 ++ [(⟨t402, t403, t404, t405⟩ : S61)]) t396) else (none)) else (some (0, 0, ([] : List (S61)), 0, false))) = some (r1, r2, r3, r4, r5) := H
       have A51 := aM A510
       clear A510
       by_cases c52 : t406 = true
       rotate_left
       · replace c52 := Bool.eq_false_iff.mpr c52
         subst c52
         have H1 : (some (0, 0, ([] : List (S61)), 0, false)) = some (r1, r2, r3, r4, r5) := by rw [if_neg (show ¬ (false = true) by decide)] at H; exact H
         clear H
         have H := H1
         clear H1
         simp only [Option.some.injEq, Prod.mk.injEq] at H
         obtain ⟨rfl, rfl, rfl, rfl, rfl⟩ := H
         try go_wp2
         have n0_ := aM (Kd.R_drew HO_4.out)
         have n1_ := aM (Kd.R_drew HO_389002.out)
         have n2_ := aM (blk_drew BK384.out)
         have n3_ := aM (blk_drew BK388.out)
         have n4_ := aM (below_drew1 HB.out)
         clear HO_4
         clear HO_389002
         clear BK384
         clear BK388
         clear HB
         have HO_4 := n0_
         have HO_389002 := n1_
         have BK384 := n2_
         have BK388 := n3_
         have HB := n4_
         clear n0_ n1_ n2_ n3_ n4_
         have p398 : 0 ≤ ((ji33) : Int) := of_decide_eq_true as_
         have q398 : (ji33) < (t385.length : Int) := of_decide_eq_true as_
         obtain ⟨ad398, e398, hx398_0⟩ := Kd.at_string (Kd.R_reads' HO_4.out).2.2 (ji33) p398 q398
         obtain rfl : ad389 = ad398 := (by injection e398)
         replace p398 := eq_true p398
         replace q398 := eq_true q398
         have p399 : 0 ≤ ((ji37) : Int) := of_decide_eq_true as_
         have q399 : (ji37) < (t385.length : Int) := of_decide_eq_true as_
         obtain ⟨ad399, e399, hx399_0⟩ := Kd.at_string (Kd.R_reads' HO_4.out).2.2 (ji37) p399 q399
         obtain rfl : ad389 = ad399 := (by injection e399)
         replace p399 := eq_true p399
         replace q399 := eq_true q399
         have p400 : 0 ≤ ((ji42) : Int) := of_decide_eq_true as_
         have q400 : (ji42) < (t385.length : Int) := of_decide_eq_true as_
         obtain ⟨ad400, e400, hx400_0⟩ := Kd.at_string (Kd.R_reads' HO_4.out).2.2 (ji42) p400 q400
         obtain rfl : ad389 = ad400 := (by injection e400)
         replace p400 := eq_true p400
         replace q400 := eq_true q400
         have p401 : 0 ≤ ((ji47) : Int) := of_decide_eq_true as_
         have q401 : (ji47) < (t385.length : Int) := of_decide_eq_true as_
         obtain ⟨ad401, e401, hx401_0⟩ := Kd.at_string (Kd.R_reads' HO_4.out).2.2 (ji47) p401 q401
         obtain rfl : ad389 = ad401 := (by injection e401)
         replace p401 := eq_true p401
         replace q401 := eq_true q401
         refine start_ (n := 33) (S := fun w' => w'.cell? (ad389.add ((ji33)).toNat) = some (.string (rdOf ByteArray.empty t385 (ji33))) ∧ w'.cell? (ad389.add ((ji37)).toNat) = some (.string (rdOf ByteArray.empty t385 (ji37))) ∧ w'.cell? (ad389.add ((ji42)).toNat) = some (.string (rdOf ByteArray.empty t385 (ji42))) ∧ w'.cell? (ad389.add ((ji47)).toNat) = some (.string (rdOf ByteArray.empty t385 (ji47)))) (ds := []) #[false, false, false, false, false, false, false, false, false, false, false, false, false, false, false, false, false, false, false, false, false, false, false, false, false, false, false, false, false, false, false, false, false] kR rfl rfl ⟨hx398_0, hx399_0, hx400_0, hx401_0⟩ (fun hHeld => ?_); refine with_tabW hurdleref10_Read.tab16 hurdleref10_Read.bits16 (fun HT_ HW_ => ?_)
         generalize wr.drew = w70 at HO_4 HO_389002 BK384 BK388 HB hx398_0 hx399_0 hx400_0 hx401_0 hHeld ⊢
         refine pure_ (i := 0) (N := some 79) (v := ?_) (a' := ?_) #[true, false, false, false, false, false, false, false, false, false, false, false, false, false, false, false, false, false, false, false, false, false, false, false, false, false, false, false, false, false, false, false, false] rfl rfl (any_of HT_.out kR) (fun _ _ _ h => h) (Or.inl ⟨by rfl, ?_⟩) ?_ ?_
         rotate_left
         · intro w'
           go_simp
           with_reducible rfl
         rotate_left
         · refine apW ?_
           rfl
         refine pure_ (i := 1) (N := some 80) (v := ?_) (a' := ?_) #[true, true, false, false, false, false, false, false, false, false, false, false, false, false, false, false, false, false, false, false, false, false, false, false, false, false, false, false, false, false, false, false, false] rfl rfl (any_of HT_.out kR) (fun _ _ _ h => h) (Or.inl ⟨by rfl, ?_⟩) ?_ ?_
         rotate_left
         · intro w'
           go_simp
           with_reducible rfl
         rotate_left
         · refine apW ?_
           rfl
         refine pure_ (i := 2) (N := some 81) (v := ?_) (a' := ?_) #[true, true, true, false, false, false, false, false, false, false, false, false, false, false, false, false, false, false, false, false, false, false, false, false, false, false, false, false, false, false, false, false, false] rfl rfl (any_of HT_.out kR) (fun _ _ _ h => h) (Or.inl ⟨by rfl, ?_⟩) ?_ ?_
         rotate_left
         · intro w'
           go_simp
           with_reducible rfl
         rotate_left
         · refine apW ?_
           rfl
         refine pure_ (i := 3) (N := some 82) (v := ?_) (a' := ?_) #[true, true, true, true, false, false, false, false, false, false, false, false, false, false, false, false, false, false, false, false, false, false, false, false, false, false, false, false, false, false, false, false, false] rfl rfl (any_of HT_.out kR) (fun _ _ _ h => h) (Or.inl ⟨by rfl, ?_⟩) ?_ ?_
         rotate_left
         · intro w'
           go_simp
           with_reducible rfl
         rotate_left
         · refine apW ?_
           rfl
         refine pure_ (i := 6) (N := some 85) (v := ?_) (a' := ?_) #[true, true, true, true, false, false, true, false, false, false, false, false, false, false, false, false, false, false, false, false, false, false, false, false, false, false, false, false, false, false, false, false, false] rfl rfl (any_of HT_.out kR) (fun _ _ _ h => h) (Or.inl ⟨by rfl, ?_⟩) ?_ ?_
         rotate_left
         · intro w'
           go_simp
           with_reducible rfl
         rotate_left
         · refine apW ?_
           rfl
         refine pure_ (i := 7) (N := some 86) (v := ?_) (a' := ?_) #[true, true, true, true, false, false, true, true, false, false, false, false, false, false, false, false, false, false, false, false, false, false, false, false, false, false, false, false, false, false, false, false, false] rfl rfl (any_of HT_.out kR) (fun _ _ _ h => h) (Or.inl ⟨by rfl, ?_⟩) ?_ ?_
         rotate_left
         · intro w'
           go_simp
           with_reducible rfl
         rotate_left
         · refine apW ?_
           rfl
         refine pure_ (i := 8) (N := some 87) (v := ?_) (a' := ?_) #[true, true, true, true, false, false, true, true, true, false, false, false, false, false, false, false, false, false, false, false, false, false, false, false, false, false, false, false, false, false, false, false, false] rfl rfl (any_of HT_.out kR) (fun _ _ _ h => h) (Or.inl ⟨by rfl, ?_⟩) ?_ ?_
         rotate_left
         · intro w'
           go_simp
           with_reducible rfl
         rotate_left
         · refine apW ?_
           rfl
         refine pure_ (i := 9) (N := some 88) (v := ?_) (a' := ?_) #[true, true, true, true, false, false, true, true, true, true, false, false, false, false, false, false, false, false, false, false, false, false, false, false, false, false, false, false, false, false, false, false, false] rfl rfl (any_of HT_.out kR) (fun _ _ _ h => h) (Or.inl ⟨by rfl, ?_⟩) ?_ ?_
         rotate_left
         · intro w'
           go_simp
           with_reducible rfl
         rotate_left
         · refine apW ?_
           rfl
         refine pure_ (i := 13) (N := some 92) (v := ?_) (a' := ?_) #[true, true, true, true, false, false, true, true, true, true, false, false, false, true, false, false, false, false, false, false, false, false, false, false, false, false, false, false, false, false, false, false, false] rfl rfl (any_of HT_.out kR) (fun _ _ _ h => h) (Or.inl ⟨by rfl, ?_⟩) ?_ ?_
         rotate_left
         · intro w'
           go_simp
           with_reducible rfl
         rotate_left
         · refine apW ?_
           rfl
         refine pure_ (i := 14) (N := some 93) (v := ?_) (a' := ?_) #[true, true, true, true, false, false, true, true, true, true, false, false, false, true, true, false, false, false, false, false, false, false, false, false, false, false, false, false, false, false, false, false, false] rfl rfl (any_of HT_.out kR) (fun _ _ _ h => h) (Or.inl ⟨by rfl, ?_⟩) ?_ ?_
         rotate_left
         · intro w'
           go_simp
           with_reducible rfl
         rotate_left
         · refine apW ?_
           rfl
         refine pure_ (i := 15) (N := some 94) (v := ?_) (a' := ?_) #[true, true, true, true, false, false, true, true, true, true, false, false, false, true, true, true, false, false, false, false, false, false, false, false, false, false, false, false, false, false, false, false, false] rfl rfl (any_of HT_.out kR) (fun _ _ _ h => h) (Or.inl ⟨by rfl, ?_⟩) ?_ ?_
         rotate_left
         · intro w'
           go_simp
           with_reducible rfl
         rotate_left
         · refine apW ?_
           rfl
         refine pure_ (i := 16) (N := some 95) (v := ?_) (a' := ?_) #[true, true, true, true, false, false, true, true, true, true, false, false, false, true, true, true, true, false, false, false, false, false, false, false, false, false, false, false, false, false, false, false, false] rfl rfl (any_of HT_.out kR) (fun _ _ _ h => h) (Or.inl ⟨by rfl, ?_⟩) ?_ ?_
         rotate_left
         · intro w'
           go_simp
           with_reducible rfl
         rotate_left
         · refine apW ?_
           rfl
         refine pure_ (i := 20) (N := some 99) (v := ?_) (a' := ?_) #[true, true, true, true, false, false, true, true, true, true, false, false, false, true, true, true, true, false, false, false, true, false, false, false, false, false, false, false, false, false, false, false, false] rfl rfl (any_of HT_.out kR) (fun _ _ _ h => h) (Or.inl ⟨by rfl, ?_⟩) ?_ ?_
         rotate_left
         · intro w'
           go_simp
           with_reducible rfl
         rotate_left
         · refine apW ?_
           rfl
         refine pure_ (i := 21) (N := some 100) (v := ?_) (a' := ?_) #[true, true, true, true, false, false, true, true, true, true, false, false, false, true, true, true, true, false, false, false, true, true, false, false, false, false, false, false, false, false, false, false, false] rfl rfl (any_of HT_.out kR) (fun _ _ _ h => h) (Or.inl ⟨by rfl, ?_⟩) ?_ ?_
         rotate_left
         · intro w'
           go_simp
           with_reducible rfl
         rotate_left
         · refine apW ?_
           rfl
         refine pure_ (i := 22) (N := some 101) (v := ?_) (a' := ?_) #[true, true, true, true, false, false, true, true, true, true, false, false, false, true, true, true, true, false, false, false, true, true, true, false, false, false, false, false, false, false, false, false, false] rfl rfl (any_of HT_.out kR) (fun _ _ _ h => h) (Or.inl ⟨by rfl, ?_⟩) ?_ ?_
         rotate_left
         · intro w'
           go_simp
           with_reducible rfl
         rotate_left
         · refine apW ?_
           rfl
         refine pure_ (i := 23) (N := some 102) (v := ?_) (a' := ?_) #[true, true, true, true, false, false, true, true, true, true, false, false, false, true, true, true, true, false, false, false, true, true, true, true, false, false, false, false, false, false, false, false, false] rfl rfl (any_of HT_.out kR) (fun _ _ _ h => h) (Or.inl ⟨by rfl, ?_⟩) ?_ ?_
         rotate_left
         · intro w'
           go_simp
           with_reducible rfl
         rotate_left
         · refine apW ?_
           rfl
         refine take_ (i := 4) (N := some 83) (v := ?_) (a' := ?_) #[true, true, true, true, true, false, true, true, true, true, false, false, false, true, true, true, true, false, false, false, true, true, true, true, false, false, false, false, false, false, false, false, false] rfl rfl (take_ofW HT_.out HW_.out kR) (fun _ _ _ h => h) (Or.inl ⟨by rfl, ?_⟩) hHeld ?_ ?_
         rotate_left
         · rintro w' ⟨s0, s1, s2, s3⟩
           go_simp
           with_reducible rfl
         rotate_left
         · refine apW ?_
           rfl
         refine pure_ (i := 5) (N := some 84) (v := ?_) (a' := ?_) #[true, true, true, true, true, true, true, true, true, true, false, false, false, true, true, true, true, false, false, false, true, true, true, true, false, false, false, false, false, false, false, false, false] rfl rfl (any_of HT_.out kR) (fun _ _ _ h => h) (Or.inl ⟨by rfl, ?_⟩) ?_ ?_
         rotate_left
         · intro w'
           go_simp
           with_reducible rfl
         rotate_left
         · refine apW ?_
           rfl
         refine take_ (i := 10) (N := some 89) (v := ?_) (a' := ?_) #[true, true, true, true, true, true, true, true, true, true, true, false, false, true, true, true, true, false, false, false, true, true, true, true, false, false, false, false, false, false, false, false, false] rfl rfl (take_ofW HT_.out HW_.out kR) (fun _ _ _ h => h) (Or.inl ⟨by rfl, ?_⟩) hHeld ?_ ?_
         rotate_left
         · rintro w' ⟨s0, s1, s2, s3⟩
           go_simp
           with_reducible rfl
         rotate_left
         · refine apW ?_
           rfl
         refine pure_ (i := 11) (N := some 90) (v := ?_) (a' := ?_) #[true, true, true, true, true, true, true, true, true, true, true, true, false, true, true, true, true, false, false, false, true, true, true, true, false, false, false, false, false, false, false, false, false] rfl rfl (any_of HT_.out kR) (fun _ _ _ h => h) (Or.inl ⟨by rfl, ?_⟩) ?_ ?_
         rotate_left
         · intro w'
           go_simp
           with_reducible rfl
         rotate_left
         · refine apW ?_
           rfl
         refine pure_ (i := 12) (N := some 91) (v := ?_) (a' := ?_) #[true, true, true, true, true, true, true, true, true, true, true, true, true, true, true, true, true, false, false, false, true, true, true, true, false, false, false, false, false, false, false, false, false] rfl rfl (any_of HT_.out kR) (fun _ _ _ h => h) (Or.inl ⟨by rfl, ?_⟩) ?_ ?_
         rotate_left
         · intro w'
           go_simp
           with_reducible rfl
         rotate_left
         · refine apW ?_
           rfl
         refine take_ (i := 17) (N := some 96) (v := ?_) (a' := ?_) #[true, true, true, true, true, true, true, true, true, true, true, true, true, true, true, true, true, true, false, false, true, true, true, true, false, false, false, false, false, false, false, false, false] rfl rfl (take_ofW HT_.out HW_.out kR) (fun _ _ _ h => h) (Or.inl ⟨by rfl, ?_⟩) hHeld ?_ ?_
         rotate_left
         · rintro w' ⟨s0, s1, s2, s3⟩
           go_simp
           with_reducible rfl
         rotate_left
         · refine apW ?_
           rfl
         refine pure_ (i := 18) (N := some 97) (v := ?_) (a' := ?_) #[true, true, true, true, true, true, true, true, true, true, true, true, true, true, true, true, true, true, true, false, true, true, true, true, false, false, false, false, false, false, false, false, false] rfl rfl (any_of HT_.out kR) (fun _ _ _ h => h) (Or.inl ⟨by rfl, ?_⟩) ?_ ?_
         rotate_left
         · intro w'
           go_simp
           with_reducible rfl
         rotate_left
         · refine apW ?_
           rfl
         refine pure_ (i := 19) (N := some 98) (v := ?_) (a' := ?_) #[true, true, true, true, true, true, true, true, true, true, true, true, true, true, true, true, true, true, true, true, true, true, true, true, false, false, false, false, false, false, false, false, false] rfl rfl (any_of HT_.out kR) (fun _ _ _ h => h) (Or.inl ⟨by rfl, ?_⟩) ?_ ?_
         rotate_left
         · intro w'
           go_simp
           with_reducible rfl
         rotate_left
         · refine apW ?_
           rfl
         refine take_ (i := 24) (N := some 103) (v := ?_) (a' := ?_) #[true, true, true, true, true, true, true, true, true, true, true, true, true, true, true, true, true, true, true, true, true, true, true, true, true, false, false, false, false, false, false, false, false] rfl rfl (take_ofW HT_.out HW_.out kR) (fun _ _ _ h => h) (Or.inl ⟨by rfl, ?_⟩) hHeld ?_ ?_
         rotate_left
         · rintro w' ⟨s0, s1, s2, s3⟩
           go_simp
           with_reducible rfl
         rotate_left
         · refine apW ?_
           rfl
         refine pure_ (i := 25) (N := some 104) (v := ?_) (a' := ?_) #[true, true, true, true, true, true, true, true, true, true, true, true, true, true, true, true, true, true, true, true, true, true, true, true, true, true, false, false, false, false, false, false, false] rfl rfl (any_of HT_.out kR) (fun _ _ _ h => h) (Or.inl ⟨by rfl, ?_⟩) ?_ ?_
         rotate_left
         · intro w'
           go_simp
           with_reducible rfl
         rotate_left
         · refine apW ?_
           rfl
         refine join_ (σ := Nat) 2 #[true, true, true, true, true, true, true, true, true, true, true, true, true, true, true, true, true, true, true, true, true, true, true, true, true, true, true, true, true, true, true, false, false] (fun s_ => [(105, .tuple #[.agg #[.int .i64 t402, .int .i64 t403, .int .u64 t404, .int .u64 t405], .bool false]), (13, .pointer (some ⟨s_, 0, none⟩)), (78, .tuple #[.agg #[.int .i64 t402, .int .i64 t403, .int .u64 t404, .int .u64 t405], .bool false]), (106, .agg #[.int .i64 t402, .int .i64 t403, .int .u64 t404, .int .u64 t405]), (107, .bool false)]) (fun s_ w' => (w'.cell? (ad389.add ((ji33)).toNat) = some (.string (rdOf ByteArray.empty t385 (ji33))) ∧ w'.cell? (ad389.add ((ji37)).toNat) = some (.string (rdOf ByteArray.empty t385 (ji37))) ∧ w'.cell? (ad389.add ((ji42)).toNat) = some (.string (rdOf ByteArray.empty t385 (ji42))) ∧ w'.cell? (ad389.add ((ji47)).toNat) = some (.string (rdOf ByteArray.empty t385 (ji47)))) ∧ (Kd.R k61 61 w' w.heap.size (fun k_ => k_ ≠ s_) u389002 x389002_3) ∧ (Kd.R Kd.string 9 w' w.heap.size (fun _ => True) (.slice (some ad389) t385.length co21) t385) ∧ (w'.heap[gb384]? = some (.cells #[.int .u32 x385000_3, .int .u32 x385001_3, .slice none 0 0, .int .u32 x385003_3] 40 (0, 0))) ∧ (w'.heap[gb388]? = some (.cells #[.int .u32 t390, .int .u32 t393, u389002, .int .u32 t396] 40 (0, 0))) ∧ (w'.heap[s_]? = some (.cells #[.int .i64 0, .int .i64 0, .int .u64 0, .int .u64 0] 61 (0, 0))) ∧ (w.heap.size ≤ s_) ∧ (w.heap.size ≤ s_) ∧ (gb384 ≠ s_) ∧ (s_ ≠ gb384) ∧ (gb388 ≠ s_) ∧ (s_ ≠ gb388) ∧ (Below w.heap.size w w')) ?_ ?_
         rotate_left
         · intro hCont
           refine two_ (i := 26) (j := 30) (Ni := some 105) (Nj := some 13) #[true, true, true, true, true, true, true, true, true, true, true, true, true, true, true, true, true, true, true, true, true, true, true, true, true, true, true, false, false, false, false, false, false] #[true, true, true, true, true, true, true, true, true, true, true, true, true, true, true, true, true, true, true, true, true, true, true, true, true, true, false, false, false, false, true, false, false] rfl rfl rfl rfl (two_of HT_.out kR) (by decide) (by decide) (fun K hK => ?_) (fun K hK => ?_)
           · skip
             refine goes_ Try.func65 kR rfl #[.string (((((((rdOf ByteArray.empty t385 (ji33)) ++ (⟨#[32]⟩ : ByteArray)) ++ (rdOf ByteArray.empty t385 (ji37))) ++ (⟨#[32]⟩ : ByteArray)) ++ (rdOf ByteArray.empty t385 (ji42))) ++ (⟨#[32]⟩ : ByteArray)) ++ (rdOf ByteArray.empty t385 (ji47)))] (by rfl) rfl rfl (by (try simp only [List.map_toArray, List.map_cons, List.map_nil]); first | done | (simp only [hji33, hji37, hji42, hji47]; rfl) | rfl | (simp only [List.length_drop, List.length_take]; rfl)) ?_
             with_reducible refine (hurdleref08_Parse.calls k3 (((((((rdOf ByteArray.empty t385 (ji33)) ++ (⟨#[32]⟩ : ByteArray)) ++ (rdOf ByteArray.empty t385 (ji37))) ++ (⟨#[32]⟩ : ByteArray)) ++ (rdOf ByteArray.empty t385 (ji42))) ++ (⟨#[32]⟩ : ByteArray)) ++ (rdOf ByteArray.empty t385 (ji47))) t402 t403 t404 t405 false _ A51.out).mono ?_
             rintro e w71 ⟨rfl, hb⟩
             have HS0_ := (hb.cell (World.block_lt_of_cell? _ _ (hHeld.1))).trans (hHeld.1)
             have HS1_ := (hb.cell (World.block_lt_of_cell? _ _ (hHeld.2.1))).trans (hHeld.2.1)
             have HS2_ := (hb.cell (World.block_lt_of_cell? _ _ (hHeld.2.2.1))).trans (hHeld.2.2.1)
             have HS3_ := (hb.cell (World.block_lt_of_cell? _ _ (hHeld.2.2.2))).trans (hHeld.2.2.2)
             refine ⟨_, rfl, ?_⟩
             have n0_ := aM (Kd.R_below (rdS HO_4.out) hb)
             have n1_ := aM (Kd.R_below (rdS HO_389002.out) hb)
             have n2_ := aM (blk_below (g := gb384) (o := .cells #[.int .u32 x385000_3, .int .u32 x385001_3, .slice none 0 0, .int .u32 x385003_3] 40 (0, 0)) (bkS BK384.out) hb)
             have n3_ := aM (blk_below (g := gb388) (o := .cells #[.int .u32 t390, .int .u32 t393, u389002, .int .u32 t396] 40 (0, 0)) (bkS BK388.out) hb)
             have n4_ := aM (below_step (bl2 GE384.out GE388.out) hb)
             clear HO_4
             clear HO_389002
             clear BK384
             clear BK388
             clear HB
             have HO_4 := n0_
             have HO_389002 := n1_
             have BK384 := n2_
             have BK388 := n3_
             have HB := n4_
             clear n0_ n1_ n2_ n3_ n4_
             (try clear hb)
             (try clear hb2)
             (try clear hk)
             (try clear hi)
             refine hK.out _ _ ⟨HS0_, HS1_, HS2_, HS3_⟩ (fun hHeld => ?_)
             clear hK K
             refine norm_ (a' := ?_) ?_ ?_
             rotate_left
             · show Act.put _ (some 105) _ = _
               refine apW ?_
               rfl
             refine pure_ (i := 27) (N := some 78) (v := ?_) (a' := ?_) #[true, true, true, true, true, true, true, true, true, true, true, true, true, true, true, true, true, true, true, true, true, true, true, true, true, true, true, true, false, false, false, false, false] rfl rfl (any_of HT_.out kR) (fun _ _ _ h => h) (Or.inl ⟨by rfl, ?_⟩) ?_ ?_
             rotate_left
             · intro w'
               go_simp
               with_reducible rfl
             rotate_left
             · refine apW ?_
               rfl
             refine pure_ (i := 28) (N := some 106) (v := ?_) (a' := ?_) #[true, true, true, true, true, true, true, true, true, true, true, true, true, true, true, true, true, true, true, true, true, true, true, true, true, true, true, true, true, false, false, false, false] rfl rfl (any_of HT_.out kR) (fun _ _ _ h => h) (Or.inl ⟨by rfl, ?_⟩) ?_ ?_
             rotate_left
             · intro w'
               go_simp
               with_reducible rfl
             rotate_left
             · refine apW ?_
               rfl
             refine pure_ (i := 29) (N := some 107) (v := ?_) (a' := ?_) #[true, true, true, true, true, true, true, true, true, true, true, true, true, true, true, true, true, true, true, true, true, true, true, true, true, true, true, true, true, true, false, false, false] rfl rfl (any_of HT_.out kR) (fun _ _ _ h => h) (Or.inl ⟨by rfl, ?_⟩) ?_ ?_
             rotate_left
             · intro w'
               go_simp
               with_reducible rfl
             rotate_left
             · refine apW ?_
               rfl
             refine one_ (i := 30) (N := some 13) #[true, true, true, true, true, true, true, true, true, true, true, true, true, true, true, true, true, true, true, true, true, true, true, true, true, true, true, true, true, true, true, false, false] rfl rfl (one_of HT_.out kR) (by decide) (fun K hK => ?_)
             refine box_step ?hg (N := 13) ?hd (cs := #[.int .i64 0, .int .i64 0, .int .u64 0, .int .u64 0]) (t := 61) ?hr ?_; (case hd => rfl); (case hg => rfl); (case hr => first | (go_simp; done) | (go_simp; rfl))
             intro gb407 hg w72 hbox hb
             have HS0_ := (hb.cell (World.block_lt_of_cell? _ _ (hHeld.1))).trans (hHeld.1)
             have HS1_ := (hb.cell (World.block_lt_of_cell? _ _ (hHeld.2.1))).trans (hHeld.2.1)
             have HS2_ := (hb.cell (World.block_lt_of_cell? _ _ (hHeld.2.2.1))).trans (hHeld.2.2.1)
             have HS3_ := (hb.cell (World.block_lt_of_cell? _ _ (hHeld.2.2.2))).trans (hHeld.2.2.2)
             have n0_ := aM (Kd.R_below (rdS HO_4.out) hb)
             have n1_ := aM (Kd.R_below (Kd.R_elderB (rdS HO_389002.out) gb407 (Nat.le_of_eq hg.symm)) hb)
             have n2_ := aM (blk_below (g := gb384) (o := .cells #[.int .u32 x385000_3, .int .u32 x385001_3, .slice none 0 0, .int .u32 x385003_3] 40 (0, 0)) (bkS BK384.out) hb)
             have n3_ := aM (blk_below (g := gb388) (o := .cells #[.int .u32 t390, .int .u32 t393, u389002, .int .u32 t396] 40 (0, 0)) (bkS BK388.out) hb)
             have n4_ := aM (below_step (bl2 GE384.out GE388.out) hb)
             have n5_ := aM (hbox)
             have n6_ := aM ((by rw [hg]; exact (below_size (bl2 GE384.out GE388.out)) : w.heap.size ≤ gb407))
             have n7_ := aM ((by rw [hg]; exact (below_size (bl2 GE384.out GE388.out)) : w.heap.size ≤ gb407))
             have n8_ := aM ((by rw [hg]; exact Nat.ne_of_lt (blk_lt (g := gb384) (o := .cells #[.int .u32 x385000_3, .int .u32 x385001_3, .slice none 0 0, .int .u32 x385003_3] 40 (0, 0)) (bkS BK384.out)) : gb384 ≠ gb407))
             have n9_ := aM ((by rw [hg]; exact Nat.ne_of_gt (blk_lt (g := gb384) (o := .cells #[.int .u32 x385000_3, .int .u32 x385001_3, .slice none 0 0, .int .u32 x385003_3] 40 (0, 0)) (bkS BK384.out)) : gb407 ≠ gb384))
             have n10_ := aM ((by rw [hg]; exact Nat.ne_of_lt (blk_lt (g := gb388) (o := .cells #[.int .u32 t390, .int .u32 t393, u389002, .int .u32 t396] 40 (0, 0)) (bkS BK388.out)) : gb388 ≠ gb407))
             have n11_ := aM ((by rw [hg]; exact Nat.ne_of_gt (blk_lt (g := gb388) (o := .cells #[.int .u32 t390, .int .u32 t393, u389002, .int .u32 t396] 40 (0, 0)) (bkS BK388.out)) : gb407 ≠ gb388))
             clear HO_4
             clear HO_389002
             clear BK384
             clear BK388
             clear HB
             have HO_4 := n0_
             have HO_389002 := n1_
             have BK384 := n2_
             have BK388 := n3_
             have HB := n4_
             have BK407 := n5_
             have GW407 := n6_
             have GE407 := n7_
             have NB384_407 := n8_
             have NB407_384 := n9_
             have NB388_407 := n10_
             have NB407_388 := n11_
             clear n0_ n1_ n2_ n3_ n4_ n5_ n6_ n7_ n8_ n9_ n10_ n11_
             clear hb hbox hg
             refine hK.out _ _ ⟨HS0_, HS1_, HS2_, HS3_⟩ (fun hHeld => ?_)
             clear hK K
             refine norm_ (a' := ?_) ?_ ?_
             rotate_left
             · show Act.put _ (some 13) _ = _
               refine apW ?_
               rfl
             exact norm_ (by simp only [putAll, Act.put, List.setIfInBounds_toArray, List.set_cons_zero, List.set_cons_succ]) (hCont (gb407) _ ⟨hHeld, (by refine rdS ?_; exact Kd.R_mono HO_389002.out (fun _ hk => hk.2)), (rdS HO_4.out), (bkS BK384.out), (bkS BK388.out), (bkS BK407.out), GW407.out, GE407.out, NB384_407.out, NB407_384.out, NB388_407.out, NB407_388.out, (bl3 GE384.out GE388.out GE407.out)⟩)
           · skip
             refine box_step ?hg (N := 13) ?hd (cs := #[.int .i64 0, .int .i64 0, .int .u64 0, .int .u64 0]) (t := 61) ?hr ?_; (case hd => rfl); (case hg => rfl); (case hr => first | (go_simp; done) | (go_simp; rfl))
             intro gb407 hg w71 hbox hb
             have HS0_ := (hb.cell (World.block_lt_of_cell? _ _ (hHeld.1))).trans (hHeld.1)
             have HS1_ := (hb.cell (World.block_lt_of_cell? _ _ (hHeld.2.1))).trans (hHeld.2.1)
             have HS2_ := (hb.cell (World.block_lt_of_cell? _ _ (hHeld.2.2.1))).trans (hHeld.2.2.1)
             have HS3_ := (hb.cell (World.block_lt_of_cell? _ _ (hHeld.2.2.2))).trans (hHeld.2.2.2)
             have n0_ := aM (Kd.R_below (rdS HO_4.out) hb)
             have n1_ := aM (Kd.R_below (Kd.R_elderB (rdS HO_389002.out) gb407 (Nat.le_of_eq hg.symm)) hb)
             have n2_ := aM (blk_below (g := gb384) (o := .cells #[.int .u32 x385000_3, .int .u32 x385001_3, .slice none 0 0, .int .u32 x385003_3] 40 (0, 0)) (bkS BK384.out) hb)
             have n3_ := aM (blk_below (g := gb388) (o := .cells #[.int .u32 t390, .int .u32 t393, u389002, .int .u32 t396] 40 (0, 0)) (bkS BK388.out) hb)
             have n4_ := aM (below_step (bl2 GE384.out GE388.out) hb)
             have n5_ := aM (hbox)
             have n6_ := aM ((by rw [hg]; exact (below_size (bl2 GE384.out GE388.out)) : w.heap.size ≤ gb407))
             have n7_ := aM ((by rw [hg]; exact (below_size (bl2 GE384.out GE388.out)) : w.heap.size ≤ gb407))
             have n8_ := aM ((by rw [hg]; exact Nat.ne_of_lt (blk_lt (g := gb384) (o := .cells #[.int .u32 x385000_3, .int .u32 x385001_3, .slice none 0 0, .int .u32 x385003_3] 40 (0, 0)) (bkS BK384.out)) : gb384 ≠ gb407))
             have n9_ := aM ((by rw [hg]; exact Nat.ne_of_gt (blk_lt (g := gb384) (o := .cells #[.int .u32 x385000_3, .int .u32 x385001_3, .slice none 0 0, .int .u32 x385003_3] 40 (0, 0)) (bkS BK384.out)) : gb407 ≠ gb384))
             have n10_ := aM ((by rw [hg]; exact Nat.ne_of_lt (blk_lt (g := gb388) (o := .cells #[.int .u32 t390, .int .u32 t393, u389002, .int .u32 t396] 40 (0, 0)) (bkS BK388.out)) : gb388 ≠ gb407))
             have n11_ := aM ((by rw [hg]; exact Nat.ne_of_gt (blk_lt (g := gb388) (o := .cells #[.int .u32 t390, .int .u32 t393, u389002, .int .u32 t396] 40 (0, 0)) (bkS BK388.out)) : gb407 ≠ gb388))
             clear HO_4
             clear HO_389002
             clear BK384
             clear BK388
             clear HB
             have HO_4 := n0_
             have HO_389002 := n1_
             have BK384 := n2_
             have BK388 := n3_
             have HB := n4_
             have BK407 := n5_
             have GW407 := n6_
             have GE407 := n7_
             have NB384_407 := n8_
             have NB407_384 := n9_
             have NB388_407 := n10_
             have NB407_388 := n11_
             clear n0_ n1_ n2_ n3_ n4_ n5_ n6_ n7_ n8_ n9_ n10_ n11_
             clear hb hbox hg
             refine hK.out _ _ ⟨HS0_, HS1_, HS2_, HS3_⟩ (fun hHeld => ?_)
             clear hK K
             refine norm_ (a' := ?_) ?_ ?_
             rotate_left
             · show Act.put _ (some 13) _ = _
               refine apW ?_
               rfl
             refine one_ (i := 26) (N := some 105) #[true, true, true, true, true, true, true, true, true, true, true, true, true, true, true, true, true, true, true, true, true, true, true, true, true, true, true, false, false, false, true, false, false] rfl rfl (one_of HT_.out kR) (by decide) (fun K hK => ?_)
             refine goes_ Try.func65 kR rfl #[.string (((((((rdOf ByteArray.empty t385 (ji33)) ++ (⟨#[32]⟩ : ByteArray)) ++ (rdOf ByteArray.empty t385 (ji37))) ++ (⟨#[32]⟩ : ByteArray)) ++ (rdOf ByteArray.empty t385 (ji42))) ++ (⟨#[32]⟩ : ByteArray)) ++ (rdOf ByteArray.empty t385 (ji47)))] (by rfl) rfl rfl (by (try simp only [List.map_toArray, List.map_cons, List.map_nil]); first | done | (simp only [hji33, hji37, hji42, hji47]; rfl) | rfl | (simp only [List.length_drop, List.length_take]; rfl)) ?_
             with_reducible refine (hurdleref08_Parse.calls k3 (((((((rdOf ByteArray.empty t385 (ji33)) ++ (⟨#[32]⟩ : ByteArray)) ++ (rdOf ByteArray.empty t385 (ji37))) ++ (⟨#[32]⟩ : ByteArray)) ++ (rdOf ByteArray.empty t385 (ji42))) ++ (⟨#[32]⟩ : ByteArray)) ++ (rdOf ByteArray.empty t385 (ji47))) t402 t403 t404 t405 false _ A51.out).mono ?_
             rintro e w72 ⟨rfl, hb⟩
             have HS0_ := (hb.cell (World.block_lt_of_cell? _ _ (hHeld.1))).trans (hHeld.1)
             have HS1_ := (hb.cell (World.block_lt_of_cell? _ _ (hHeld.2.1))).trans (hHeld.2.1)
             have HS2_ := (hb.cell (World.block_lt_of_cell? _ _ (hHeld.2.2.1))).trans (hHeld.2.2.1)
             have HS3_ := (hb.cell (World.block_lt_of_cell? _ _ (hHeld.2.2.2))).trans (hHeld.2.2.2)
             refine ⟨_, rfl, ?_⟩
             have n0_ := aM (Kd.R_below (rdS HO_4.out) hb)
             have n1_ := aM (Kd.R_below (rdS HO_389002.out) hb)
             have n2_ := aM (blk_below (g := gb384) (o := .cells #[.int .u32 x385000_3, .int .u32 x385001_3, .slice none 0 0, .int .u32 x385003_3] 40 (0, 0)) (bkS BK384.out) hb)
             have n3_ := aM (blk_below (g := gb388) (o := .cells #[.int .u32 t390, .int .u32 t393, u389002, .int .u32 t396] 40 (0, 0)) (bkS BK388.out) hb)
             have n4_ := aM (blk_below (g := gb407) (o := .cells #[.int .i64 0, .int .i64 0, .int .u64 0, .int .u64 0] 61 (0, 0)) (bkS BK407.out) hb)
             have n5_ := aM (below_step (bl3 GE384.out GE388.out GE407.out) hb)
             clear HO_4
             clear HO_389002
             clear BK384
             clear BK388
             clear BK407
             clear HB
             have HO_4 := n0_
             have HO_389002 := n1_
             have BK384 := n2_
             have BK388 := n3_
             have BK407 := n4_
             have HB := n5_
             clear n0_ n1_ n2_ n3_ n4_ n5_
             (try clear hb)
             (try clear hb2)
             (try clear hk)
             (try clear hi)
             refine hK.out _ _ ⟨HS0_, HS1_, HS2_, HS3_⟩ (fun hHeld => ?_)
             clear hK K
             refine norm_ (a' := ?_) ?_ ?_
             rotate_left
             · show Act.put _ (some 105) _ = _
               refine apW ?_
               rfl
             refine pure_ (i := 27) (N := some 78) (v := ?_) (a' := ?_) #[true, true, true, true, true, true, true, true, true, true, true, true, true, true, true, true, true, true, true, true, true, true, true, true, true, true, true, true, false, false, true, false, false] rfl rfl (any_of HT_.out kR) (fun _ _ _ h => h) (Or.inl ⟨by rfl, ?_⟩) ?_ ?_
             rotate_left
             · intro w'
               go_simp
               with_reducible rfl
             rotate_left
             · refine apW ?_
               rfl
             refine pure_ (i := 28) (N := some 106) (v := ?_) (a' := ?_) #[true, true, true, true, true, true, true, true, true, true, true, true, true, true, true, true, true, true, true, true, true, true, true, true, true, true, true, true, true, false, true, false, false] rfl rfl (any_of HT_.out kR) (fun _ _ _ h => h) (Or.inl ⟨by rfl, ?_⟩) ?_ ?_
             rotate_left
             · intro w'
               go_simp
               with_reducible rfl
             rotate_left
             · refine apW ?_
               rfl
             refine pure_ (i := 29) (N := some 107) (v := ?_) (a' := ?_) #[true, true, true, true, true, true, true, true, true, true, true, true, true, true, true, true, true, true, true, true, true, true, true, true, true, true, true, true, true, true, true, false, false] rfl rfl (any_of HT_.out kR) (fun _ _ _ h => h) (Or.inl ⟨by rfl, ?_⟩) ?_ ?_
             rotate_left
             · intro w'
               go_simp
               with_reducible rfl
             rotate_left
             · refine apW ?_
               rfl
             exact norm_ (by simp only [putAll, Act.put, List.setIfInBounds_toArray, List.set_cons_zero, List.set_cons_succ]) (hCont (gb407) _ ⟨hHeld, (by refine rdS ?_; exact Kd.R_mono HO_389002.out (fun _ hk => hk.2)), (rdS HO_4.out), (bkS BK384.out), (bkS BK388.out), (bkS BK407.out), GW407.out, GE407.out, NB384_407.out, NB407_384.out, NB388_407.out, NB407_388.out, (bl3 GE384.out GE388.out GE407.out)⟩)
         rintro gb407 w73 ⟨hS_, h0_, h1_, h2_, h3_, h4_, h5_, h6_, h7_, h8_, h9_, h10_, h11_⟩
         have n0_ : Aside0 (Kd.R k61 61 w73 w.heap.size (fun k_ => k_ ≠ gb407) u389002 x389002_3) := ⟨h0_⟩
         have n1_ : Aside0 (Kd.R Kd.string 9 w73 w.heap.size (fun _ => True) (.slice (some ad389) t385.length co21) t385) := ⟨h1_⟩
         have n2_ : Aside0 (w73.heap[gb384]? = some (.cells #[.int .u32 x385000_3, .int .u32 x385001_3, .slice none 0 0, .int .u32 x385003_3] 40 (0, 0))) := ⟨h2_⟩
         have n3_ : Aside0 (w73.heap[gb388]? = some (.cells #[.int .u32 t390, .int .u32 t393, u389002, .int .u32 t396] 40 (0, 0))) := ⟨h3_⟩
         have n4_ : Aside0 (w73.heap[gb407]? = some (.cells #[.int .i64 0, .int .i64 0, .int .u64 0, .int .u64 0] 61 (0, 0))) := ⟨h4_⟩
         have n5_ : Aside0 (w.heap.size ≤ gb407) := ⟨h5_⟩
         have n6_ : Aside0 (w.heap.size ≤ gb407) := ⟨h6_⟩
         have n7_ : Aside0 (gb384 ≠ gb407) := ⟨h7_⟩
         have n8_ : Aside0 (gb407 ≠ gb384) := ⟨h8_⟩
         have n9_ : Aside0 (gb388 ≠ gb407) := ⟨h9_⟩
         have n10_ : Aside0 (gb407 ≠ gb388) := ⟨h10_⟩
         have n11_ : Aside0 (Below w.heap.size w w73) := ⟨h11_⟩
         clear HO_4
         clear HO_389002
         clear BK384
         clear BK388
         clear HB
         clear h0_ h1_ h2_ h3_ h4_ h5_ h6_ h7_ h8_ h9_ h10_ h11_
         have HO_389002 := n0_
         have HO_4 := n1_
         have BK384 := n2_
         have BK388 := n3_
         have BK407 := n4_
         have GW407 := n5_
         have GE407 := n6_
         have NB384_407 := n7_
         have NB407_384 := n8_
         have NB388_407 := n9_
         have NB407_388 := n10_
         have HB := n11_
         clear n0_ n1_ n2_ n3_ n4_ n5_ n6_ n7_ n8_ n9_ n10_ n11_
         have hHeld : w73.cell? (ad389.add ((ji33)).toNat) = some (.string (rdOf ByteArray.empty t385 (ji33))) ∧ w73.cell? (ad389.add ((ji37)).toNat) = some (.string (rdOf ByteArray.empty t385 (ji37))) ∧ w73.cell? (ad389.add ((ji42)).toNat) = some (.string (rdOf ByteArray.empty t385 (ji42))) ∧ w73.cell? (ad389.add ((ji47)).toNat) = some (.string (rdOf ByteArray.empty t385 (ji47))) := hS_
         refine norm_ (a' := ?_) ?_ ?_
         rotate_left
         · simp only [putAll, Act.put, List.setIfInBounds_toArray, List.set_cons_zero, List.set_cons_succ]
           rfl
         refine one_ (i := 31) (N := none) #[true, true, true, true, true, true, true, true, true, true, true, true, true, true, true, true, true, true, true, true, true, true, true, true, true, true, true, true, true, true, true, true, false] rfl rfl (one_of HT_.out kR) (by decide) (fun K hK => ?_)
         have hs74 : w73.cell? ⟨gb407, 0, none⟩ = some (.int .i64 0) := (blk_cell BK407.out 0).trans rfl
         have hfs74 := blk_frozen BK407.out 0
         have hns74_0 := NB384_407.out
         have hns74_1 := NB388_407.out
         have hms74_0 := NB407_384.out
         have hms74_1 := NB407_388.out
         have hs75 : w73.cell? ⟨gb407, 1, none⟩ = some (.int .i64 0) := (blk_cell BK407.out 1).trans rfl
         have hfs75 := blk_frozen BK407.out 1
         have hns75_0 := NB384_407.out
         have hns75_1 := NB388_407.out
         have hms75_0 := NB407_384.out
         have hms75_1 := NB407_388.out
         have hs76 : w73.cell? ⟨gb407, 2, none⟩ = some (.int .u64 0) := (blk_cell BK407.out 2).trans rfl
         have hfs76 := blk_frozen BK407.out 2
         have hns76_0 := NB384_407.out
         have hns76_1 := NB388_407.out
         have hms76_0 := NB407_384.out
         have hms76_1 := NB407_388.out
         have hs77 : w73.cell? ⟨gb407, 3, none⟩ = some (.int .u64 0) := (blk_cell BK407.out 3).trans rfl
         have hfs77 := blk_frozen BK407.out 3
         have hns77_0 := NB384_407.out
         have hns77_1 := NB388_407.out
         have hms77_0 := NB407_384.out
         have hms77_1 := NB407_388.out
         refine skip_ (w1 := ?_) (by rfl) rfl ?_ ?_
         rotate_left
         · go_simp
           rfl
         refine hK.out _ _ ⟨((cell_far (p := ⟨gb407, _, none⟩) (owA (Kd.own_blk (Kd.R_ne HO_4.out BK407.out (by decide)))) _).trans (((cell_far (p := ⟨gb407, _, none⟩) (owA (Kd.own_blk (Kd.R_ne HO_4.out BK407.out (by decide)))) _).trans (((cell_far (p := ⟨gb407, _, none⟩) (owA (Kd.own_blk (Kd.R_ne HO_4.out BK407.out (by decide)))) _).trans (((cell_far (p := ⟨gb407, _, none⟩) (owA (Kd.own_blk (Kd.R_ne HO_4.out BK407.out (by decide)))) _).trans (hHeld.1)))))))), ((cell_far (p := ⟨gb407, _, none⟩) (owA (Kd.own_blk (Kd.R_ne HO_4.out BK407.out (by decide)))) _).trans (((cell_far (p := ⟨gb407, _, none⟩) (owA (Kd.own_blk (Kd.R_ne HO_4.out BK407.out (by decide)))) _).trans (((cell_far (p := ⟨gb407, _, none⟩) (owA (Kd.own_blk (Kd.R_ne HO_4.out BK407.out (by decide)))) _).trans (((cell_far (p := ⟨gb407, _, none⟩) (owA (Kd.own_blk (Kd.R_ne HO_4.out BK407.out (by decide)))) _).trans (hHeld.2.1)))))))), ((cell_far (p := ⟨gb407, _, none⟩) (owA (Kd.own_blk (Kd.R_ne HO_4.out BK407.out (by decide)))) _).trans (((cell_far (p := ⟨gb407, _, none⟩) (owA (Kd.own_blk (Kd.R_ne HO_4.out BK407.out (by decide)))) _).trans (((cell_far (p := ⟨gb407, _, none⟩) (owA (Kd.own_blk (Kd.R_ne HO_4.out BK407.out (by decide)))) _).trans (((cell_far (p := ⟨gb407, _, none⟩) (owA (Kd.own_blk (Kd.R_ne HO_4.out BK407.out (by decide)))) _).trans (hHeld.2.2.1)))))))), ((cell_far (p := ⟨gb407, _, none⟩) (owA (Kd.own_blk (Kd.R_ne HO_4.out BK407.out (by decide)))) _).trans (((cell_far (p := ⟨gb407, _, none⟩) (owA (Kd.own_blk (Kd.R_ne HO_4.out BK407.out (by decide)))) _).trans (((cell_far (p := ⟨gb407, _, none⟩) (owA (Kd.own_blk (Kd.R_ne HO_4.out BK407.out (by decide)))) _).trans (((cell_far (p := ⟨gb407, _, none⟩) (owA (Kd.own_blk (Kd.R_ne HO_4.out BK407.out (by decide)))) _).trans (hHeld.2.2.2))))))))⟩ (fun hHeld => ?_)
         clear hK K
         refine pure_ (i := 32) (N := some 14) (v := ?_) (a' := ?_) #[true, true, true, true, true, true, true, true, true, true, true, true, true, true, true, true, true, true, true, true, true, true, true, true, true, true, true, true, true, true, true, true, true] rfl rfl (any_of HT_.out kR) (fun _ _ _ h => h) (Or.inl ⟨by rfl, ?_⟩) ?_ ?_
         rotate_left
         · intro w'
           go_simp
           with_reducible rfl
         rotate_left
         · refine apW ?_
           rfl
         refine done_ (done_of HT_.out kR) ?_
         have hnb78 := NB384_388.out
         have hnc78 := NB388_384.out
         have hnb79 := NB384_407.out
         have hnc79 := NB407_384.out
         have hcz80_0 : w73.cell? ⟨gb384, 0, none⟩ = some (.int .u32 x385000_3) := (blk_cell BK384.out 0).trans rfl
         have hcz80_1 : w73.cell? ⟨gb384, 1, none⟩ = some (.int .u32 x385001_3) := (blk_cell BK384.out 1).trans rfl
         have hcz80_2 : w73.cell? ⟨gb384, 2, none⟩ = some (.slice none 0 0) := (blk_cell BK384.out 2).trans rfl
         have hcz80_3 : w73.cell? ⟨gb384, 3, none⟩ = some (.int .u32 x385003_3) := (blk_cell BK384.out 3).trans rfl
         have hfz80_0 := blk_frozen BK384.out 0
         have hfz80_1 := blk_frozen BK384.out 1
         have hfz80_2 := blk_frozen BK384.out 2
         have hfz80_3 := blk_frozen BK384.out 3
         go_wp2_with (first | ((with_reducible refine bpI ?_); refine bodyPost_ret (results_ct rfl _ _ gb384 40 #[.int .u32 0, .int .u32 0, .slice none 0 0, .int .u32 0] (0, 0) _ rfl (by refine bkS ?_; refine blk_put (cs := #[.int .u32 0, .int .u32 0, .slice none 0 0, .int .u32 x385003_3]) ?_ 3 _ rfl; refine bkS ?_; refine blk_put (cs := #[.int .u32 0, .int .u32 0, .slice none 0 0, .int .u32 x385003_3]) ?_ 2 _ rfl; refine bkS ?_; refine blk_put (cs := #[.int .u32 0, .int .u32 x385001_3, .slice none 0 0, .int .u32 x385003_3]) ?_ 1 _ rfl; refine bkS ?_; refine blk_put (cs := #[.int .u32 x385000_3, .int .u32 x385001_3, .slice none 0 0, .int .u32 x385003_3]) ?_ 0 _ rfl; refine bkS ?_; refine blk_far ?_ NB384_407.out _; refine bkS ?_; refine blk_far ?_ NB384_407.out _; refine bkS ?_; refine blk_far ?_ NB384_407.out _; refine bkS ?_; refine blk_far ?_ NB384_407.out _; refine bkS ?_; exact BK384.out) Try.underlying40 rfl kR) rfl ?_; exact ⟨_, by first | rfl | (simp [errW_none, errW_some] <;> rfl) | (simp only [← hji33, ← hji37, ← hji42, ← hji47]; first | rfl | (simp [errW_none, errW_some] <;> rfl)) | (simp [*, errW_none, errW_some] <;> rfl), by first | exact Kd.R_nil _ _ _ _ _ | exact Kd.N_nil _ _ _ _ _ | exact Kd.V_nil _ _ _ _ _ | exact Kd.Q_nil _ _ _ _ _ | exact Kd.S_nil _ _ _ _ _, bl3 GE384.out GE388.out GE407.out⟩) | go_in)
       subst c52
       have H1 : (if x389002_3.length < 4398046511104 then (hurdleref10_Read.l0 k3 a0 t385 (wrap64 (x12_3 + 5)) t390 t393 (x389002_3 ++ [(⟨t402, t403, t404, t405⟩ : S61)]) t396) else (none)) = some (r1, r2, r3, r4, r5) := by rw [if_pos rfl] at H; exact H
       clear H
       have H := H1
       clear H1
       by_cases c53 : x389002_3.length < 4398046511104
       rotate_left
       · rw [if_neg c53] at H
         exact absurd H (by simp)
       rw [if_pos c53] at H
       have LMc53 := aM c53
       clear c53
       obtain ⟨y408, hy408⟩ : ∃ y_ : List (S61), y_ = (x389002_3 ++ [(⟨t402, t403, t404, t405⟩ : S61)]) := ⟨_, rfl⟩
       replace H : (hurdleref10_Read.l0 k3 a0 t385 (wrap64 (x12_3 + 5)) t390 t393 y408 t396) = some (r1, r2, r3, r4, r5) := by first | (rw [hy408]; with_reducible exact H) | (have H2_ := (Option.bind_some _ _).symm.trans H; rw [hy408]; with_reducible exact H2_) | (have H2_ := (Option.bind_some _ _).symm.trans H; with_reducible exact H2_) | with_reducible exact H | (rw [hy408]; exact H) | exact H
       have Ny408 := aM hy408
       clear hy408
       have H' := aM H
       clear H
       try go_wp2
       have n0_ := aM (Kd.R_drew HO_4.out)
       have n1_ := aM (Kd.R_drew HO_389002.out)
       have n2_ := aM (blk_drew BK384.out)
       have n3_ := aM (blk_drew BK388.out)
       have n4_ := aM (below_drew1 HB.out)
       clear HO_4
       clear HO_389002
       clear BK384
       clear BK388
       clear HB
       have HO_4 := n0_
       have HO_389002 := n1_
       have BK384 := n2_
       have BK388 := n3_
       have HB := n4_
       clear n0_ n1_ n2_ n3_ n4_
       have p398 : 0 ≤ ((ji33) : Int) := of_decide_eq_true as_
       have q398 : (ji33) < (t385.length : Int) := of_decide_eq_true as_
       obtain ⟨ad398, e398, hx398_0⟩ := Kd.at_string (Kd.R_reads' HO_4.out).2.2 (ji33) p398 q398
       obtain rfl : ad389 = ad398 := (by injection e398)
       replace p398 := eq_true p398
       replace q398 := eq_true q398
       have p399 : 0 ≤ ((ji37) : Int) := of_decide_eq_true as_
       have q399 : (ji37) < (t385.length : Int) := of_decide_eq_true as_
       obtain ⟨ad399, e399, hx399_0⟩ := Kd.at_string (Kd.R_reads' HO_4.out).2.2 (ji37) p399 q399
       obtain rfl : ad389 = ad399 := (by injection e399)
       replace p399 := eq_true p399
       replace q399 := eq_true q399
       have p400 : 0 ≤ ((ji42) : Int) := of_decide_eq_true as_
       have q400 : (ji42) < (t385.length : Int) := of_decide_eq_true as_
       obtain ⟨ad400, e400, hx400_0⟩ := Kd.at_string (Kd.R_reads' HO_4.out).2.2 (ji42) p400 q400
       obtain rfl : ad389 = ad400 := (by injection e400)
       replace p400 := eq_true p400
       replace q400 := eq_true q400
       have p401 : 0 ≤ ((ji47) : Int) := of_decide_eq_true as_
       have q401 : (ji47) < (t385.length : Int) := of_decide_eq_true as_
       obtain ⟨ad401, e401, hx401_0⟩ := Kd.at_string (Kd.R_reads' HO_4.out).2.2 (ji47) p401 q401
       obtain rfl : ad389 = ad401 := (by injection e401)
       replace p401 := eq_true p401
       replace q401 := eq_true q401
       refine start_ (n := 33) (S := fun w' => w'.cell? (ad389.add ((ji33)).toNat) = some (.string (rdOf ByteArray.empty t385 (ji33))) ∧ w'.cell? (ad389.add ((ji37)).toNat) = some (.string (rdOf ByteArray.empty t385 (ji37))) ∧ w'.cell? (ad389.add ((ji42)).toNat) = some (.string (rdOf ByteArray.empty t385 (ji42))) ∧ w'.cell? (ad389.add ((ji47)).toNat) = some (.string (rdOf ByteArray.empty t385 (ji47)))) (ds := []) #[false, false, false, false, false, false, false, false, false, false, false, false, false, false, false, false, false, false, false, false, false, false, false, false, false, false, false, false, false, false, false, false, false] kR rfl rfl ⟨hx398_0, hx399_0, hx400_0, hx401_0⟩ (fun hHeld => ?_); refine with_tabW hurdleref10_Read.tab16 hurdleref10_Read.bits16 (fun HT_ HW_ => ?_)
       generalize wr.drew = w54 at HO_4 HO_389002 BK384 BK388 HB hx398_0 hx399_0 hx400_0 hx401_0 hHeld ⊢
       refine pure_ (i := 0) (N := some 79) (v := ?_) (a' := ?_) #[true, false, false, false, false, false, false, false, false, false, false, false, false, false, false, false, false, false, false, false, false, false, false, false, false, false, false, false, false, false, false, false, false] rfl rfl (any_of HT_.out kR) (fun _ _ _ h => h) (Or.inl ⟨by rfl, ?_⟩) ?_ ?_
       rotate_left
       · intro w'
         go_simp
         with_reducible rfl
       rotate_left
       · refine apW ?_
         rfl
       refine pure_ (i := 1) (N := some 80) (v := ?_) (a' := ?_) #[true, true, false, false, false, false, false, false, false, false, false, false, false, false, false, false, false, false, false, false, false, false, false, false, false, false, false, false, false, false, false, false, false] rfl rfl (any_of HT_.out kR) (fun _ _ _ h => h) (Or.inl ⟨by rfl, ?_⟩) ?_ ?_
       rotate_left
       · intro w'
         go_simp
         with_reducible rfl
       rotate_left
       · refine apW ?_
         rfl
       refine pure_ (i := 2) (N := some 81) (v := ?_) (a' := ?_) #[true, true, true, false, false, false, false, false, false, false, false, false, false, false, false, false, false, false, false, false, false, false, false, false, false, false, false, false, false, false, false, false, false] rfl rfl (any_of HT_.out kR) (fun _ _ _ h => h) (Or.inl ⟨by rfl, ?_⟩) ?_ ?_
       rotate_left
       · intro w'
         go_simp
         with_reducible rfl
       rotate_left
       · refine apW ?_
         rfl
       refine pure_ (i := 3) (N := some 82) (v := ?_) (a' := ?_) #[true, true, true, true, false, false, false, false, false, false, false, false, false, false, false, false, false, false, false, false, false, false, false, false, false, false, false, false, false, false, false, false, false] rfl rfl (any_of HT_.out kR) (fun _ _ _ h => h) (Or.inl ⟨by rfl, ?_⟩) ?_ ?_
       rotate_left
       · intro w'
         go_simp
         with_reducible rfl
       rotate_left
       · refine apW ?_
         rfl
       refine pure_ (i := 6) (N := some 85) (v := ?_) (a' := ?_) #[true, true, true, true, false, false, true, false, false, false, false, false, false, false, false, false, false, false, false, false, false, false, false, false, false, false, false, false, false, false, false, false, false] rfl rfl (any_of HT_.out kR) (fun _ _ _ h => h) (Or.inl ⟨by rfl, ?_⟩) ?_ ?_
       rotate_left
       · intro w'
         go_simp
         with_reducible rfl
       rotate_left
       · refine apW ?_
         rfl
       refine pure_ (i := 7) (N := some 86) (v := ?_) (a' := ?_) #[true, true, true, true, false, false, true, true, false, false, false, false, false, false, false, false, false, false, false, false, false, false, false, false, false, false, false, false, false, false, false, false, false] rfl rfl (any_of HT_.out kR) (fun _ _ _ h => h) (Or.inl ⟨by rfl, ?_⟩) ?_ ?_
       rotate_left
       · intro w'
         go_simp
         with_reducible rfl
       rotate_left
       · refine apW ?_
         rfl
       refine pure_ (i := 8) (N := some 87) (v := ?_) (a' := ?_) #[true, true, true, true, false, false, true, true, true, false, false, false, false, false, false, false, false, false, false, false, false, false, false, false, false, false, false, false, false, false, false, false, false] rfl rfl (any_of HT_.out kR) (fun _ _ _ h => h) (Or.inl ⟨by rfl, ?_⟩) ?_ ?_
       rotate_left
       · intro w'
         go_simp
         with_reducible rfl
       rotate_left
       · refine apW ?_
         rfl
       refine pure_ (i := 9) (N := some 88) (v := ?_) (a' := ?_) #[true, true, true, true, false, false, true, true, true, true, false, false, false, false, false, false, false, false, false, false, false, false, false, false, false, false, false, false, false, false, false, false, false] rfl rfl (any_of HT_.out kR) (fun _ _ _ h => h) (Or.inl ⟨by rfl, ?_⟩) ?_ ?_
       rotate_left
       · intro w'
         go_simp
         with_reducible rfl
       rotate_left
       · refine apW ?_
         rfl
       refine pure_ (i := 13) (N := some 92) (v := ?_) (a' := ?_) #[true, true, true, true, false, false, true, true, true, true, false, false, false, true, false, false, false, false, false, false, false, false, false, false, false, false, false, false, false, false, false, false, false] rfl rfl (any_of HT_.out kR) (fun _ _ _ h => h) (Or.inl ⟨by rfl, ?_⟩) ?_ ?_
       rotate_left
       · intro w'
         go_simp
         with_reducible rfl
       rotate_left
       · refine apW ?_
         rfl
       refine pure_ (i := 14) (N := some 93) (v := ?_) (a' := ?_) #[true, true, true, true, false, false, true, true, true, true, false, false, false, true, true, false, false, false, false, false, false, false, false, false, false, false, false, false, false, false, false, false, false] rfl rfl (any_of HT_.out kR) (fun _ _ _ h => h) (Or.inl ⟨by rfl, ?_⟩) ?_ ?_
       rotate_left
       · intro w'
         go_simp
         with_reducible rfl
       rotate_left
       · refine apW ?_
         rfl
       refine pure_ (i := 15) (N := some 94) (v := ?_) (a' := ?_) #[true, true, true, true, false, false, true, true, true, true, false, false, false, true, true, true, false, false, false, false, false, false, false, false, false, false, false, false, false, false, false, false, false] rfl rfl (any_of HT_.out kR) (fun _ _ _ h => h) (Or.inl ⟨by rfl, ?_⟩) ?_ ?_
       rotate_left
       · intro w'
         go_simp
         with_reducible rfl
       rotate_left
       · refine apW ?_
         rfl
       refine pure_ (i := 16) (N := some 95) (v := ?_) (a' := ?_) #[true, true, true, true, false, false, true, true, true, true, false, false, false, true, true, true, true, false, false, false, false, false, false, false, false, false, false, false, false, false, false, false, false] rfl rfl (any_of HT_.out kR) (fun _ _ _ h => h) (Or.inl ⟨by rfl, ?_⟩) ?_ ?_
       rotate_left
       · intro w'
         go_simp
         with_reducible rfl
       rotate_left
       · refine apW ?_
         rfl
       refine pure_ (i := 20) (N := some 99) (v := ?_) (a' := ?_) #[true, true, true, true, false, false, true, true, true, true, false, false, false, true, true, true, true, false, false, false, true, false, false, false, false, false, false, false, false, false, false, false, false] rfl rfl (any_of HT_.out kR) (fun _ _ _ h => h) (Or.inl ⟨by rfl, ?_⟩) ?_ ?_
       rotate_left
       · intro w'
         go_simp
         with_reducible rfl
       rotate_left
       · refine apW ?_
         rfl
       refine pure_ (i := 21) (N := some 100) (v := ?_) (a' := ?_) #[true, true, true, true, false, false, true, true, true, true, false, false, false, true, true, true, true, false, false, false, true, true, false, false, false, false, false, false, false, false, false, false, false] rfl rfl (any_of HT_.out kR) (fun _ _ _ h => h) (Or.inl ⟨by rfl, ?_⟩) ?_ ?_
       rotate_left
       · intro w'
         go_simp
         with_reducible rfl
       rotate_left
       · refine apW ?_
         rfl
       refine pure_ (i := 22) (N := some 101) (v := ?_) (a' := ?_) #[true, true, true, true, false, false, true, true, true, true, false, false, false, true, true, true, true, false, false, false, true, true, true, false, false, false, false, false, false, false, false, false, false] rfl rfl (any_of HT_.out kR) (fun _ _ _ h => h) (Or.inl ⟨by rfl, ?_⟩) ?_ ?_
       rotate_left
       · intro w'
         go_simp
         with_reducible rfl
       rotate_left
       · refine apW ?_
         rfl
       refine pure_ (i := 23) (N := some 102) (v := ?_) (a' := ?_) #[true, true, true, true, false, false, true, true, true, true, false, false, false, true, true, true, true, false, false, false, true, true, true, true, false, false, false, false, false, false, false, false, false] rfl rfl (any_of HT_.out kR) (fun _ _ _ h => h) (Or.inl ⟨by rfl, ?_⟩) ?_ ?_
       rotate_left
       · intro w'
         go_simp
         with_reducible rfl
       rotate_left
       · refine apW ?_
         rfl
       refine take_ (i := 4) (N := some 83) (v := ?_) (a' := ?_) #[true, true, true, true, true, false, true, true, true, true, false, false, false, true, true, true, true, false, false, false, true, true, true, true, false, false, false, false, false, false, false, false, false] rfl rfl (take_ofW HT_.out HW_.out kR) (fun _ _ _ h => h) (Or.inl ⟨by rfl, ?_⟩) hHeld ?_ ?_
       rotate_left
       · rintro w' ⟨s0, s1, s2, s3⟩
         go_simp
         with_reducible rfl
       rotate_left
       · refine apW ?_
         rfl
       refine pure_ (i := 5) (N := some 84) (v := ?_) (a' := ?_) #[true, true, true, true, true, true, true, true, true, true, false, false, false, true, true, true, true, false, false, false, true, true, true, true, false, false, false, false, false, false, false, false, false] rfl rfl (any_of HT_.out kR) (fun _ _ _ h => h) (Or.inl ⟨by rfl, ?_⟩) ?_ ?_
       rotate_left
       · intro w'
         go_simp
         with_reducible rfl
       rotate_left
       · refine apW ?_
         rfl
       refine take_ (i := 10) (N := some 89) (v := ?_) (a' := ?_) #[true, true, true, true, true, true, true, true, true, true, true, false, false, true, true, true, true, false, false, false, true, true, true, true, false, false, false, false, false, false, false, false, false] rfl rfl (take_ofW HT_.out HW_.out kR) (fun _ _ _ h => h) (Or.inl ⟨by rfl, ?_⟩) hHeld ?_ ?_
       rotate_left
       · rintro w' ⟨s0, s1, s2, s3⟩
         go_simp
         with_reducible rfl
       rotate_left
       · refine apW ?_
         rfl
       refine pure_ (i := 11) (N := some 90) (v := ?_) (a' := ?_) #[true, true, true, true, true, true, true, true, true, true, true, true, false, true, true, true, true, false, false, false, true, true, true, true, false, false, false, false, false, false, false, false, false] rfl rfl (any_of HT_.out kR) (fun _ _ _ h => h) (Or.inl ⟨by rfl, ?_⟩) ?_ ?_
       rotate_left
       · intro w'
         go_simp
         with_reducible rfl
       rotate_left
       · refine apW ?_
         rfl
       refine pure_ (i := 12) (N := some 91) (v := ?_) (a' := ?_) #[true, true, true, true, true, true, true, true, true, true, true, true, true, true, true, true, true, false, false, false, true, true, true, true, false, false, false, false, false, false, false, false, false] rfl rfl (any_of HT_.out kR) (fun _ _ _ h => h) (Or.inl ⟨by rfl, ?_⟩) ?_ ?_
       rotate_left
       · intro w'
         go_simp
         with_reducible rfl
       rotate_left
       · refine apW ?_
         rfl
       refine take_ (i := 17) (N := some 96) (v := ?_) (a' := ?_) #[true, true, true, true, true, true, true, true, true, true, true, true, true, true, true, true, true, true, false, false, true, true, true, true, false, false, false, false, false, false, false, false, false] rfl rfl (take_ofW HT_.out HW_.out kR) (fun _ _ _ h => h) (Or.inl ⟨by rfl, ?_⟩) hHeld ?_ ?_
       rotate_left
       · rintro w' ⟨s0, s1, s2, s3⟩
         go_simp
         with_reducible rfl
       rotate_left
       · refine apW ?_
         rfl
       refine pure_ (i := 18) (N := some 97) (v := ?_) (a' := ?_) #[true, true, true, true, true, true, true, true, true, true, true, true, true, true, true, true, true, true, true, false, true, true, true, true, false, false, false, false, false, false, false, false, false] rfl rfl (any_of HT_.out kR) (fun _ _ _ h => h) (Or.inl ⟨by rfl, ?_⟩) ?_ ?_
       rotate_left
       · intro w'
         go_simp
         with_reducible rfl
       rotate_left
       · refine apW ?_
         rfl
       refine pure_ (i := 19) (N := some 98) (v := ?_) (a' := ?_) #[true, true, true, true, true, true, true, true, true, true, true, true, true, true, true, true, true, true, true, true, true, true, true, true, false, false, false, false, false, false, false, false, false] rfl rfl (any_of HT_.out kR) (fun _ _ _ h => h) (Or.inl ⟨by rfl, ?_⟩) ?_ ?_
       rotate_left
       · intro w'
         go_simp
         with_reducible rfl
       rotate_left
       · refine apW ?_
         rfl
       refine take_ (i := 24) (N := some 103) (v := ?_) (a' := ?_) #[true, true, true, true, true, true, true, true, true, true, true, true, true, true, true, true, true, true, true, true, true, true, true, true, true, false, false, false, false, false, false, false, false] rfl rfl (take_ofW HT_.out HW_.out kR) (fun _ _ _ h => h) (Or.inl ⟨by rfl, ?_⟩) hHeld ?_ ?_
       rotate_left
       · rintro w' ⟨s0, s1, s2, s3⟩
         go_simp
         with_reducible rfl
       rotate_left
       · refine apW ?_
         rfl
       refine pure_ (i := 25) (N := some 104) (v := ?_) (a' := ?_) #[true, true, true, true, true, true, true, true, true, true, true, true, true, true, true, true, true, true, true, true, true, true, true, true, true, true, false, false, false, false, false, false, false] rfl rfl (any_of HT_.out kR) (fun _ _ _ h => h) (Or.inl ⟨by rfl, ?_⟩) ?_ ?_
       rotate_left
       · intro w'
         go_simp
         with_reducible rfl
       rotate_left
       · refine apW ?_
         rfl
       refine join_ (σ := Nat) 2 #[true, true, true, true, true, true, true, true, true, true, true, true, true, true, true, true, true, true, true, true, true, true, true, true, true, true, true, true, true, true, true, false, false] (fun s_ => [(105, .tuple #[.agg #[.int .i64 t402, .int .i64 t403, .int .u64 t404, .int .u64 t405], .bool true]), (13, .pointer (some ⟨s_, 0, none⟩)), (78, .tuple #[.agg #[.int .i64 t402, .int .i64 t403, .int .u64 t404, .int .u64 t405], .bool true]), (106, .agg #[.int .i64 t402, .int .i64 t403, .int .u64 t404, .int .u64 t405]), (107, .bool true)]) (fun s_ w' => (w'.cell? (ad389.add ((ji33)).toNat) = some (.string (rdOf ByteArray.empty t385 (ji33))) ∧ w'.cell? (ad389.add ((ji37)).toNat) = some (.string (rdOf ByteArray.empty t385 (ji37))) ∧ w'.cell? (ad389.add ((ji42)).toNat) = some (.string (rdOf ByteArray.empty t385 (ji42))) ∧ w'.cell? (ad389.add ((ji47)).toNat) = some (.string (rdOf ByteArray.empty t385 (ji47)))) ∧ (Kd.R k61 61 w' w.heap.size (fun k_ => k_ ≠ s_) u389002 x389002_3) ∧ (Kd.R Kd.string 9 w' w.heap.size (fun _ => True) (.slice (some ad389) t385.length co21) t385) ∧ (w'.heap[gb384]? = some (.cells #[.int .u32 x385000_3, .int .u32 x385001_3, .slice none 0 0, .int .u32 x385003_3] 40 (0, 0))) ∧ (w'.heap[gb388]? = some (.cells #[.int .u32 t390, .int .u32 t393, u389002, .int .u32 t396] 40 (0, 0))) ∧ (w'.heap[s_]? = some (.cells #[.int .i64 0, .int .i64 0, .int .u64 0, .int .u64 0] 61 (0, 0))) ∧ (w.heap.size ≤ s_) ∧ (w.heap.size ≤ s_) ∧ (gb384 ≠ s_) ∧ (s_ ≠ gb384) ∧ (gb388 ≠ s_) ∧ (s_ ≠ gb388) ∧ (Below w.heap.size w w')) ?_ ?_
       rotate_left
       · intro hCont
         refine two_ (i := 26) (j := 30) (Ni := some 105) (Nj := some 13) #[true, true, true, true, true, true, true, true, true, true, true, true, true, true, true, true, true, true, true, true, true, true, true, true, true, true, true, false, false, false, false, false, false] #[true, true, true, true, true, true, true, true, true, true, true, true, true, true, true, true, true, true, true, true, true, true, true, true, true, true, false, false, false, false, true, false, false] rfl rfl rfl rfl (two_of HT_.out kR) (by decide) (by decide) (fun K hK => ?_) (fun K hK => ?_)
         · skip
           refine goes_ Try.func65 kR rfl #[.string (((((((rdOf ByteArray.empty t385 (ji33)) ++ (⟨#[32]⟩ : ByteArray)) ++ (rdOf ByteArray.empty t385 (ji37))) ++ (⟨#[32]⟩ : ByteArray)) ++ (rdOf ByteArray.empty t385 (ji42))) ++ (⟨#[32]⟩ : ByteArray)) ++ (rdOf ByteArray.empty t385 (ji47)))] (by rfl) rfl rfl (by (try simp only [List.map_toArray, List.map_cons, List.map_nil]); first | done | (simp only [hji33, hji37, hji42, hji47]; rfl) | rfl | (simp only [List.length_drop, List.length_take]; rfl)) ?_
           with_reducible refine (hurdleref08_Parse.calls k3 (((((((rdOf ByteArray.empty t385 (ji33)) ++ (⟨#[32]⟩ : ByteArray)) ++ (rdOf ByteArray.empty t385 (ji37))) ++ (⟨#[32]⟩ : ByteArray)) ++ (rdOf ByteArray.empty t385 (ji42))) ++ (⟨#[32]⟩ : ByteArray)) ++ (rdOf ByteArray.empty t385 (ji47))) t402 t403 t404 t405 true _ A51.out).mono ?_
           rintro e w55 ⟨rfl, hb⟩
           have HS0_ := (hb.cell (World.block_lt_of_cell? _ _ (hHeld.1))).trans (hHeld.1)
           have HS1_ := (hb.cell (World.block_lt_of_cell? _ _ (hHeld.2.1))).trans (hHeld.2.1)
           have HS2_ := (hb.cell (World.block_lt_of_cell? _ _ (hHeld.2.2.1))).trans (hHeld.2.2.1)
           have HS3_ := (hb.cell (World.block_lt_of_cell? _ _ (hHeld.2.2.2))).trans (hHeld.2.2.2)
           refine ⟨_, rfl, ?_⟩
           have n0_ := aM (Kd.R_below (rdS HO_4.out) hb)
           have n1_ := aM (Kd.R_below (rdS HO_389002.out) hb)
           have n2_ := aM (blk_below (g := gb384) (o := .cells #[.int .u32 x385000_3, .int .u32 x385001_3, .slice none 0 0, .int .u32 x385003_3] 40 (0, 0)) (bkS BK384.out) hb)
           have n3_ := aM (blk_below (g := gb388) (o := .cells #[.int .u32 t390, .int .u32 t393, u389002, .int .u32 t396] 40 (0, 0)) (bkS BK388.out) hb)
           have n4_ := aM (below_step (bl2 GE384.out GE388.out) hb)
           clear HO_4
           clear HO_389002
           clear BK384
           clear BK388
           clear HB
           have HO_4 := n0_
           have HO_389002 := n1_
           have BK384 := n2_
           have BK388 := n3_
           have HB := n4_
           clear n0_ n1_ n2_ n3_ n4_
           (try clear hb)
           (try clear hb2)
           (try clear hk)
           (try clear hi)
           refine hK.out _ _ ⟨HS0_, HS1_, HS2_, HS3_⟩ (fun hHeld => ?_)
           clear hK K
           refine norm_ (a' := ?_) ?_ ?_
           rotate_left
           · show Act.put _ (some 105) _ = _
             refine apW ?_
             rfl
           refine pure_ (i := 27) (N := some 78) (v := ?_) (a' := ?_) #[true, true, true, true, true, true, true, true, true, true, true, true, true, true, true, true, true, true, true, true, true, true, true, true, true, true, true, true, false, false, false, false, false] rfl rfl (any_of HT_.out kR) (fun _ _ _ h => h) (Or.inl ⟨by rfl, ?_⟩) ?_ ?_
           rotate_left
           · intro w'
             go_simp
             with_reducible rfl
           rotate_left
           · refine apW ?_
             rfl
           refine pure_ (i := 28) (N := some 106) (v := ?_) (a' := ?_) #[true, true, true, true, true, true, true, true, true, true, true, true, true, true, true, true, true, true, true, true, true, true, true, true, true, true, true, true, true, false, false, false, false] rfl rfl (any_of HT_.out kR) (fun _ _ _ h => h) (Or.inl ⟨by rfl, ?_⟩) ?_ ?_
           rotate_left
           · intro w'
             go_simp
             with_reducible rfl
           rotate_left
           · refine apW ?_
             rfl
           refine pure_ (i := 29) (N := some 107) (v := ?_) (a' := ?_) #[true, true, true, true, true, true, true, true, true, true, true, true, true, true, true, true, true, true, true, true, true, true, true, true, true, true, true, true, true, true, false, false, false] rfl rfl (any_of HT_.out kR) (fun _ _ _ h => h) (Or.inl ⟨by rfl, ?_⟩) ?_ ?_
           rotate_left
           · intro w'
             go_simp
             with_reducible rfl
           rotate_left
           · refine apW ?_
             rfl
           refine one_ (i := 30) (N := some 13) #[true, true, true, true, true, true, true, true, true, true, true, true, true, true, true, true, true, true, true, true, true, true, true, true, true, true, true, true, true, true, true, false, false] rfl rfl (one_of HT_.out kR) (by decide) (fun K hK => ?_)
           refine box_step ?hg (N := 13) ?hd (cs := #[.int .i64 0, .int .i64 0, .int .u64 0, .int .u64 0]) (t := 61) ?hr ?_; (case hd => rfl); (case hg => rfl); (case hr => first | (go_simp; done) | (go_simp; rfl))
           intro gb407 hg w56 hbox hb
           have HS0_ := (hb.cell (World.block_lt_of_cell? _ _ (hHeld.1))).trans (hHeld.1)
           have HS1_ := (hb.cell (World.block_lt_of_cell? _ _ (hHeld.2.1))).trans (hHeld.2.1)
           have HS2_ := (hb.cell (World.block_lt_of_cell? _ _ (hHeld.2.2.1))).trans (hHeld.2.2.1)
           have HS3_ := (hb.cell (World.block_lt_of_cell? _ _ (hHeld.2.2.2))).trans (hHeld.2.2.2)
           have n0_ := aM (Kd.R_below (rdS HO_4.out) hb)
           have n1_ := aM (Kd.R_below (Kd.R_elderB (rdS HO_389002.out) gb407 (Nat.le_of_eq hg.symm)) hb)
           have n2_ := aM (blk_below (g := gb384) (o := .cells #[.int .u32 x385000_3, .int .u32 x385001_3, .slice none 0 0, .int .u32 x385003_3] 40 (0, 0)) (bkS BK384.out) hb)
           have n3_ := aM (blk_below (g := gb388) (o := .cells #[.int .u32 t390, .int .u32 t393, u389002, .int .u32 t396] 40 (0, 0)) (bkS BK388.out) hb)
           have n4_ := aM (below_step (bl2 GE384.out GE388.out) hb)
           have n5_ := aM (hbox)
           have n6_ := aM ((by rw [hg]; exact (below_size (bl2 GE384.out GE388.out)) : w.heap.size ≤ gb407))
           have n7_ := aM ((by rw [hg]; exact (below_size (bl2 GE384.out GE388.out)) : w.heap.size ≤ gb407))
           have n8_ := aM ((by rw [hg]; exact Nat.ne_of_lt (blk_lt (g := gb384) (o := .cells #[.int .u32 x385000_3, .int .u32 x385001_3, .slice none 0 0, .int .u32 x385003_3] 40 (0, 0)) (bkS BK384.out)) : gb384 ≠ gb407))
           have n9_ := aM ((by rw [hg]; exact Nat.ne_of_gt (blk_lt (g := gb384) (o := .cells #[.int .u32 x385000_3, .int .u32 x385001_3, .slice none 0 0, .int .u32 x385003_3] 40 (0, 0)) (bkS BK384.out)) : gb407 ≠ gb384))
           have n10_ := aM ((by rw [hg]; exact Nat.ne_of_lt (blk_lt (g := gb388) (o := .cells #[.int .u32 t390, .int .u32 t393, u389002, .int .u32 t396] 40 (0, 0)) (bkS BK388.out)) : gb388 ≠ gb407))
           have n11_ := aM ((by rw [hg]; exact Nat.ne_of_gt (blk_lt (g := gb388) (o := .cells #[.int .u32 t390, .int .u32 t393, u389002, .int .u32 t396] 40 (0, 0)) (bkS BK388.out)) : gb407 ≠ gb388))
           clear HO_4
           clear HO_389002
           clear BK384
           clear BK388
           clear HB
           have HO_4 := n0_
           have HO_389002 := n1_
           have BK384 := n2_
           have BK388 := n3_
           have HB := n4_
           have BK407 := n5_
           have GW407 := n6_
           have GE407 := n7_
           have NB384_407 := n8_
           have NB407_384 := n9_
           have NB388_407 := n10_
           have NB407_388 := n11_
           clear n0_ n1_ n2_ n3_ n4_ n5_ n6_ n7_ n8_ n9_ n10_ n11_
           clear hb hbox hg
           refine hK.out _ _ ⟨HS0_, HS1_, HS2_, HS3_⟩ (fun hHeld => ?_)
           clear hK K
           refine norm_ (a' := ?_) ?_ ?_
           rotate_left
           · show Act.put _ (some 13) _ = _
             refine apW ?_
             rfl
           exact norm_ (by simp only [putAll, Act.put, List.setIfInBounds_toArray, List.set_cons_zero, List.set_cons_succ]) (hCont (gb407) _ ⟨hHeld, (by refine rdS ?_; exact Kd.R_mono HO_389002.out (fun _ hk => hk.2)), (rdS HO_4.out), (bkS BK384.out), (bkS BK388.out), (bkS BK407.out), GW407.out, GE407.out, NB384_407.out, NB407_384.out, NB388_407.out, NB407_388.out, (bl3 GE384.out GE388.out GE407.out)⟩)
         · skip
           refine box_step ?hg (N := 13) ?hd (cs := #[.int .i64 0, .int .i64 0, .int .u64 0, .int .u64 0]) (t := 61) ?hr ?_; (case hd => rfl); (case hg => rfl); (case hr => first | (go_simp; done) | (go_simp; rfl))
           intro gb407 hg w55 hbox hb
           have HS0_ := (hb.cell (World.block_lt_of_cell? _ _ (hHeld.1))).trans (hHeld.1)
           have HS1_ := (hb.cell (World.block_lt_of_cell? _ _ (hHeld.2.1))).trans (hHeld.2.1)
           have HS2_ := (hb.cell (World.block_lt_of_cell? _ _ (hHeld.2.2.1))).trans (hHeld.2.2.1)
           have HS3_ := (hb.cell (World.block_lt_of_cell? _ _ (hHeld.2.2.2))).trans (hHeld.2.2.2)
           have n0_ := aM (Kd.R_below (rdS HO_4.out) hb)
           have n1_ := aM (Kd.R_below (Kd.R_elderB (rdS HO_389002.out) gb407 (Nat.le_of_eq hg.symm)) hb)
           have n2_ := aM (blk_below (g := gb384) (o := .cells #[.int .u32 x385000_3, .int .u32 x385001_3, .slice none 0 0, .int .u32 x385003_3] 40 (0, 0)) (bkS BK384.out) hb)
           have n3_ := aM (blk_below (g := gb388) (o := .cells #[.int .u32 t390, .int .u32 t393, u389002, .int .u32 t396] 40 (0, 0)) (bkS BK388.out) hb)
           have n4_ := aM (below_step (bl2 GE384.out GE388.out) hb)
           have n5_ := aM (hbox)
           have n6_ := aM ((by rw [hg]; exact (below_size (bl2 GE384.out GE388.out)) : w.heap.size ≤ gb407))
           have n7_ := aM ((by rw [hg]; exact (below_size (bl2 GE384.out GE388.out)) : w.heap.size ≤ gb407))
           have n8_ := aM ((by rw [hg]; exact Nat.ne_of_lt (blk_lt (g := gb384) (o := .cells #[.int .u32 x385000_3, .int .u32 x385001_3, .slice none 0 0, .int .u32 x385003_3] 40 (0, 0)) (bkS BK384.out)) : gb384 ≠ gb407))
           have n9_ := aM ((by rw [hg]; exact Nat.ne_of_gt (blk_lt (g := gb384) (o := .cells #[.int .u32 x385000_3, .int .u32 x385001_3, .slice none 0 0, .int .u32 x385003_3] 40 (0, 0)) (bkS BK384.out)) : gb407 ≠ gb384))
           have n10_ := aM ((by rw [hg]; exact Nat.ne_of_lt (blk_lt (g := gb388) (o := .cells #[.int .u32 t390, .int .u32 t393, u389002, .int .u32 t396] 40 (0, 0)) (bkS BK388.out)) : gb388 ≠ gb407))
           have n11_ := aM ((by rw [hg]; exact Nat.ne_of_gt (blk_lt (g := gb388) (o := .cells #[.int .u32 t390, .int .u32 t393, u389002, .int .u32 t396] 40 (0, 0)) (bkS BK388.out)) : gb407 ≠ gb388))
           clear HO_4
           clear HO_389002
           clear BK384
           clear BK388
           clear HB
           have HO_4 := n0_
           have HO_389002 := n1_
           have BK384 := n2_
           have BK388 := n3_
           have HB := n4_
           have BK407 := n5_
           have GW407 := n6_
           have GE407 := n7_
           have NB384_407 := n8_
           have NB407_384 := n9_
           have NB388_407 := n10_
           have NB407_388 := n11_
           clear n0_ n1_ n2_ n3_ n4_ n5_ n6_ n7_ n8_ n9_ n10_ n11_
           clear hb hbox hg
           refine hK.out _ _ ⟨HS0_, HS1_, HS2_, HS3_⟩ (fun hHeld => ?_)
           clear hK K
           refine norm_ (a' := ?_) ?_ ?_
           rotate_left
           · show Act.put _ (some 13) _ = _
             refine apW ?_
             rfl
           refine one_ (i := 26) (N := some 105) #[true, true, true, true, true, true, true, true, true, true, true, true, true, true, true, true, true, true, true, true, true, true, true, true, true, true, true, false, false, false, true, false, false] rfl rfl (one_of HT_.out kR) (by decide) (fun K hK => ?_)
           refine goes_ Try.func65 kR rfl #[.string (((((((rdOf ByteArray.empty t385 (ji33)) ++ (⟨#[32]⟩ : ByteArray)) ++ (rdOf ByteArray.empty t385 (ji37))) ++ (⟨#[32]⟩ : ByteArray)) ++ (rdOf ByteArray.empty t385 (ji42))) ++ (⟨#[32]⟩ : ByteArray)) ++ (rdOf ByteArray.empty t385 (ji47)))] (by rfl) rfl rfl (by (try simp only [List.map_toArray, List.map_cons, List.map_nil]); first | done | (simp only [hji33, hji37, hji42, hji47]; rfl) | rfl | (simp only [List.length_drop, List.length_take]; rfl)) ?_
           with_reducible refine (hurdleref08_Parse.calls k3 (((((((rdOf ByteArray.empty t385 (ji33)) ++ (⟨#[32]⟩ : ByteArray)) ++ (rdOf ByteArray.empty t385 (ji37))) ++ (⟨#[32]⟩ : ByteArray)) ++ (rdOf ByteArray.empty t385 (ji42))) ++ (⟨#[32]⟩ : ByteArray)) ++ (rdOf ByteArray.empty t385 (ji47))) t402 t403 t404 t405 true _ A51.out).mono ?_
           rintro e w56 ⟨rfl, hb⟩
           have HS0_ := (hb.cell (World.block_lt_of_cell? _ _ (hHeld.1))).trans (hHeld.1)
           have HS1_ := (hb.cell (World.block_lt_of_cell? _ _ (hHeld.2.1))).trans (hHeld.2.1)
           have HS2_ := (hb.cell (World.block_lt_of_cell? _ _ (hHeld.2.2.1))).trans (hHeld.2.2.1)
           have HS3_ := (hb.cell (World.block_lt_of_cell? _ _ (hHeld.2.2.2))).trans (hHeld.2.2.2)
           refine ⟨_, rfl, ?_⟩
           have n0_ := aM (Kd.R_below (rdS HO_4.out) hb)
           have n1_ := aM (Kd.R_below (rdS HO_389002.out) hb)
           have n2_ := aM (blk_below (g := gb384) (o := .cells #[.int .u32 x385000_3, .int .u32 x385001_3, .slice none 0 0, .int .u32 x385003_3] 40 (0, 0)) (bkS BK384.out) hb)
           have n3_ := aM (blk_below (g := gb388) (o := .cells #[.int .u32 t390, .int .u32 t393, u389002, .int .u32 t396] 40 (0, 0)) (bkS BK388.out) hb)
           have n4_ := aM (blk_below (g := gb407) (o := .cells #[.int .i64 0, .int .i64 0, .int .u64 0, .int .u64 0] 61 (0, 0)) (bkS BK407.out) hb)
           have n5_ := aM (below_step (bl3 GE384.out GE388.out GE407.out) hb)
           clear HO_4
           clear HO_389002
           clear BK384
           clear BK388
           clear BK407
           clear HB
           have HO_4 := n0_
           have HO_389002 := n1_
           have BK384 := n2_
           have BK388 := n3_
           have BK407 := n4_
           have HB := n5_
           clear n0_ n1_ n2_ n3_ n4_ n5_
           (try clear hb)
           (try clear hb2)
           (try clear hk)
           (try clear hi)
           refine hK.out _ _ ⟨HS0_, HS1_, HS2_, HS3_⟩ (fun hHeld => ?_)
           clear hK K
           refine norm_ (a' := ?_) ?_ ?_
           rotate_left
           · show Act.put _ (some 105) _ = _
             refine apW ?_
             rfl
           refine pure_ (i := 27) (N := some 78) (v := ?_) (a' := ?_) #[true, true, true, true, true, true, true, true, true, true, true, true, true, true, true, true, true, true, true, true, true, true, true, true, true, true, true, true, false, false, true, false, false] rfl rfl (any_of HT_.out kR) (fun _ _ _ h => h) (Or.inl ⟨by rfl, ?_⟩) ?_ ?_
           rotate_left
           · intro w'
             go_simp
             with_reducible rfl
           rotate_left
           · refine apW ?_
             rfl
           refine pure_ (i := 28) (N := some 106) (v := ?_) (a' := ?_) #[true, true, true, true, true, true, true, true, true, true, true, true, true, true, true, true, true, true, true, true, true, true, true, true, true, true, true, true, true, false, true, false, false] rfl rfl (any_of HT_.out kR) (fun _ _ _ h => h) (Or.inl ⟨by rfl, ?_⟩) ?_ ?_
           rotate_left
           · intro w'
             go_simp
             with_reducible rfl
           rotate_left
           · refine apW ?_
             rfl
           refine pure_ (i := 29) (N := some 107) (v := ?_) (a' := ?_) #[true, true, true, true, true, true, true, true, true, true, true, true, true, true, true, true, true, true, true, true, true, true, true, true, true, true, true, true, true, true, true, false, false] rfl rfl (any_of HT_.out kR) (fun _ _ _ h => h) (Or.inl ⟨by rfl, ?_⟩) ?_ ?_
           rotate_left
           · intro w'
             go_simp
             with_reducible rfl
           rotate_left
           · refine apW ?_
             rfl
           exact norm_ (by simp only [putAll, Act.put, List.setIfInBounds_toArray, List.set_cons_zero, List.set_cons_succ]) (hCont (gb407) _ ⟨hHeld, (by refine rdS ?_; exact Kd.R_mono HO_389002.out (fun _ hk => hk.2)), (rdS HO_4.out), (bkS BK384.out), (bkS BK388.out), (bkS BK407.out), GW407.out, GE407.out, NB384_407.out, NB407_384.out, NB388_407.out, NB407_388.out, (bl3 GE384.out GE388.out GE407.out)⟩)
       rintro gb407 w57 ⟨hS_, h0_, h1_, h2_, h3_, h4_, h5_, h6_, h7_, h8_, h9_, h10_, h11_⟩
       have n0_ : Aside0 (Kd.R k61 61 w57 w.heap.size (fun k_ => k_ ≠ gb407) u389002 x389002_3) := ⟨h0_⟩
       have n1_ : Aside0 (Kd.R Kd.string 9 w57 w.heap.size (fun _ => True) (.slice (some ad389) t385.length co21) t385) := ⟨h1_⟩
       have n2_ : Aside0 (w57.heap[gb384]? = some (.cells #[.int .u32 x385000_3, .int .u32 x385001_3, .slice none 0 0, .int .u32 x385003_3] 40 (0, 0))) := ⟨h2_⟩
       have n3_ : Aside0 (w57.heap[gb388]? = some (.cells #[.int .u32 t390, .int .u32 t393, u389002, .int .u32 t396] 40 (0, 0))) := ⟨h3_⟩
       have n4_ : Aside0 (w57.heap[gb407]? = some (.cells #[.int .i64 0, .int .i64 0, .int .u64 0, .int .u64 0] 61 (0, 0))) := ⟨h4_⟩
       have n5_ : Aside0 (w.heap.size ≤ gb407) := ⟨h5_⟩
       have n6_ : Aside0 (w.heap.size ≤ gb407) := ⟨h6_⟩
       have n7_ : Aside0 (gb384 ≠ gb407) := ⟨h7_⟩
       have n8_ : Aside0 (gb407 ≠ gb384) := ⟨h8_⟩
       have n9_ : Aside0 (gb388 ≠ gb407) := ⟨h9_⟩
       have n10_ : Aside0 (gb407 ≠ gb388) := ⟨h10_⟩
       have n11_ : Aside0 (Below w.heap.size w w57) := ⟨h11_⟩
       clear HO_4
       clear HO_389002
       clear BK384
       clear BK388
       clear HB
       clear h0_ h1_ h2_ h3_ h4_ h5_ h6_ h7_ h8_ h9_ h10_ h11_
       have HO_389002 := n0_
       have HO_4 := n1_
       have BK384 := n2_
       have BK388 := n3_
       have BK407 := n4_
       have GW407 := n5_
       have GE407 := n6_
       have NB384_407 := n7_
       have NB407_384 := n8_
       have NB388_407 := n9_
       have NB407_388 := n10_
       have HB := n11_
       clear n0_ n1_ n2_ n3_ n4_ n5_ n6_ n7_ n8_ n9_ n10_ n11_
       have hHeld : w57.cell? (ad389.add ((ji33)).toNat) = some (.string (rdOf ByteArray.empty t385 (ji33))) ∧ w57.cell? (ad389.add ((ji37)).toNat) = some (.string (rdOf ByteArray.empty t385 (ji37))) ∧ w57.cell? (ad389.add ((ji42)).toNat) = some (.string (rdOf ByteArray.empty t385 (ji42))) ∧ w57.cell? (ad389.add ((ji47)).toNat) = some (.string (rdOf ByteArray.empty t385 (ji47))) := hS_
       refine norm_ (a' := ?_) ?_ ?_
       rotate_left
       · simp only [putAll, Act.put, List.setIfInBounds_toArray, List.set_cons_zero, List.set_cons_succ]
         rfl
       refine one_ (i := 31) (N := none) #[true, true, true, true, true, true, true, true, true, true, true, true, true, true, true, true, true, true, true, true, true, true, true, true, true, true, true, true, true, true, true, true, false] rfl rfl (one_of HT_.out kR) (by decide) (fun K hK => ?_)
       have hs58 : w57.cell? ⟨gb407, 0, none⟩ = some (.int .i64 0) := (blk_cell BK407.out 0).trans rfl
       have hfs58 := blk_frozen BK407.out 0
       have hns58_0 := NB384_407.out
       have hns58_1 := NB388_407.out
       have hms58_0 := NB407_384.out
       have hms58_1 := NB407_388.out
       have hs59 : w57.cell? ⟨gb407, 1, none⟩ = some (.int .i64 0) := (blk_cell BK407.out 1).trans rfl
       have hfs59 := blk_frozen BK407.out 1
       have hns59_0 := NB384_407.out
       have hns59_1 := NB388_407.out
       have hms59_0 := NB407_384.out
       have hms59_1 := NB407_388.out
       have hs60 : w57.cell? ⟨gb407, 2, none⟩ = some (.int .u64 0) := (blk_cell BK407.out 2).trans rfl
       have hfs60 := blk_frozen BK407.out 2
       have hns60_0 := NB384_407.out
       have hns60_1 := NB388_407.out
       have hms60_0 := NB407_384.out
       have hms60_1 := NB407_388.out
       have hs61 : w57.cell? ⟨gb407, 3, none⟩ = some (.int .u64 0) := (blk_cell BK407.out 3).trans rfl
       have hfs61 := blk_frozen BK407.out 3
       have hns61_0 := NB384_407.out
       have hns61_1 := NB388_407.out
       have hms61_0 := NB407_384.out
       have hms61_1 := NB407_388.out
       refine skip_ (w1 := ?_) (by rfl) rfl ?_ ?_
       rotate_left
       · go_simp
         rfl
       refine hK.out _ _ ⟨((cell_far (p := ⟨gb407, _, none⟩) (owA (Kd.own_blk (Kd.R_ne HO_4.out BK407.out (by decide)))) _).trans (((cell_far (p := ⟨gb407, _, none⟩) (owA (Kd.own_blk (Kd.R_ne HO_4.out BK407.out (by decide)))) _).trans (((cell_far (p := ⟨gb407, _, none⟩) (owA (Kd.own_blk (Kd.R_ne HO_4.out BK407.out (by decide)))) _).trans (((cell_far (p := ⟨gb407, _, none⟩) (owA (Kd.own_blk (Kd.R_ne HO_4.out BK407.out (by decide)))) _).trans (hHeld.1)))))))), ((cell_far (p := ⟨gb407, _, none⟩) (owA (Kd.own_blk (Kd.R_ne HO_4.out BK407.out (by decide)))) _).trans (((cell_far (p := ⟨gb407, _, none⟩) (owA (Kd.own_blk (Kd.R_ne HO_4.out BK407.out (by decide)))) _).trans (((cell_far (p := ⟨gb407, _, none⟩) (owA (Kd.own_blk (Kd.R_ne HO_4.out BK407.out (by decide)))) _).trans (((cell_far (p := ⟨gb407, _, none⟩) (owA (Kd.own_blk (Kd.R_ne HO_4.out BK407.out (by decide)))) _).trans (hHeld.2.1)))))))), ((cell_far (p := ⟨gb407, _, none⟩) (owA (Kd.own_blk (Kd.R_ne HO_4.out BK407.out (by decide)))) _).trans (((cell_far (p := ⟨gb407, _, none⟩) (owA (Kd.own_blk (Kd.R_ne HO_4.out BK407.out (by decide)))) _).trans (((cell_far (p := ⟨gb407, _, none⟩) (owA (Kd.own_blk (Kd.R_ne HO_4.out BK407.out (by decide)))) _).trans (((cell_far (p := ⟨gb407, _, none⟩) (owA (Kd.own_blk (Kd.R_ne HO_4.out BK407.out (by decide)))) _).trans (hHeld.2.2.1)))))))), ((cell_far (p := ⟨gb407, _, none⟩) (owA (Kd.own_blk (Kd.R_ne HO_4.out BK407.out (by decide)))) _).trans (((cell_far (p := ⟨gb407, _, none⟩) (owA (Kd.own_blk (Kd.R_ne HO_4.out BK407.out (by decide)))) _).trans (((cell_far (p := ⟨gb407, _, none⟩) (owA (Kd.own_blk (Kd.R_ne HO_4.out BK407.out (by decide)))) _).trans (((cell_far (p := ⟨gb407, _, none⟩) (owA (Kd.own_blk (Kd.R_ne HO_4.out BK407.out (by decide)))) _).trans (hHeld.2.2.2))))))))⟩ (fun hHeld => ?_)
       clear hK K
       refine pure_ (i := 32) (N := some 14) (v := ?_) (a' := ?_) #[true, true, true, true, true, true, true, true, true, true, true, true, true, true, true, true, true, true, true, true, true, true, true, true, true, true, true, true, true, true, true, true, true] rfl rfl (any_of HT_.out kR) (fun _ _ _ h => h) (Or.inl ⟨by rfl, ?_⟩) ?_ ?_
       rotate_left
       · intro w'
         go_simp
         with_reducible rfl
       rotate_left
       · refine apW ?_
         rfl
       refine done_ (done_of HT_.out kR) ?_
       have hnb62 := NB388_384.out
       have hnc62 := NB384_388.out
       have hnb63 := NB388_407.out
       have hnc63 := NB407_388.out
       have hcz64_0 : w57.cell? ⟨gb388, 0, none⟩ = some (.int .u32 t390) := (blk_cell BK388.out 0).trans rfl
       have hcz64_1 : w57.cell? ⟨gb388, 1, none⟩ = some (.int .u32 t393) := (blk_cell BK388.out 1).trans rfl
       have hcz64_2 : w57.cell? ⟨gb388, 2, none⟩ = some (u389002) := (blk_cell BK388.out 2).trans rfl
       have hcz64_3 : w57.cell? ⟨gb388, 3, none⟩ = some (.int .u32 t396) := (blk_cell BK388.out 3).trans rfl
       have hfz64_0 := blk_frozen BK388.out 0
       have hfz64_1 := blk_frozen BK388.out 1
       have hfz64_2 := blk_frozen BK388.out 2
       have hfz64_3 := blk_frozen BK388.out 3
       have hnb65 := NB407_384.out
       have hnc65 := NB384_407.out
       have hcz66_0 : w57.cell? ⟨gb407, 0, none⟩ = some (.int .i64 0) := (blk_cell BK407.out 0).trans rfl
       have hcz66_1 : w57.cell? ⟨gb407, 1, none⟩ = some (.int .i64 0) := (blk_cell BK407.out 1).trans rfl
       have hcz66_2 : w57.cell? ⟨gb407, 2, none⟩ = some (.int .u64 0) := (blk_cell BK407.out 2).trans rfl
       have hcz66_3 : w57.cell? ⟨gb407, 3, none⟩ = some (.int .u64 0) := (blk_cell BK407.out 3).trans rfl
       have hfz66_0 := blk_frozen BK407.out 0
       have hfz66_1 := blk_frozen BK407.out 1
       have hfz66_2 := blk_frozen BK407.out 2
       have hfz66_3 := blk_frozen BK407.out 3
       try go_wp2_with (first | ((with_reducible refine gate_builtin (b := .append) (xs := #[.tmp 112, .tmp 114]) rfl ?_); (try (refine gate_guard (by rfl) ?_; dsimp only)); at_builtin; refine Kd.R_append k61 (w0 := w) w.heap.size rfl (.tmp 112) (.tmp 114) 38 61 (.agg #[(.int .i64 0), (.int .i64 0), (.int .u64 0), (.int .u64 0)]) 32 rfl Try.underlying38 info61 rfl (by decide) (by omega) u389002 x389002_3 (⟨t402, t403, t404, t405⟩ : S61) [.int .i64 t402, .int .i64 t403, .int .u64 t404, .int .u64 t405] (fun k_ => k_ ≠ gb407) (fun _ => False) rfl (by first | (go_simp; done) | (go_simp; rfl)) ?aP (fun _ hk => hk.elim) ?aF ?aO ?aB ?aS ?aL ?_; (case aP => exact k61_mkM _ _ _ (⟨t402, t403, t404, t405⟩ : S61)); (case aB => exact (bl3 GE384.out GE388.out GE407.out)); (case aF => exact (fun k_ hk => Kd.freshB (g := gb407) (o := .cells #[.int .i64 t402, .int .i64 t403, .int .u64 t404, .int .u64 t405] 61 (0, 0)) (by refine bkS ?_; refine blk_put (cs := #[.int .i64 t402, .int .i64 t403, .int .u64 t404, .int .u64 0]) ?_ 3 _ rfl; refine bkS ?_; refine blk_put (cs := #[.int .i64 t402, .int .i64 t403, .int .u64 0, .int .u64 0]) ?_ 2 _ rfl; refine bkS ?_; refine blk_put (cs := #[.int .i64 t402, .int .i64 0, .int .u64 0, .int .u64 0]) ?_ 1 _ rfl; refine bkS ?_; refine blk_put (cs := #[.int .i64 0, .int .i64 0, .int .u64 0, .int .u64 0]) ?_ 0 _ rfl; refine bkS ?_; exact BK407.out) k_ hk)); (case aO => exact (by refine rdS ?_; exact Kd.R_mono (Kd.R_far (p := ⟨gb407, 3, none⟩) (Kd.R_far (p := ⟨gb407, 2, none⟩) (Kd.R_far (p := ⟨gb407, 1, none⟩) (Kd.R_far (p := ⟨gb407, 0, none⟩) (Kd.R_mono HO_389002.out (fun k_ hk => (⟨hk, hk⟩ : _ ∧ k_ ≠ gb407))) (fun _ hk => hk.2) (.int .i64 t402)) (fun _ hk => hk.2) (.int .i64 t403)) (fun _ hk => hk.2) (.int .u64 t404)) (fun _ hk => hk.2) (.int .u64 t405)) (fun _ hk => hk.1))); (case aS => exact (below_size (bl3 GE384.out GE388.out GE407.out))); (case aL => have := LMc53.out; omega); intro v409 w67 ho hb hg hat; rw [← Ny408.out] at ho; have n0_ := aM (Kd.R_over' (by refine rdS ?_; exact (Kd.R_mono (Kd.R_far (p := ⟨gb407, 3, none⟩) (Kd.R_far (p := ⟨gb407, 2, none⟩) (Kd.R_far (p := ⟨gb407, 1, none⟩) (Kd.R_far (p := ⟨gb407, 0, none⟩) (Kd.R_types HO_4.out BK407.out (by decide)) (fun _ hk => hk.2) (.int .i64 t402)) (fun _ hk => hk.2) (.int .i64 t403)) (fun _ hk => hk.2) (.int .u64 t404)) (fun _ hk => hk.2) (.int .u64 t405)) (fun _ h_ => h_.1))) (Kd.R_typed (by refine rdS ?_; exact (Kd.R_mono (Kd.R_far (p := ⟨gb407, 3, none⟩) (Kd.R_far (p := ⟨gb407, 2, none⟩) (Kd.R_far (p := ⟨gb407, 1, none⟩) (Kd.R_far (p := ⟨gb407, 0, none⟩) (Kd.R_mono HO_389002.out (fun k_ hk => (⟨hk, hk⟩ : _ ∧ k_ ≠ gb407))) (fun _ hk => hk.2) (.int .i64 t402)) (fun _ hk => hk.2) (.int .i64 t403)) (fun _ hk => hk.2) (.int .u64 t404)) (fun _ hk => hk.2) (.int .u64 t405)) (fun _ h_ => h_.1)))) (by decide) hg); have n1_ := aM (blk_grown (g := gb384) (o := .cells #[.int .u32 x385000_3, .int .u32 x385001_3, .slice none 0 0, .int .u32 x385003_3] 40 (0, 0)) (by refine bkS ?_; refine blk_far ?_ NB384_407.out _; refine bkS ?_; refine blk_far ?_ NB384_407.out _; refine bkS ?_; refine blk_far ?_ NB384_407.out _; refine bkS ?_; refine blk_far ?_ NB384_407.out _; refine bkS ?_; exact BK384.out) hg (Kd.R_ne HO_389002.out BK384.out (by decide))); have n2_ := aM (blk_grown (g := gb388) (o := .cells #[.int .u32 t390, .int .u32 t393, u389002, .int .u32 t396] 40 (0, 0)) (by refine bkS ?_; refine blk_far ?_ NB388_407.out _; refine bkS ?_; refine blk_far ?_ NB388_407.out _; refine bkS ?_; refine blk_far ?_ NB388_407.out _; refine bkS ?_; refine blk_far ?_ NB388_407.out _; refine bkS ?_; exact BK388.out) hg (Kd.R_ne HO_389002.out BK388.out (by decide))); have n3_ := aM (blk_grown (g := gb407) (o := .cells #[.int .i64 t402, .int .i64 t403, .int .u64 t404, .int .u64 t405] 61 (0, 0)) (by refine bkS ?_; refine blk_put (cs := #[.int .i64 t402, .int .i64 t403, .int .u64 t404, .int .u64 0]) ?_ 3 _ rfl; refine bkS ?_; refine blk_put (cs := #[.int .i64 t402, .int .i64 t403, .int .u64 0, .int .u64 0]) ?_ 2 _ rfl; refine bkS ?_; refine blk_put (cs := #[.int .i64 t402, .int .i64 0, .int .u64 0, .int .u64 0]) ?_ 1 _ rfl; refine bkS ?_; refine blk_put (cs := #[.int .i64 0, .int .i64 0, .int .u64 0, .int .u64 0]) ?_ 0 _ rfl; refine bkS ?_; exact BK407.out) hg (Kd.R_away HO_389002.out (fun _ hk => hk))); have n4_ := aM (hb); have n5_ := aM (ho); clear HO_4; clear BK384; clear BK388; clear BK407; clear HB; clear HO_389002; have HO_4 := n0_; have BK384 := n1_; have BK388 := n2_; have BK407 := n3_; have HB := n4_; have HO410 := n5_; clear n0_ n1_ n2_ n3_ n4_ n5_; clear ho hb hg hat; obtain ⟨Ao68, co68, eo68⟩ := Kd.R_slice HO410.out; subst eo68; have hcz69_0 : w67.cell? ⟨gb388, 0, none⟩ = some (.int .u32 t390) := (blk_cell BK388.out 0).trans rfl; have hcz69_1 : w67.cell? ⟨gb388, 1, none⟩ = some (.int .u32 t393) := (blk_cell BK388.out 1).trans rfl; have hcz69_2 : w67.cell? ⟨gb388, 2, none⟩ = some (u389002) := (blk_cell BK388.out 2).trans rfl; have hcz69_3 : w67.cell? ⟨gb388, 3, none⟩ = some (.int .u32 t396) := (blk_cell BK388.out 3).trans rfl; have hfz69_0 := blk_frozen BK388.out 0; have hfz69_1 := blk_frozen BK388.out 1; have hfz69_2 := blk_frozen BK388.out 2; have hfz69_3 := blk_frozen BK388.out 3))
       go_roundg k3
       case measure => have := HJ2.out; have := HJ18.out; have := HK3.out; omega
       case rel => exact ⟨(wrap64 (x12_3 + 5)), (x385000_3), (x385001_3), (x385003_3), (y408), (.slice Ao68 y408.length co68), (by first | rfl | (simp; done) | (simp [*]; done)), H', ⟨by have := HJ2.out; have := HJ18.out; have := HK3.out; omega⟩, ⟨by refine rdS ?_; exact Kd.R_mono (Kd.R_far (p := ⟨gb388, 2, none⟩) (Kd.R_types HO_4.out BK388.out (by decide)) (fun _ hk => hk.2) (.slice Ao68 y408.length co68)) (fun _ hk => trivial)⟩, ⟨by refine rdS ?_; exact Kd.R_mono (Kd.R_far (p := ⟨gb388, 2, none⟩) (Kd.R_types HO410.out BK388.out (by decide)) (fun _ hk => hk.2) (.slice Ao68 y408.length co68)) (fun _ hk => trivial)⟩, ⟨by refine bkS ?_; refine blk_far ?_ NB384_388.out _; refine bkS ?_; exact BK384.out⟩, ⟨by refine bkS ?_; refine blk_put (cs := #[.int .u32 t390, .int .u32 t393, u389002, .int .u32 t396]) ?_ 2 _ rfl; refine bkS ?_; exact BK388.out⟩, ⟨bl3 GE384.out GE388.out GE407.out⟩⟩
end Go.Proofs.Ytekpbgmmogpbdaa.P
namespace Go.Proofs.Ytekpbgmmogpbdaa.P
open Go.RowKit Go.Proofs.Ytekpbgmmogpbdaa.H Go.Proofs.YtekpbgmmogpbdaaW.PrintWords Go.Proofs.YtekpbgmmogpbdaaW.PrintLast Go.Proofs.YtekpbgmmogpbdaaW.PrintMore
attribute [local go_sem] max2_int min2_int max_two min_two max_three min_three max_four min_four
mutual
def hurdleref10_Parse.l0 : Nat → ByteArray → List ByteArray → Int → Bool → Int → List (S40) → Int → Option ((List (S40)) × Int × Int × Int)
 | 0, _, _, _, _, _, _, _ => none
 | k + 1, x0, x6, x7, x8, x9, x414000, x414001 => if x9 < (x6.length : Int) then (if x9 = (wrap64 ((x6.length : Int) - 1)) then (if 0 ≤ x9 then (hurdleref10_Parse.j1 k x0 x6 x7 x8 x9 (x9 == (wrap64 ((x6.length : Int) - 1))) ((rdOf ByteArray.empty x6 x9).toList == ([] : List UInt8)) x414000 x414001) else (none)) else (hurdleref10_Parse.j1 k x0 x6 x7 x8 x9 (x9 == (wrap64 ((x6.length : Int) - 1))) false x414000 x414001)) else (some (x414000, x414001, 0, 0))
def hurdleref10_Parse.j1 : Nat → ByteArray → List ByteArray → Int → Bool → Int → Bool → Bool → List (S40) → Int → Option ((List (S40)) × Int × Int × Int)
 | 0, _, _, _, _, _, _, _, _, _ => none
 | k + 1, x0, x6, x7, x8, x9, x10, x40, x414000, x414001 => if x40 = true then (if x8 = true then (some (x414000, x414001, 0, 0)) else (some (([] : List (S40)), 0, (x0.size : Int), 5))) else (if x10 = true then (hurdleref10_Parse.j2 k x0 x6 x7 x8 x9 true x414000 x414001) else (hurdleref10_Parse.j2 k x0 x6 x7 x8 x9 x8 x414000 x414001))
def hurdleref10_Parse.j2 : Nat → ByteArray → List ByteArray → Int → Bool → Int → Bool → List (S40) → Int → Option ((List (S40)) × Int × Int × Int)
 | 0, _, _, _, _, _, _, _, _ => none
 | k + 1, x0, x6, x7, x8, x9, x50, x414000, x414001 => if x50 = true then (some (([] : List (S40)), 0, x7, 2)) else (if 0 ≤ x9 then (if x9 < (x6.length : Int) then ((hurdleref10_Read.f k (rdOf ByteArray.empty x6 x9)).bind fun bt419 => (if bt419.2.2.2.2 = true then (if (x414000.length : Int) ≥ 64 then (some (([] : List (S40)), 0, x7, 3)) else (if x414000.length < 3518437208883 then (hurdleref10_Parse.l0 k x0 x6 (wrap64 ((wrap64 (x7 + ((rdOf ByteArray.empty x6 x9).size : Int))) + 1)) x8 (wrap64 (x9 + 1)) (x414000 ++ [(⟨bt419.1, bt419.2.1, bt419.2.2.1, bt419.2.2.2.1⟩ : S40)]) x414001) else (none))) else ((hurdleref02_Cut.f k (rdOf ByteArray.empty x6 x9) 32).bind fun t432 => (if 0 ≤ (wrap64 ((t432.length : Int) - 1)) then (if (wrap64 ((t432.length : Int) - 1)) < (t432.length : Int) then ((hurdleref09_ReadAction.f k (rdOf ByteArray.empty t432 (wrap64 ((t432.length : Int) - 1)))).bind fun bt436 => (if (t432.length : Int) = 2 then (if 0 < (t432.length : Int) then (if (rdOf ByteArray.empty t432 0).toList = ([100, 101, 102, 97, 117, 108, 116] : List UInt8) then (if bt436.2 = true then (hurdleref10_Parse.l0 k x0 x6 (wrap64 ((wrap64 (x7 + ((rdOf ByteArray.empty x6 x9).size : Int))) + 1)) true (wrap64 (x9 + 1)) x414000 bt436.1) else (some (([] : List (S40)), 0, x7, 2))) else (some (([] : List (S40)), 0, x7, 2))) else (none)) else (some (([] : List (S40)), 0, x7, 2)))) else (none)) else (none))))) else (none)) else (none))
end
def hurdleref10_Parse.f (k : Nat) (a0 : ByteArray) : Option ((List (S40)) × Int × Int × Int) := if (a0.size : Int) > 20000 then (some (([] : List (S40)), 0, 0, 3)) else ((hurdleref02_Cut.f k a0 10).bind fun t414 => (hurdleref10_Parse.l0 k a0 t414 0 false 0 ([] : List (S40)) 0))
end Go.Proofs.Ytekpbgmmogpbdaa.P
