/- Lemmas for this claim: A text is the policy that the document says, or the place and the error are told (any text of up to 25000 bytes). (Some lines were printed for this seat by the kit's print.sh; wip/pack.py has put the needed ones together.) -/
import Derived.Test.YtekpbgmmogpbdaaZPP0
import Derived.Test.YtekpbgmmogpbdaaZPP1
set_option linter.unusedVariables false
set_option linter.unusedSimpArgs false
namespace Go.Proofs.Ytekpbgmmogpbdaa.P
open Go.RowKit Go.Proofs.Ytekpbgmmogpbdaa.H Go.Proofs.YtekpbgmmogpbdaaW.PrintWords Go.Proofs.YtekpbgmmogpbdaaW.PrintLast Go.Proofs.YtekpbgmmogpbdaaW.PrintMore
attribute [local go_sem] max2_int min2_int max_two min_two max_three min_three max_four min_four
def policy_rule.l0 : Nat → ByteArray → ByteArray → List (S61) → Int → Int → Option (ByteArray)
 | 0, _, _, _, _, _ => none
 | k + 1, x5, x6, x32, x33, x34 => if x34 < x33 then (if 0 ≤ x34 then (if x34 < (x32.length : Int) then ((cond_Print.f ((rd_T61 x32 x34).f0) ((rd_T61 x32 x34).f1) ((rd_T61 x32 x34).f2) ((rd_T61 x32 x34).f3)).bind fun bt123 => (if x6.size + bt123.1.size ≤ 9223372036854775807 then (if x5.size + (x6 ++ bt123.1).size ≤ 9223372036854775807 then (policy_rule.l0 k (x5 ++ (x6 ++ bt123.1)) (⟨#[32, 97, 110, 100, 32]⟩ : ByteArray) x32 x33 (wrap64 (x34 + 1))) else (none)) else (none))) else (none)) else (none)) else (some x5)
def policy_rule.f (k : Nat) (a0_0 : Int) (a0_1 : Int) (l0_2 : List (S61)) (a0_3 : Int) : Option (ByteArray) := (names_Action.f a0_3).bind fun bt117 => ((names_Machine.f a0_0).bind fun t119 => (if 3 + t119.size ≤ 9223372036854775807 then (if ((⟨#[111, 110, 32]⟩ : ByteArray) ++ t119).size + 1 ≤ 9223372036854775807 then ((names_Call.f a0_0 a0_1).bind fun t120 => (if (((⟨#[111, 110, 32]⟩ : ByteArray) ++ t119) ++ (⟨#[32]⟩ : ByteArray)).size + t120.size ≤ 9223372036854775807 then (if ((((⟨#[111, 110, 32]⟩ : ByteArray) ++ t119) ++ (⟨#[32]⟩ : ByteArray)) ++ t120).size + 1 ≤ 9223372036854775807 then (if (((((⟨#[111, 110, 32]⟩ : ByteArray) ++ t119) ++ (⟨#[32]⟩ : ByteArray)) ++ t120) ++ (⟨#[32]⟩ : ByteArray)).size + bt117.1.size ≤ 9223372036854775807 then (policy_rule.l0 k ((((((⟨#[111, 110, 32]⟩ : ByteArray) ++ t119) ++ (⟨#[32]⟩ : ByteArray)) ++ t120) ++ (⟨#[32]⟩ : ByteArray)) ++ bt117.1) (⟨#[32, 105, 102, 32]⟩ : ByteArray) l0_2 (l0_2.length : Int) 0) else (none)) else (none)) else (none))) else (none)) else (none)))
def policy_rule.T2 : Bool × List (List Nat × List Nat) := (true, [([], []), ([0], [0]), ([1], [1]), ([2], [2]), ([3], [3]), ([], []), ([5], [5]), ([], []), ([7], [7]), ([6, 8, 2], [6, 8]), ([4, 9], [4, 9]), ([10], [10]), ([], []), ([11, 12], [11, 12]), ([13, 9, 0, 1, 2, 3, 4, 5, 6, 7, 8, 9, 10, 11, 12, 13], [13])])
def policy_rule.B2 : List Nat := [0, 1, 3, 7, 15, 0, 32, 0, 128, 487, 1023, 2047, 0, 8191, 16383]
theorem policy_rule.tab2 : rtab .any (opsOf Try.f31 2) = policy_rule.T2 := by kernel_rfl
theorem policy_rule.bits2 : waitsOk policy_rule.T2.2 policy_rule.B2 = true := by kernel_rfl
set_option maxHeartbeats 8000000 in
set_option maxRecDepth 100000 in
theorem policy_rule.calls (k : Nat) (a0_0 : Int) (a0_1 : Int) (A0_2 : Option Addr) (c0_2 : Nat) (l0_2 : List (S61)) (a0_3 : Int) (r : ByteArray) (w : World) (hr0_2 : Kd.C k61 w A0_2 l0_2.length l0_2) (hc0_2 : l0_2.length ≤ c0_2) (h : policy_rule.f k a0_0 a0_1 l0_2 a0_3 = some r) :
 Calls Try.prog 31 #[.agg #[.int .u32 a0_0, .int .u32 a0_1, .slice A0_2 l0_2.length c0_2, .int .u32 a0_3]] w fun e w' => e = .returned (.string r) ∧ Below w.heap.size w w' := by
 have hu40 := Try.underlying40
 have hu61 := Try.underlying61
 have HR0_2 := aM hr0_2
 have HC0_2 := aM hc0_2
 clear hr0_2 hc0_2
 have HB := aM (Below.refl w.heap.size w)
 have H : ((names_Action.f a0_3).bind fun bt117 => ((names_Machine.f a0_0).bind fun t119 => (if 3 + t119.size ≤ 9223372036854775807 then (if ((⟨#[111, 110, 32]⟩ : ByteArray) ++ t119).size + 1 ≤ 9223372036854775807 then ((names_Call.f a0_0 a0_1).bind fun t120 => (if (((⟨#[111, 110, 32]⟩ : ByteArray) ++ t119) ++ (⟨#[32]⟩ : ByteArray)).size + t120.size ≤ 9223372036854775807 then (if ((((⟨#[111, 110, 32]⟩ : ByteArray) ++ t119) ++ (⟨#[32]⟩ : ByteArray)) ++ t120).size + 1 ≤ 9223372036854775807 then (if (((((⟨#[111, 110, 32]⟩ : ByteArray) ++ t119) ++ (⟨#[32]⟩ : ByteArray)) ++ t120) ++ (⟨#[32]⟩ : ByteArray)).size + bt117.1.size ≤ 9223372036854775807 then (policy_rule.l0 k ((((((⟨#[111, 110, 32]⟩ : ByteArray) ++ t119) ++ (⟨#[32]⟩ : ByteArray)) ++ t120) ++ (⟨#[32]⟩ : ByteArray)) ++ bt117.1) (⟨#[32, 105, 102, 32]⟩ : ByteArray) l0_2 (l0_2.length : Int) 0) else (none)) else (none)) else (none))) else (none)) else (none)))) = some r := h
 clear h
 replace H := Option.bind_eq_some_iff.mp H
 obtain ⟨⟨t117, t118⟩, A20, H⟩ := H
 replace H : ((names_Machine.f a0_0).bind fun t119 => (if 3 + t119.size ≤ 9223372036854775807 then (if ((⟨#[111, 110, 32]⟩ : ByteArray) ++ t119).size + 1 ≤ 9223372036854775807 then ((names_Call.f a0_0 a0_1).bind fun t120 => (if (((⟨#[111, 110, 32]⟩ : ByteArray) ++ t119) ++ (⟨#[32]⟩ : ByteArray)).size + t120.size ≤ 9223372036854775807 then (if ((((⟨#[111, 110, 32]⟩ : ByteArray) ++ t119) ++ (⟨#[32]⟩ : ByteArray)) ++ t120).size + 1 ≤ 9223372036854775807 then (if (((((⟨#[111, 110, 32]⟩ : ByteArray) ++ t119) ++ (⟨#[32]⟩ : ByteArray)) ++ t120) ++ (⟨#[32]⟩ : ByteArray)).size + t117.size ≤ 9223372036854775807 then (policy_rule.l0 k ((((((⟨#[111, 110, 32]⟩ : ByteArray) ++ t119) ++ (⟨#[32]⟩ : ByteArray)) ++ t120) ++ (⟨#[32]⟩ : ByteArray)) ++ t117) (⟨#[32, 105, 102, 32]⟩ : ByteArray) l0_2 (l0_2.length : Int) 0) else (none)) else (none)) else (none))) else (none)) else (none))) = some r := H
 have A2 := aM A20
 clear A20
 replace H := Option.bind_eq_some_iff.mp H
 obtain ⟨t119, A30, H⟩ := H
 replace H : (if 3 + t119.size ≤ 9223372036854775807 then (if ((⟨#[111, 110, 32]⟩ : ByteArray) ++ t119).size + 1 ≤ 9223372036854775807 then ((names_Call.f a0_0 a0_1).bind fun t120 => (if (((⟨#[111, 110, 32]⟩ : ByteArray) ++ t119) ++ (⟨#[32]⟩ : ByteArray)).size + t120.size ≤ 9223372036854775807 then (if ((((⟨#[111, 110, 32]⟩ : ByteArray) ++ t119) ++ (⟨#[32]⟩ : ByteArray)) ++ t120).size + 1 ≤ 9223372036854775807 then (if (((((⟨#[111, 110, 32]⟩ : ByteArray) ++ t119) ++ (⟨#[32]⟩ : ByteArray)) ++ t120) ++ (⟨#[32]⟩ : ByteArray)).size + t117.size ≤ 9223372036854775807 then (policy_rule.l0 k ((((((⟨#[111, 110, 32]⟩ : ByteArray) ++ t119) ++ (⟨#[32]⟩ : ByteArray)) ++ t120) ++ (⟨#[32]⟩ : ByteArray)) ++ t117) (⟨#[32, 105, 102, 32]⟩ : ByteArray) l0_2 (l0_2.length : Int) 0) else (none)) else (none)) else (none))) else (none)) else (none)) = some r := H
 have A3 := aM A30
 clear A30
 by_cases c4 : 3 + t119.size ≤ 9223372036854775807
 rotate_left
 · rw [if_neg c4] at H
   exact absurd H (by simp)
 rw [if_pos c4] at H
 have c4b0 := eq_true c4
 have c4b1 : decide (3 + t119.size ≤ 9223372036854775807) = true := decide_eq_true c4
 try have c4b2 : (9223372036854775807 < 3 + t119.size) = False := eq_false (Nat.not_lt.2 c4)
 by_cases c5 : ((⟨#[111, 110, 32]⟩ : ByteArray) ++ t119).size + 1 ≤ 9223372036854775807
 rotate_left
 · rw [if_neg c5] at H
   exact absurd H (by simp)
 rw [if_pos c5] at H
 have c5b0 := eq_true c5
 have c5b1 : decide (((⟨#[111, 110, 32]⟩ : ByteArray) ++ t119).size + 1 ≤ 9223372036854775807) = true := decide_eq_true c5
 try have c5b2 : (9223372036854775807 < ((⟨#[111, 110, 32]⟩ : ByteArray) ++ t119).size + 1) = False := eq_false (Nat.not_lt.2 c5)
 try have c5b3 : (9223372036854775807 < 3 + t119.size + 1) = False := by have h := c5b2; simp only [ByteArray.size_append] at h; exact h
 replace H := Option.bind_eq_some_iff.mp H
 obtain ⟨t120, A60, H⟩ := H
 replace H : (if (((⟨#[111, 110, 32]⟩ : ByteArray) ++ t119) ++ (⟨#[32]⟩ : ByteArray)).size + t120.size ≤ 9223372036854775807 then (if ((((⟨#[111, 110, 32]⟩ : ByteArray) ++ t119) ++ (⟨#[32]⟩ : ByteArray)) ++ t120).size + 1 ≤ 9223372036854775807 then (if (((((⟨#[111, 110, 32]⟩ : ByteArray) ++ t119) ++ (⟨#[32]⟩ : ByteArray)) ++ t120) ++ (⟨#[32]⟩ : ByteArray)).size + t117.size ≤ 9223372036854775807 then (policy_rule.l0 k ((((((⟨#[111, 110, 32]⟩ : ByteArray) ++ t119) ++ (⟨#[32]⟩ : ByteArray)) ++ t120) ++ (⟨#[32]⟩ : ByteArray)) ++ t117) (⟨#[32, 105, 102, 32]⟩ : ByteArray) l0_2 (l0_2.length : Int) 0) else (none)) else (none)) else (none)) = some r := H
 have A6 := aM A60
 clear A60
 by_cases c7 : (((⟨#[111, 110, 32]⟩ : ByteArray) ++ t119) ++ (⟨#[32]⟩ : ByteArray)).size + t120.size ≤ 9223372036854775807
 rotate_left
 · rw [if_neg c7] at H
   exact absurd H (by simp)
 rw [if_pos c7] at H
 have c7b0 := eq_true c7
 have c7b1 : decide ((((⟨#[111, 110, 32]⟩ : ByteArray) ++ t119) ++ (⟨#[32]⟩ : ByteArray)).size + t120.size ≤ 9223372036854775807) = true := decide_eq_true c7
 try have c7b2 : (9223372036854775807 < (((⟨#[111, 110, 32]⟩ : ByteArray) ++ t119) ++ (⟨#[32]⟩ : ByteArray)).size + t120.size) = False := eq_false (Nat.not_lt.2 c7)
 try have c7b3 : (9223372036854775807 < 3 + t119.size + 1 + t120.size) = False := by have h := c7b2; simp only [ByteArray.size_append] at h; exact h
 by_cases c8 : ((((⟨#[111, 110, 32]⟩ : ByteArray) ++ t119) ++ (⟨#[32]⟩ : ByteArray)) ++ t120).size + 1 ≤ 9223372036854775807
 rotate_left
 · rw [if_neg c8] at H
   exact absurd H (by simp)
 rw [if_pos c8] at H
 have c8b0 := eq_true c8
 have c8b1 : decide (((((⟨#[111, 110, 32]⟩ : ByteArray) ++ t119) ++ (⟨#[32]⟩ : ByteArray)) ++ t120).size + 1 ≤ 9223372036854775807) = true := decide_eq_true c8
 try have c8b2 : (9223372036854775807 < ((((⟨#[111, 110, 32]⟩ : ByteArray) ++ t119) ++ (⟨#[32]⟩ : ByteArray)) ++ t120).size + 1) = False := eq_false (Nat.not_lt.2 c8)
 try have c8b3 : (9223372036854775807 < 3 + t119.size + 1 + t120.size + 1) = False := by have h := c8b2; simp only [ByteArray.size_append] at h; exact h
 by_cases c9 : (((((⟨#[111, 110, 32]⟩ : ByteArray) ++ t119) ++ (⟨#[32]⟩ : ByteArray)) ++ t120) ++ (⟨#[32]⟩ : ByteArray)).size + t117.size ≤ 9223372036854775807
 rotate_left
 · rw [if_neg c9] at H
   exact absurd H (by simp)
 rw [if_pos c9] at H
 have c9b0 := eq_true c9
 have c9b1 : decide ((((((⟨#[111, 110, 32]⟩ : ByteArray) ++ t119) ++ (⟨#[32]⟩ : ByteArray)) ++ t120) ++ (⟨#[32]⟩ : ByteArray)).size + t117.size ≤ 9223372036854775807) = true := decide_eq_true c9
 try have c9b2 : (9223372036854775807 < (((((⟨#[111, 110, 32]⟩ : ByteArray) ++ t119) ++ (⟨#[32]⟩ : ByteArray)) ++ t120) ++ (⟨#[32]⟩ : ByteArray)).size + t117.size) = False := eq_false (Nat.not_lt.2 c9)
 try have c9b3 : (9223372036854775807 < 3 + t119.size + 1 + t120.size + 1 + t117.size) = False := by have h := c9b2; simp only [ByteArray.size_append] at h; exact h
 have H' := aM H
 clear H
 go_enter Try.func31, Try.ntmps31
 try go_wp2_with (first | ((with_reducible refine gate_dst (N := 1) rfl ?_); refine box_event ?hg (N := 1) ?hd (cs := #[.int .u32 a0_0, .int .u32 a0_1, .slice A0_2 l0_2.length c0_2, .int .u32 a0_3]) (t := 40) ?hr ?_; (case hd => rfl); (case hg => rfl); (case hr => first | (go_simp; done) | (go_simp; rfl)); intro gb116 hg w10 hbox hb; have n0_ := aM (below_step bl0 hb); have n1_ := aM (hbox); have n2_ := aM ((by rw [hg]; exact (below_size bl0) : w.heap.size ≤ gb116)); have n3_ := aM ((by rw [hg]; exact (below_size bl0) : w.heap.size ≤ gb116)); clear HB; have HB := n0_; have BK116 := n1_; have GW116 := n2_; have GE116 := n3_; clear n0_ n1_ n2_ n3_; clear hb hbox hg; have hcz11_0 : w10.cell? ⟨gb116, 0, none⟩ = some (.int .u32 a0_0) := (blk_cell BK116.out 0).trans rfl; have hcz11_1 : w10.cell? ⟨gb116, 1, none⟩ = some (.int .u32 a0_1) := (blk_cell BK116.out 1).trans rfl; have hcz11_2 : w10.cell? ⟨gb116, 2, none⟩ = some (.slice A0_2 l0_2.length c0_2) := (blk_cell BK116.out 2).trans rfl; have hcz11_3 : w10.cell? ⟨gb116, 3, none⟩ = some (.int .u32 a0_3) := (blk_cell BK116.out 3).trans rfl; have hfz11_0 := blk_frozen BK116.out 0; have hfz11_1 := blk_frozen BK116.out 1; have hfz11_2 := blk_frozen BK116.out 2; have hfz11_3 := blk_frozen BK116.out 3) | ((with_reducible refine gate_callee (f := 32) rfl ?_); refine goesL_ (some 14) rfl rfl Try.func32 kR rfl #[.int .u32 a0_3] rfl mpA ?_; (with_reducible refine (names_Action.calls a0_3 t117 t118 _ A2.out).mono ?_); rintro e w12 ⟨rfl, hb⟩; refine ⟨_, rfl, ?_⟩; have n0_ := aM (blk_below (g := gb116) (o := .cells #[.int .u32 a0_0, .int .u32 a0_1, .slice A0_2 l0_2.length c0_2, .int .u32 a0_3] 40 (0, 0)) (bkS BK116.out) hb); have n1_ := aM (below_step (bl1 GE116.out) hb); clear BK116; clear HB; have BK116 := n0_; have HB := n1_; clear n0_ n1_; (try clear hb); (try clear hb2); (try clear hk); (try clear hi)))
 have n0_ := aM (blk_drew BK116.out)
 have n1_ := aM (below_drew1 HB.out)
 clear BK116
 clear HB
 have BK116 := n0_
 have HB := n1_
 clear n0_ n1_
 refine start_ (n := 15) (S := fun w' => w'.cell? ⟨gb116, 0, none⟩ = some (.int .u32 a0_0) ∧ w'.cell? ⟨gb116, 1, none⟩ = some (.int .u32 a0_1) ∧ w'.cell? ⟨gb116, 2, none⟩ = some (.slice A0_2 l0_2.length c0_2) ∧ w'.cell? ⟨gb116, 3, none⟩ = some (.int .u32 a0_3)) (ds := []) #[false, false, false, false, false, false, false, false, false, false, false, false, false, false, false] kR rfl rfl ⟨(blk_cell BK116.out 0).trans rfl, (blk_cell BK116.out 1).trans rfl, (blk_cell BK116.out 2).trans rfl, (blk_cell BK116.out 3).trans rfl⟩ (fun hHeld => ?_); refine with_tabW policy_rule.tab2 policy_rule.bits2 (fun HT_ HW_ => ?_)
 generalize w12.drew = w13 at BK116 HB hHeld ⊢
 refine pure_ (i := 0) (N := some 17) (v := ?_) (a' := ?_) #[true, false, false, false, false, false, false, false, false, false, false, false, false, false, false] rfl rfl (any_of HT_.out kR) (fun _ _ _ h => h) (Or.inl ⟨by rfl, ?_⟩) ?_ ?_
 rotate_left
 · intro w'
   go_simp
   with_reducible rfl
 rotate_left
 · refine apW ?_
   rfl
 refine pure_ (i := 5) (N := some 22) (v := ?_) (a' := ?_) #[true, false, false, false, false, true, false, false, false, false, false, false, false, false, false] rfl rfl (any_of HT_.out kR) (fun _ _ _ h => h) (Or.inl ⟨by rfl, ?_⟩) ?_ ?_
 rotate_left
 · intro w'
   go_simp
   with_reducible rfl
 rotate_left
 · refine apW ?_
   rfl
 refine pure_ (i := 7) (N := some 24) (v := ?_) (a' := ?_) #[true, false, false, false, false, true, false, true, false, false, false, false, false, false, false] rfl rfl (any_of HT_.out kR) (fun _ _ _ h => h) (Or.inl ⟨by rfl, ?_⟩) ?_ ?_
 rotate_left
 · intro w'
   go_simp
   with_reducible rfl
 rotate_left
 · refine apW ?_
   rfl
 refine pure_ (i := 12) (N := some 29) (v := ?_) (a' := ?_) #[true, false, false, false, false, true, false, true, false, false, false, false, true, false, false] rfl rfl (any_of HT_.out kR) (fun _ _ _ h => h) (Or.inl ⟨by rfl, ?_⟩) ?_ ?_
 rotate_left
 · intro w'
   go_simp
   with_reducible rfl
 rotate_left
 · refine apW ?_
   rfl
 refine take_ (i := 1) (N := some 18) (v := ?_) (a' := ?_) #[true, true, false, false, false, true, false, true, false, false, false, false, true, false, false] rfl rfl (take_ofW HT_.out HW_.out kR) (fun _ _ _ h => h) (Or.inl ⟨by rfl, ?_⟩) hHeld ?_ ?_
 rotate_left
 · rintro w' ⟨s0, s1, s2, s3⟩
   go_simp
   with_reducible rfl
 rotate_left
 · refine apW ?_
   rfl
 refine take_ (i := 6) (N := some 23) (v := ?_) (a' := ?_) #[true, true, false, false, false, true, true, true, false, false, false, false, true, false, false] rfl rfl (take_ofW HT_.out HW_.out kR) (fun _ _ _ h => h) (Or.inl ⟨by rfl, ?_⟩) hHeld ?_ ?_
 rotate_left
 · rintro w' ⟨s0, s1, s2, s3⟩
   go_simp
   with_reducible rfl
 rotate_left
 · refine apW ?_
   rfl
 refine take_ (i := 8) (N := some 25) (v := ?_) (a' := ?_) #[true, true, false, false, false, true, true, true, true, false, false, false, true, false, false] rfl rfl (take_ofW HT_.out HW_.out kR) (fun _ _ _ h => h) (Or.inl ⟨by rfl, ?_⟩) hHeld ?_ ?_
 rotate_left
 · rintro w' ⟨s0, s1, s2, s3⟩
   go_simp
   with_reducible rfl
 rotate_left
 · refine apW ?_
   rfl
 refine one_ (i := 2) (N := some 19) #[true, true, true, false, false, true, true, true, true, false, false, false, true, false, false] rfl rfl (one_of HT_.out kR) (by decide) (fun K hK => ?_)
 refine goes_ Try.func48 kR rfl #[.int .u32 a0_0] (by rfl) rfl rfl mpA ?_
 with_reducible refine (names_Machine.calls a0_0 t119 _ A3.out).mono ?_
 rintro e w14 ⟨rfl, hb⟩
 refine ⟨_, rfl, ?_⟩
 have n0_ := aM (blk_below (g := gb116) (o := .cells #[.int .u32 a0_0, .int .u32 a0_1, .slice A0_2 l0_2.length c0_2, .int .u32 a0_3] 40 (0, 0)) (bkS BK116.out) hb)
 have n1_ := aM (below_step (bl1 GE116.out) hb)
 clear BK116
 clear HB
 have BK116 := n0_
 have HB := n1_
 clear n0_ n1_
 (try clear hb)
 (try clear hb2)
 (try clear hk)
 (try clear hi)
 refine hK.out _ _ ⟨(blk_cell BK116.out 0).trans rfl, (blk_cell BK116.out 1).trans rfl, (blk_cell BK116.out 2).trans rfl, (blk_cell BK116.out 3).trans rfl⟩ (fun hHeld => ?_)
 clear hK K
 refine norm_ (a' := ?_) ?_ ?_
 rotate_left
 · show Act.put _ (some 19) _ = _
   refine apW ?_
   rfl
 refine pure_ (i := 3) (N := some 20) (v := ?_) (a' := ?_) #[true, true, true, true, false, true, true, true, true, false, false, false, true, false, false] rfl rfl (any_of HT_.out kR) (fun _ _ _ h => h) (Or.inl ⟨by rfl, ?_⟩) ?_ ?_
 rotate_left
 · intro w'
   go_simp
   with_reducible rfl
 rotate_left
 · refine apW ?_
   rfl
 refine pure_ (i := 4) (N := some 21) (v := ?_) (a' := ?_) #[true, true, true, true, true, true, true, true, true, false, false, false, true, false, false] rfl rfl (any_of HT_.out kR) (fun _ _ _ h => h) (Or.inl ⟨by rfl, ?_⟩) ?_ ?_
 rotate_left
 · intro w'
   go_simp
   with_reducible rfl
 rotate_left
 · refine apW ?_
   rfl
 refine one_ (i := 9) (N := some 26) #[true, true, true, true, true, true, true, true, true, true, false, false, true, false, false] rfl rfl (one_of HT_.out kR) (by decide) (fun K hK => ?_)
 refine goes_ Try.func49 kR rfl #[.int .u32 a0_0, .int .u32 a0_1] (by rfl) rfl rfl mpA ?_
 with_reducible refine (names_Call.calls a0_0 a0_1 t120 _ A6.out).mono ?_
 rintro e w15 ⟨rfl, hb⟩
 refine ⟨_, rfl, ?_⟩
 have n0_ := aM (blk_below (g := gb116) (o := .cells #[.int .u32 a0_0, .int .u32 a0_1, .slice A0_2 l0_2.length c0_2, .int .u32 a0_3] 40 (0, 0)) (bkS BK116.out) hb)
 have n1_ := aM (below_step (bl1 GE116.out) hb)
 clear BK116
 clear HB
 have BK116 := n0_
 have HB := n1_
 clear n0_ n1_
 (try clear hb)
 (try clear hb2)
 (try clear hk)
 (try clear hi)
 refine hK.out _ _ ⟨(blk_cell BK116.out 0).trans rfl, (blk_cell BK116.out 1).trans rfl, (blk_cell BK116.out 2).trans rfl, (blk_cell BK116.out 3).trans rfl⟩ (fun hHeld => ?_)
 clear hK K
 refine norm_ (a' := ?_) ?_ ?_
 rotate_left
 · show Act.put _ (some 26) _ = _
   refine apW ?_
   rfl
 refine pure_ (i := 10) (N := some 27) (v := ?_) (a' := ?_) #[true, true, true, true, true, true, true, true, true, true, true, false, true, false, false] rfl rfl (any_of HT_.out kR) (fun _ _ _ h => h) (Or.inl ⟨by rfl, ?_⟩) ?_ ?_
 rotate_left
 · intro w'
   go_simp
   with_reducible rfl
 rotate_left
 · refine apW ?_
   rfl
 refine pure_ (i := 11) (N := some 28) (v := ?_) (a' := ?_) #[true, true, true, true, true, true, true, true, true, true, true, true, true, false, false] rfl rfl (any_of HT_.out kR) (fun _ _ _ h => h) (Or.inl ⟨by rfl, ?_⟩) ?_ ?_
 rotate_left
 · intro w'
   go_simp
   with_reducible rfl
 rotate_left
 · refine apW ?_
   rfl
 refine pure_ (i := 13) (N := some 30) (v := ?_) (a' := ?_) #[true, true, true, true, true, true, true, true, true, true, true, true, true, true, false] rfl rfl (any_of HT_.out kR) (fun _ _ _ h => h) (Or.inl ⟨by rfl, ?_⟩) ?_ ?_
 rotate_left
 · intro w'
   go_simp
   with_reducible rfl
 rotate_left
 · refine apW ?_
   rfl
 refine pure_ (i := 14) (N := some 5) (v := ?_) (a' := ?_) #[true, true, true, true, true, true, true, true, true, true, true, true, true, true, true] rfl rfl (any_of HT_.out kR) (fun _ _ _ h => h) (Or.inl ⟨by rfl, ?_⟩) ?_ ?_
 rotate_left
 · intro w'
   go_simp
   with_reducible rfl
 rotate_left
 · refine apW ?_
   rfl
 refine done_ (done_of HT_.out kR) ?_
 have hcz16_0 : w15.cell? ⟨gb116, 0, none⟩ = some (.int .u32 a0_0) := (blk_cell BK116.out 0).trans rfl
 have hcz16_1 : w15.cell? ⟨gb116, 1, none⟩ = some (.int .u32 a0_1) := (blk_cell BK116.out 1).trans rfl
 have hcz16_2 : w15.cell? ⟨gb116, 2, none⟩ = some (.slice A0_2 l0_2.length c0_2) := (blk_cell BK116.out 2).trans rfl
 have hcz16_3 : w15.cell? ⟨gb116, 3, none⟩ = some (.int .u32 a0_3) := (blk_cell BK116.out 3).trans rfl
 have hfz16_0 := blk_frozen BK116.out 0
 have hfz16_1 := blk_frozen BK116.out 1
 have hfz16_2 := blk_frozen BK116.out 2
 have hfz16_3 := blk_frozen BK116.out 3
 try go_wp2
 go_loopg [5, 6, 34] k (fun kq v5 v6 v34 w' => ∃ (x5_1 : ByteArray) (x6_1 : ByteArray) (x34_1 : Int), v5 = .string x5_1 ∧ v6 = .string x6_1 ∧ v34 = .int .i64 x34_1 ∧ Aside0 (policy_rule.l0 kq x5_1 x6_1 l0_2 (l0_2.length : Int) x34_1 = some r) ∧ Aside0 (kq ≤ k) ∧ Aside0 (w'.heap[gb116]? = some (.cells #[.int .u32 a0_0, .int .u32 a0_1, (.slice A0_2 l0_2.length c0_2), .int .u32 a0_3] 40 (0, 0))) ∧ Aside0 (Below w.heap.size w w'))
 case atStart => exact ⟨((((((⟨#[111, 110, 32]⟩ : ByteArray) ++ t119) ++ (⟨#[32]⟩ : ByteArray)) ++ t120) ++ (⟨#[32]⟩ : ByteArray)) ++ t117), ((⟨#[32, 105, 102, 32]⟩ : ByteArray)), (0), (by first | rfl | (simp; done) | (simp [*]; done)), (by first | rfl | (simp; done) | (simp [*]; done)), (by first | rfl | (simp; done) | (simp [*]; done)), H', ⟨Nat.le_refl _⟩, ⟨by refine bkS ?_; exact BK116.out⟩, ⟨bl1 GE116.out⟩⟩
 case round =>
  clear H'
  try clear p2
  try clear c3
  try clear c4
  try clear c4b0
  try clear c4b1
  try clear c4b2
  try clear c5
  try clear c5b0
  try clear c5b1
  try clear c5b2
  try clear c7
  try clear c7b0
  try clear c7b1
  try clear c7b2
  try clear c8
  try clear c8b0
  try clear c8b1
  try clear c8b2
  try clear c9
  try clear c9b0
  try clear c9b1
  try clear c9b2
  try clear hcz11_0
  try clear hcz11_1
  try clear hcz11_2
  try clear hcz11_3
  try clear hcz16_0
  try clear hcz16_1
  try clear hcz16_2
  try clear hcz16_3
  try clear hfz11_0
  try clear hfz11_1
  try clear hfz11_2
  try clear hfz11_3
  try clear hfz16_0
  try clear hfz16_1
  try clear hfz16_2
  try clear hfz16_3
  obtain ⟨x5_1, x6_1, x34_1, rfl, rfl, rfl, HA, HK1, BK116, HB⟩ := hrel
  cases gk with
  | zero => exact absurd HA.out (by simp [policy_rule.l0])
  | succ k1 =>
   have H := HA.out
   clear HA
   simp only [policy_rule.l0] at H
   by_cases c17 : x34_1 < (l0_2.length : Int)
   rotate_left
   · rw [if_neg c17] at H
     have c17b0 : decide (x34_1 < (l0_2.length : Int)) = false := decide_eq_false c17
     clear c17
     obtain rfl := Option.some.inj H
     go_wp2
     go_ret
     exact ⟨erA, bl1 GE116.out⟩
   rw [if_pos c17] at H
   have c17b0 : decide (x34_1 < (l0_2.length : Int)) = true := decide_eq_true c17
   clear c17
   by_cases c18 : 0 ≤ x34_1
   rotate_left
   · rw [if_neg c18] at H
     exact absurd H (by simp)
   rw [if_pos c18] at H
   have c18b0 : decide (0 ≤ x34_1) = true := decide_eq_true c18
   clear c18
   by_cases c19 : x34_1 < (l0_2.length : Int)
   rotate_left
   · rw [if_neg c19] at H
     exact absurd H (by simp)
   rw [if_pos c19] at H
   have c19b0 : decide (x34_1 < (l0_2.length : Int)) = true := decide_eq_true c19
   clear c19
   replace H := Option.bind_eq_some_iff.mp H
   obtain ⟨⟨t123, t124⟩, A200, H⟩ := H
   replace H : (if x6_1.size + t123.size ≤ 9223372036854775807 then (if x5_1.size + (x6_1 ++ t123).size ≤ 9223372036854775807 then (policy_rule.l0 k1 (x5_1 ++ (x6_1 ++ t123)) (⟨#[32, 97, 110, 100, 32]⟩ : ByteArray) l0_2 (l0_2.length : Int) (wrap64 (x34_1 + 1))) else (none)) else (none)) = some r := H
   have A20 := aM A200
   clear A200
   by_cases c21 : x6_1.size + t123.size ≤ 9223372036854775807
   rotate_left
   · rw [if_neg c21] at H
     exact absurd H (by simp)
   rw [if_pos c21] at H
   have c21b0 := eq_true c21
   have c21b1 : decide (x6_1.size + t123.size ≤ 9223372036854775807) = true := decide_eq_true c21
   try have c21b2 : (9223372036854775807 < x6_1.size + t123.size) = False := eq_false (Nat.not_lt.2 c21)
   by_cases c22 : x5_1.size + (x6_1 ++ t123).size ≤ 9223372036854775807
   rotate_left
   · rw [if_neg c22] at H
     exact absurd H (by simp)
   rw [if_pos c22] at H
   have c22b0 := eq_true c22
   have c22b1 : decide (x5_1.size + (x6_1 ++ t123).size ≤ 9223372036854775807) = true := decide_eq_true c22
   try have c22b2 : (9223372036854775807 < x5_1.size + (x6_1 ++ t123).size) = False := eq_false (Nat.not_lt.2 c22)
   try have c22b3 : (9223372036854775807 < x5_1.size + x6_1.size + t123.size) = False := by have h := c22b2; simp only [ByteArray.size_append] at h; exact h
   have H' := aM H
   clear H
   have p121 : 0 ≤ (x34_1 : Int) := of_decide_eq_true as_
   have q121 : x34_1 < (l0_2.length : Int) := of_decide_eq_true as_
   obtain ⟨ad121, e121, hx121_0, hx121_1, hx121_2, hx121_3⟩ := at_T61 HR0_2.out x34_1 p121 q121
   cases e121
   replace hx121_0 := (HB.out.cell (World.block_lt_of_cell? w _ hx121_0)).trans hx121_0
   replace hx121_1 := (HB.out.cell (World.block_lt_of_cell? w _ hx121_1)).trans hx121_1
   replace hx121_2 := (HB.out.cell (World.block_lt_of_cell? w _ hx121_2)).trans hx121_2
   replace hx121_3 := (HB.out.cell (World.block_lt_of_cell? w _ hx121_3)).trans hx121_3
   replace p121 := eq_true p121
   replace q121 := eq_true q121
   go_wp2_with (first | ((with_reducible refine gate_dst (N := 8) rfl ?_); refine box_event ?hg (N := 8) ?hd (cs := #[.int .i64 0, .int .i64 0, .int .u64 0, .int .u64 0]) (t := 61) ?hr ?_; (case hd => rfl); (case hg => rfl); (case hr => first | (go_simp; done) | (go_simp; rfl)); intro gb122 hg w23 hbox hb; have n0_ := aM (blk_below (g := gb116) (o := .cells #[.int .u32 a0_0, .int .u32 a0_1, .slice (some ad121) l0_2.length c0_2, .int .u32 a0_3] 40 (0, 0)) (bkS BK116.out) hb); have n1_ := aM (below_step (bl1 GE116.out) hb); have n2_ := aM (hbox); have n3_ := aM ((by rw [hg]; exact (below_size (bl1 GE116.out)) : w.heap.size ≤ gb122)); have n4_ := aM ((by rw [hg]; exact (below_size (bl1 GE116.out)) : w.heap.size ≤ gb122)); have n5_ := aM ((by rw [hg]; exact Nat.ne_of_lt (blk_lt (g := gb116) (o := .cells #[.int .u32 a0_0, .int .u32 a0_1, .slice (some ad121) l0_2.length c0_2, .int .u32 a0_3] 40 (0, 0)) (bkS BK116.out)) : gb116 ≠ gb122)); have n6_ := aM ((by rw [hg]; exact Nat.ne_of_gt (blk_lt (g := gb116) (o := .cells #[.int .u32 a0_0, .int .u32 a0_1, .slice (some ad121) l0_2.length c0_2, .int .u32 a0_3] 40 (0, 0)) (bkS BK116.out)) : gb122 ≠ gb116)); clear BK116; clear HB; have BK116 := n0_; have HB := n1_; have BK122 := n2_; have GW122 := n3_; have GE122 := n4_; have NB116_122 := n5_; have NB122_116 := n6_; clear n0_ n1_ n2_ n3_ n4_ n5_ n6_; clear hb hbox hg; have hnb24 := NB122_116.out; have hnc24 := NB116_122.out; have hcz25_0 : w23.cell? ⟨gb122, 0, none⟩ = some (.int .i64 0) := (blk_cell BK122.out 0).trans rfl; have hcz25_1 : w23.cell? ⟨gb122, 1, none⟩ = some (.int .i64 0) := (blk_cell BK122.out 1).trans rfl; have hcz25_2 : w23.cell? ⟨gb122, 2, none⟩ = some (.int .u64 0) := (blk_cell BK122.out 2).trans rfl; have hcz25_3 : w23.cell? ⟨gb122, 3, none⟩ = some (.int .u64 0) := (blk_cell BK122.out 3).trans rfl; have hfz25_0 := blk_frozen BK122.out 0; have hfz25_1 := blk_frozen BK122.out 1; have hfz25_2 := blk_frozen BK122.out 2; have hfz25_3 := blk_frozen BK122.out 3) | ((with_reducible refine gate_callee (f := 50) rfl ?_); refine goesL_ (some 40) rfl rfl Try.func50 kR rfl #[.agg #[.int .i64 ((rd_T61 l0_2 x34_1).f0), .int .i64 ((rd_T61 l0_2 x34_1).f1), .int .u64 ((rd_T61 l0_2 x34_1).f2), .int .u64 ((rd_T61 l0_2 x34_1).f3)]] rfl mpA ?_; (with_reducible refine (cond_Print.calls ((rd_T61 l0_2 x34_1).f0) ((rd_T61 l0_2 x34_1).f1) ((rd_T61 l0_2 x34_1).f2) ((rd_T61 l0_2 x34_1).f3) t123 t124 _ A20.out).mono ?_); rintro e w26 ⟨rfl, hb⟩; refine ⟨_, rfl, ?_⟩; have n0_ := aM (blk_below (g := gb116) (o := .cells #[.int .u32 a0_0, .int .u32 a0_1, .slice (some ad121) l0_2.length c0_2, .int .u32 a0_3] 40 (0, 0)) (by refine bkS ?_; refine blk_far ?_ NB116_122.out _; refine bkS ?_; refine blk_far ?_ NB116_122.out _; refine bkS ?_; refine blk_far ?_ NB116_122.out _; refine bkS ?_; refine blk_far ?_ NB116_122.out _; refine bkS ?_; exact BK116.out) hb); have n1_ := aM (blk_below (g := gb122) (o := .cells #[.int .i64 ((rd_T61 l0_2 x34_1).f0), .int .i64 ((rd_T61 l0_2 x34_1).f1), .int .u64 ((rd_T61 l0_2 x34_1).f2), .int .u64 ((rd_T61 l0_2 x34_1).f3)] 61 (0, 0)) (by refine bkS ?_; refine blk_put (cs := #[.int .i64 ((rd_T61 l0_2 x34_1).f0), .int .i64 ((rd_T61 l0_2 x34_1).f1), .int .u64 ((rd_T61 l0_2 x34_1).f2), .int .u64 0]) ?_ 3 _ rfl; refine bkS ?_; refine blk_put (cs := #[.int .i64 ((rd_T61 l0_2 x34_1).f0), .int .i64 ((rd_T61 l0_2 x34_1).f1), .int .u64 0, .int .u64 0]) ?_ 2 _ rfl; refine bkS ?_; refine blk_put (cs := #[.int .i64 ((rd_T61 l0_2 x34_1).f0), .int .i64 0, .int .u64 0, .int .u64 0]) ?_ 1 _ rfl; refine bkS ?_; refine blk_put (cs := #[.int .i64 0, .int .i64 0, .int .u64 0, .int .u64 0]) ?_ 0 _ rfl; refine bkS ?_; exact BK122.out) hb); have n2_ := aM (below_step (bl2 GE116.out GE122.out) hb); clear BK116; clear BK122; clear HB; have BK116 := n0_; have BK122 := n1_; have HB := n2_; clear n0_ n1_ n2_; (try clear hb); (try clear hb2); (try clear hk); (try clear hi)))
   go_roundg k1
   case measure => have := HK1.out; omega
   case rel => exact ⟨(x5_1 ++ (x6_1 ++ t123)), ((⟨#[32, 97, 110, 100, 32]⟩ : ByteArray)), (wrap64 (x34_1 + 1)), (by first | rfl | (simp; done) | (simp [*]; done)), (by first | rfl | (simp; done) | (simp [*]; done)), (by first | rfl | (simp; done) | (simp [*]; done)), H', ⟨by have := HK1.out; omega⟩, ⟨by refine bkS ?_; exact BK116.out⟩, ⟨bl2 GE116.out GE122.out⟩⟩
def policy_Print.l0 : Nat → ByteArray → List (S40) → Int → Int → List (S40) → Int → Option (ByteArray × Int)
 | 0, _, _, _, _, _, _ => none
 | k + 1, x4, x13, x14, x15, x126000, x126001 => if x15 < x14 then (if 0 ≤ x15 then (if x15 < (x13.length : Int) then ((policy_rule.f k ((rd_T40 x13 x15).f0) ((rd_T40 x13 x15).f1) ((rd_T40 x13 x15).f2) ((rd_T40 x13 x15).f3)).bind fun t129 => (if t129.size + 1 ≤ 9223372036854775807 then (if x4.size + (t129 ++ (⟨#[10]⟩ : ByteArray)).size ≤ 9223372036854775807 then (policy_Print.l0 k (x4 ++ (t129 ++ (⟨#[10]⟩ : ByteArray))) x13 x14 (wrap64 (x15 + 1)) x126000 x126001) else (none)) else (none))) else (none)) else (none)) else ((names_Action.f x126001).bind fun bt130 => (if x4.size + 8 ≤ 9223372036854775807 then (if (x4 ++ (⟨#[100, 101, 102, 97, 117, 108, 116, 32]⟩ : ByteArray)).size + bt130.1.size ≤ 9223372036854775807 then (if ((x4 ++ (⟨#[100, 101, 102, 97, 117, 108, 116, 32]⟩ : ByteArray)) ++ bt130.1).size + 1 ≤ 9223372036854775807 then (some (((x4 ++ (⟨#[100, 101, 102, 97, 117, 108, 116, 32]⟩ : ByteArray)) ++ bt130.1) ++ (⟨#[10]⟩ : ByteArray), 0)) else (none)) else (none)) else (none)))
def policy_Print.f (k : Nat) (l0_0 : List (S40)) (a0_1 : Int) : Option (ByteArray × Int) := (policy_Right.f k l0_0 a0_1).bind fun t126 => (if t126 = true then (policy_Print.l0 k (⟨#[]⟩ : ByteArray) l0_0 (l0_0.length : Int) 0 l0_0 a0_1) else (some ((⟨#[]⟩ : ByteArray), 1)))
set_option maxHeartbeats 8000000 in
set_option maxRecDepth 100000 in
theorem policy_Print.calls (k : Nat) (A0_0 : Option Addr) (c0_0 : Nat) (l0_0 : List (S40)) (a0_1 : Int) (r1 : ByteArray) (r2 : Int) (w : World) (hr0_0 : Kd.C k40 w A0_0 l0_0.length l0_0) (hc0_0 : l0_0.length ≤ c0_0) (h : policy_Print.f k l0_0 a0_1 = some (r1, r2)) :
 Calls Try.prog 16 #[.agg #[.slice A0_0 l0_0.length c0_0, .int .u32 a0_1]] w fun e w' => e = .returned (.tuple #[.string r1, .int .i64 r2]) ∧ Below w.heap.size w w' := by
 have hu25 := Try.underlying25
 have hu40 := Try.underlying40
 have HR0_0 := aM hr0_0
 have HC0_0 := aM hc0_0
 clear hr0_0 hc0_0
 have HB := aM (Below.refl w.heap.size w)
 have H : ((policy_Right.f k l0_0 a0_1).bind fun t126 => (if t126 = true then (policy_Print.l0 k (⟨#[]⟩ : ByteArray) l0_0 (l0_0.length : Int) 0 l0_0 a0_1) else (some ((⟨#[]⟩ : ByteArray), 1)))) = some (r1, r2) := h
 clear h
 replace H := Option.bind_eq_some_iff.mp H
 obtain ⟨t126, A20, H⟩ := H
 replace H : (if t126 = true then (policy_Print.l0 k (⟨#[]⟩ : ByteArray) l0_0 (l0_0.length : Int) 0 l0_0 a0_1) else (some ((⟨#[]⟩ : ByteArray), 1))) = some (r1, r2) := H
 have A2 := aM A20
 clear A20
 by_cases c3 : t126 = true
 rotate_left
 · replace c3 := Bool.eq_false_iff.mpr c3
   subst c3
   have H1 : (some ((⟨#[]⟩ : ByteArray), 1)) = some (r1, r2) := by rw [if_neg (show ¬ (false = true) by decide)] at H; exact H
   clear H
   have H := H1
   clear H1
   simp only [Option.some.injEq, Prod.mk.injEq] at H
   obtain ⟨rfl, rfl⟩ := H
   go_enter Try.func16, Try.ntmps16
   go_wp2_with (first | ((with_reducible refine gate_dst (N := 1) rfl ?_); refine box_event ?hg (N := 1) ?hd (cs := #[.slice A0_0 l0_0.length c0_0, .int .u32 a0_1]) (t := 25) ?hr ?_; (case hd => rfl); (case hg => rfl); (case hr => first | (go_simp; done) | (go_simp; rfl)); intro gb125 hg w24 hbox hb; have n0_ := aM (below_step bl0 hb); have n1_ := aM (hbox); have n2_ := aM ((by rw [hg]; exact (below_size bl0) : w.heap.size ≤ gb125)); have n3_ := aM ((by rw [hg]; exact (below_size bl0) : w.heap.size ≤ gb125)); clear HB; have HB := n0_; have BK125 := n1_; have GW125 := n2_; have GE125 := n3_; clear n0_ n1_ n2_ n3_; clear hb hbox hg; have hcz25_0 : w24.cell? ⟨gb125, 0, none⟩ = some (.slice A0_0 l0_0.length c0_0) := (blk_cell BK125.out 0).trans rfl; have hcz25_1 : w24.cell? ⟨gb125, 1, none⟩ = some (.int .u32 a0_1) := (blk_cell BK125.out 1).trans rfl; have hfz25_0 := blk_frozen BK125.out 0; have hfz25_1 := blk_frozen BK125.out 1) | ((with_reducible refine gate_callee (f := 18) rfl ?_); refine goesL_ (some 10) rfl rfl Try.func18 kR rfl #[.agg #[.slice A0_0 l0_0.length c0_0, .int .u32 a0_1]] rfl mpA ?_; (with_reducible refine (policy_Right.calls k _ _ l0_0 a0_1 false _ ?side1 ?side2 A2.out).mono ?_); (case side1 => repeat (first | exact (Kd.C_below HR0_0.out HB.out) | (with_reducible refine Kd.C_alloc ?_ _) | (with_reducible refine Kd.C_drewN ?_ _) | (with_reducible refine Kd.C_drew ?_))); (case side2 => exact HC0_0.out); rintro e w26 ⟨rfl, hb⟩; refine ⟨_, rfl, ?_⟩; have n0_ := aM (blk_below (g := gb125) (o := .cells #[.slice A0_0 l0_0.length c0_0, .int .u32 a0_1] 25 (0, 0)) (bkS BK125.out) hb); have n1_ := aM (below_step (bl1 GE125.out) hb); clear BK125; clear HB; have BK125 := n0_; have HB := n1_; clear n0_ n1_; (try clear hb); (try clear hb2); (try clear hk); (try clear hi)))
   go_ret2
   exact ⟨erA, bl1 GE125.out⟩
 subst c3
 have H1 : (policy_Print.l0 k (⟨#[]⟩ : ByteArray) l0_0 (l0_0.length : Int) 0 l0_0 a0_1) = some (r1, r2) := by rw [if_pos rfl] at H; exact H
 clear H
 have H := H1
 clear H1
 have H' := aM H
 clear H
 go_enter Try.func16, Try.ntmps16
 go_wp2_with (first | ((with_reducible refine gate_dst (N := 1) rfl ?_); refine box_event ?hg (N := 1) ?hd (cs := #[.slice A0_0 l0_0.length c0_0, .int .u32 a0_1]) (t := 25) ?hr ?_; (case hd => rfl); (case hg => rfl); (case hr => first | (go_simp; done) | (go_simp; rfl)); intro gb125 hg w4 hbox hb; have n0_ := aM (below_step bl0 hb); have n1_ := aM (hbox); have n2_ := aM ((by rw [hg]; exact (below_size bl0) : w.heap.size ≤ gb125)); have n3_ := aM ((by rw [hg]; exact (below_size bl0) : w.heap.size ≤ gb125)); clear HB; have HB := n0_; have BK125 := n1_; have GW125 := n2_; have GE125 := n3_; clear n0_ n1_ n2_ n3_; clear hb hbox hg; have hcz5_0 : w4.cell? ⟨gb125, 0, none⟩ = some (.slice A0_0 l0_0.length c0_0) := (blk_cell BK125.out 0).trans rfl; have hcz5_1 : w4.cell? ⟨gb125, 1, none⟩ = some (.int .u32 a0_1) := (blk_cell BK125.out 1).trans rfl; have hfz5_0 := blk_frozen BK125.out 0; have hfz5_1 := blk_frozen BK125.out 1) | ((with_reducible refine gate_callee (f := 18) rfl ?_); refine goesL_ (some 10) rfl rfl Try.func18 kR rfl #[.agg #[.slice A0_0 l0_0.length c0_0, .int .u32 a0_1]] rfl mpA ?_; (with_reducible refine (policy_Right.calls k _ _ l0_0 a0_1 true _ ?side1 ?side2 A2.out).mono ?_); (case side1 => repeat (first | exact (Kd.C_below HR0_0.out HB.out) | (with_reducible refine Kd.C_alloc ?_ _) | (with_reducible refine Kd.C_drewN ?_ _) | (with_reducible refine Kd.C_drew ?_))); (case side2 => exact HC0_0.out); rintro e w6 ⟨rfl, hb⟩; refine ⟨_, rfl, ?_⟩; have n0_ := aM (blk_below (g := gb125) (o := .cells #[.slice A0_0 l0_0.length c0_0, .int .u32 a0_1] 25 (0, 0)) (bkS BK125.out) hb); have n1_ := aM (below_step (bl1 GE125.out) hb); clear BK125; clear HB; have BK125 := n0_; have HB := n1_; clear n0_ n1_; (try clear hb); (try clear hb2); (try clear hk); (try clear hi); have hcz7_0 : w6.cell? ⟨gb125, 0, none⟩ = some (.slice A0_0 l0_0.length c0_0) := (blk_cell BK125.out 0).trans rfl; have hcz7_1 : w6.cell? ⟨gb125, 1, none⟩ = some (.int .u32 a0_1) := (blk_cell BK125.out 1).trans rfl; have hfz7_0 := blk_frozen BK125.out 0; have hfz7_1 := blk_frozen BK125.out 1))
 go_loopg [4, 15] k (fun kq v4 v15 w' => ∃ (x4_1 : ByteArray) (x15_1 : Int), v4 = .string x4_1 ∧ v15 = .int .i64 x15_1 ∧ Aside0 (policy_Print.l0 kq x4_1 l0_0 (l0_0.length : Int) x15_1 l0_0 a0_1 = some (r1, r2)) ∧ Aside0 (kq ≤ k) ∧ Aside0 (w'.heap[gb125]? = some (.cells #[(.slice A0_0 l0_0.length c0_0), .int .u32 a0_1] 25 (0, 0))) ∧ Aside0 (Below w.heap.size w w'))
 case atStart => exact ⟨((⟨#[]⟩ : ByteArray)), (0), (by first | rfl | (simp; done) | (simp [*]; done)), (by first | rfl | (simp; done) | (simp [*]; done)), H', ⟨Nat.le_refl _⟩, ⟨by refine bkS ?_; exact BK125.out⟩, ⟨bl1 GE125.out⟩⟩
 case round =>
  clear H'
  try clear c1
  try clear p2
  try clear c3
  try clear hcz5_0
  try clear hcz5_1
  try clear hcz7_0
  try clear hcz7_1
  try clear hfz5_0
  try clear hfz5_1
  try clear hfz7_0
  try clear hfz7_1
  obtain ⟨x4_1, x15_1, rfl, rfl, HA, HK1, BK125, HB⟩ := hrel
  cases gk with
  | zero => exact absurd HA.out (by simp [policy_Print.l0])
  | succ k1 =>
   have H := HA.out
   clear HA
   simp only [policy_Print.l0] at H
   by_cases c8 : x15_1 < (l0_0.length : Int)
   rotate_left
   · rw [if_neg c8] at H
     have c8b0 : decide (x15_1 < (l0_0.length : Int)) = false := decide_eq_false c8
     clear c8
     replace H := Option.bind_eq_some_iff.mp H
     obtain ⟨⟨t130, t131⟩, A180, H⟩ := H
     replace H : (if x4_1.size + 8 ≤ 9223372036854775807 then (if (x4_1 ++ (⟨#[100, 101, 102, 97, 117, 108, 116, 32]⟩ : ByteArray)).size + t130.size ≤ 9223372036854775807 then (if ((x4_1 ++ (⟨#[100, 101, 102, 97, 117, 108, 116, 32]⟩ : ByteArray)) ++ t130).size + 1 ≤ 9223372036854775807 then (some (((x4_1 ++ (⟨#[100, 101, 102, 97, 117, 108, 116, 32]⟩ : ByteArray)) ++ t130) ++ (⟨#[10]⟩ : ByteArray), 0)) else (none)) else (none)) else (none)) = some (r1, r2) := H
     have A18 := aM A180
     clear A180
     by_cases c19 : x4_1.size + 8 ≤ 9223372036854775807
     rotate_left
     · rw [if_neg c19] at H
       exact absurd H (by simp)
     rw [if_pos c19] at H
     have c19b0 := eq_true c19
     have c19b1 : decide (x4_1.size + 8 ≤ 9223372036854775807) = true := decide_eq_true c19
     try have c19b2 : (9223372036854775807 < x4_1.size + 8) = False := eq_false (Nat.not_lt.2 c19)
     by_cases c20 : (x4_1 ++ (⟨#[100, 101, 102, 97, 117, 108, 116, 32]⟩ : ByteArray)).size + t130.size ≤ 9223372036854775807
     rotate_left
     · rw [if_neg c20] at H
       exact absurd H (by simp)
     rw [if_pos c20] at H
     have c20b0 := eq_true c20
     have c20b1 : decide ((x4_1 ++ (⟨#[100, 101, 102, 97, 117, 108, 116, 32]⟩ : ByteArray)).size + t130.size ≤ 9223372036854775807) = true := decide_eq_true c20
     try have c20b2 : (9223372036854775807 < (x4_1 ++ (⟨#[100, 101, 102, 97, 117, 108, 116, 32]⟩ : ByteArray)).size + t130.size) = False := eq_false (Nat.not_lt.2 c20)
     try have c20b3 : (9223372036854775807 < x4_1.size + 8 + t130.size) = False := by have h := c20b2; simp only [ByteArray.size_append] at h; exact h
     by_cases c21 : ((x4_1 ++ (⟨#[100, 101, 102, 97, 117, 108, 116, 32]⟩ : ByteArray)) ++ t130).size + 1 ≤ 9223372036854775807
     rotate_left
     · rw [if_neg c21] at H
       exact absurd H (by simp)
     rw [if_pos c21] at H
     have c21b0 := eq_true c21
     have c21b1 : decide (((x4_1 ++ (⟨#[100, 101, 102, 97, 117, 108, 116, 32]⟩ : ByteArray)) ++ t130).size + 1 ≤ 9223372036854775807) = true := decide_eq_true c21
     try have c21b2 : (9223372036854775807 < ((x4_1 ++ (⟨#[100, 101, 102, 97, 117, 108, 116, 32]⟩ : ByteArray)) ++ t130).size + 1) = False := eq_false (Nat.not_lt.2 c21)
     try have c21b3 : (9223372036854775807 < x4_1.size + 8 + t130.size + 1) = False := by have h := c21b2; simp only [ByteArray.size_append] at h; exact h
     simp only [Option.some.injEq, Prod.mk.injEq] at H
     obtain ⟨rfl, rfl⟩ := H
     have hcz22_0 : wr.cell? ⟨gb125, 0, none⟩ = some (.slice A0_0 l0_0.length c0_0) := (blk_cell BK125.out 0).trans rfl
     have hcz22_1 : wr.cell? ⟨gb125, 1, none⟩ = some (.int .u32 a0_1) := (blk_cell BK125.out 1).trans rfl
     have hfz22_0 := blk_frozen BK125.out 0
     have hfz22_1 := blk_frozen BK125.out 1
     go_wp2_with (first | ((with_reducible refine gate_callee (f := 32) rfl ?_); refine goesL_ (some 28) rfl rfl Try.func32 kR rfl #[.int .u32 a0_1] rfl mpA ?_; (with_reducible refine (names_Action.calls a0_1 t130 t131 _ A18.out).mono ?_); rintro e w23 ⟨rfl, hb⟩; refine ⟨_, rfl, ?_⟩; have n0_ := aM (blk_below (g := gb125) (o := .cells #[.slice A0_0 l0_0.length c0_0, .int .u32 a0_1] 25 (0, 0)) (bkS BK125.out) hb); have n1_ := aM (below_step (bl1 GE125.out) hb); clear BK125; clear HB; have BK125 := n0_; have HB := n1_; clear n0_ n1_; (try clear hb); (try clear hb2); (try clear hk); (try clear hi)))
     go_ret2
     exact ⟨erA, bl1 GE125.out⟩
   rw [if_pos c8] at H
   have c8b0 : decide (x15_1 < (l0_0.length : Int)) = true := decide_eq_true c8
   clear c8
   by_cases c9 : 0 ≤ x15_1
   rotate_left
   · rw [if_neg c9] at H
     exact absurd H (by simp)
   rw [if_pos c9] at H
   have c9b0 : decide (0 ≤ x15_1) = true := decide_eq_true c9
   clear c9
   by_cases c10 : x15_1 < (l0_0.length : Int)
   rotate_left
   · rw [if_neg c10] at H
     exact absurd H (by simp)
   rw [if_pos c10] at H
   have c10b0 : decide (x15_1 < (l0_0.length : Int)) = true := decide_eq_true c10
   clear c10
   replace H := Option.bind_eq_some_iff.mp H
   obtain ⟨t129, A110, H⟩ := H
   replace H : (if t129.size + 1 ≤ 9223372036854775807 then (if x4_1.size + (t129 ++ (⟨#[10]⟩ : ByteArray)).size ≤ 9223372036854775807 then (policy_Print.l0 k1 (x4_1 ++ (t129 ++ (⟨#[10]⟩ : ByteArray))) l0_0 (l0_0.length : Int) (wrap64 (x15_1 + 1)) l0_0 a0_1) else (none)) else (none)) = some (r1, r2) := H
   have A11 := aM A110
   clear A110
   by_cases c12 : t129.size + 1 ≤ 9223372036854775807
   rotate_left
   · rw [if_neg c12] at H
     exact absurd H (by simp)
   rw [if_pos c12] at H
   have c12b0 := eq_true c12
   have c12b1 : decide (t129.size + 1 ≤ 9223372036854775807) = true := decide_eq_true c12
   try have c12b2 : (9223372036854775807 < t129.size + 1) = False := eq_false (Nat.not_lt.2 c12)
   by_cases c13 : x4_1.size + (t129 ++ (⟨#[10]⟩ : ByteArray)).size ≤ 9223372036854775807
   rotate_left
   · rw [if_neg c13] at H
     exact absurd H (by simp)
   rw [if_pos c13] at H
   have c13b0 := eq_true c13
   have c13b1 : decide (x4_1.size + (t129 ++ (⟨#[10]⟩ : ByteArray)).size ≤ 9223372036854775807) = true := decide_eq_true c13
   try have c13b2 : (9223372036854775807 < x4_1.size + (t129 ++ (⟨#[10]⟩ : ByteArray)).size) = False := eq_false (Nat.not_lt.2 c13)
   try have c13b3 : (9223372036854775807 < x4_1.size + t129.size + 1) = False := by have h := c13b2; simp only [ByteArray.size_append] at h; exact h
   have H' := aM H
   clear H
   have p127 : 0 ≤ (x15_1 : Int) := of_decide_eq_true as_
   have q127 : x15_1 < (l0_0.length : Int) := of_decide_eq_true as_
   obtain ⟨ad127, A127_2, c127_2, e127, hx127_0, hx127_1, hx127_2, hx127_3, hl127_2, hi127_2⟩ := at_T40 HR0_0.out x15_1 p127 q127
   cases e127
   replace hx127_0 := (HB.out.cell (World.block_lt_of_cell? w _ hx127_0)).trans hx127_0
   replace hx127_1 := (HB.out.cell (World.block_lt_of_cell? w _ hx127_1)).trans hx127_1
   replace hx127_2 := (HB.out.cell (World.block_lt_of_cell? w _ hx127_2)).trans hx127_2
   replace hx127_3 := (HB.out.cell (World.block_lt_of_cell? w _ hx127_3)).trans hx127_3
   have HR127_2 := aM hi127_2
   have HC127_2 := aM hl127_2
   clear hi127_2 hl127_2
   replace p127 := eq_true p127
   replace q127 := eq_true q127
   go_wp2_with (first | ((with_reducible refine gate_dst (N := 6) rfl ?_); refine box_event ?hg (N := 6) ?hd (cs := #[.int .u32 0, .int .u32 0, .slice none 0 0, .int .u32 0]) (t := 40) ?hr ?_; (case hd => rfl); (case hg => rfl); (case hr => first | (go_simp; done) | (go_simp; rfl)); intro gb128 hg w14 hbox hb; have n0_ := aM (blk_below (g := gb125) (o := .cells #[.slice (some ad127) l0_0.length c0_0, .int .u32 a0_1] 25 (0, 0)) (bkS BK125.out) hb); have n1_ := aM (below_step (bl1 GE125.out) hb); have n2_ := aM (hbox); have n3_ := aM ((by rw [hg]; exact (below_size (bl1 GE125.out)) : w.heap.size ≤ gb128)); have n4_ := aM ((by rw [hg]; exact (below_size (bl1 GE125.out)) : w.heap.size ≤ gb128)); have n5_ := aM ((by rw [hg]; exact Nat.ne_of_lt (blk_lt (g := gb125) (o := .cells #[.slice (some ad127) l0_0.length c0_0, .int .u32 a0_1] 25 (0, 0)) (bkS BK125.out)) : gb125 ≠ gb128)); have n6_ := aM ((by rw [hg]; exact Nat.ne_of_gt (blk_lt (g := gb125) (o := .cells #[.slice (some ad127) l0_0.length c0_0, .int .u32 a0_1] 25 (0, 0)) (bkS BK125.out)) : gb128 ≠ gb125)); clear BK125; clear HB; have BK125 := n0_; have HB := n1_; have BK128 := n2_; have GW128 := n3_; have GE128 := n4_; have NB125_128 := n5_; have NB128_125 := n6_; clear n0_ n1_ n2_ n3_ n4_ n5_ n6_; clear hb hbox hg; have hnb15 := NB128_125.out; have hnc15 := NB125_128.out; have hcz16_0 : w14.cell? ⟨gb128, 0, none⟩ = some (.int .u32 0) := (blk_cell BK128.out 0).trans rfl; have hcz16_1 : w14.cell? ⟨gb128, 1, none⟩ = some (.int .u32 0) := (blk_cell BK128.out 1).trans rfl; have hcz16_2 : w14.cell? ⟨gb128, 2, none⟩ = some (.slice none 0 0) := (blk_cell BK128.out 2).trans rfl; have hcz16_3 : w14.cell? ⟨gb128, 3, none⟩ = some (.int .u32 0) := (blk_cell BK128.out 3).trans rfl; have hfz16_0 := blk_frozen BK128.out 0; have hfz16_1 := blk_frozen BK128.out 1; have hfz16_2 := blk_frozen BK128.out 2; have hfz16_3 := blk_frozen BK128.out 3) | ((with_reducible refine gate_callee (f := 31) rfl ?_); refine goesL_ (some 21) rfl rfl Try.func31 kR rfl #[.agg #[.int .u32 ((rd_T40 l0_0 x15_1).f0), .int .u32 ((rd_T40 l0_0 x15_1).f1), .slice A127_2 ((rd_T40 l0_0 x15_1).f2).length c127_2, .int .u32 ((rd_T40 l0_0 x15_1).f3)]] rfl mpA ?_; (with_reducible refine (policy_rule.calls k1 ((rd_T40 l0_0 x15_1).f0) ((rd_T40 l0_0 x15_1).f1) _ _ ((rd_T40 l0_0 x15_1).f2) ((rd_T40 l0_0 x15_1).f3) t129 _ ?side1 ?side2 A11.out).mono ?_); (case side1 => exact Kd.C_below HR127_2.out (bl2 GE125.out GE128.out)); (case side2 => exact HC127_2.out); rintro e w17 ⟨rfl, hb⟩; refine ⟨_, rfl, ?_⟩; have n0_ := aM (blk_below (g := gb125) (o := .cells #[.slice (some ad127) l0_0.length c0_0, .int .u32 a0_1] 25 (0, 0)) (by refine bkS ?_; refine blk_far ?_ NB125_128.out _; refine bkS ?_; refine blk_far ?_ NB125_128.out _; refine bkS ?_; refine blk_far ?_ NB125_128.out _; refine bkS ?_; refine blk_far ?_ NB125_128.out _; refine bkS ?_; exact BK125.out) hb); have n1_ := aM (blk_below (g := gb128) (o := .cells #[.int .u32 ((rd_T40 l0_0 x15_1).f0), .int .u32 ((rd_T40 l0_0 x15_1).f1), .slice A127_2 ((rd_T40 l0_0 x15_1).f2).length c127_2, .int .u32 ((rd_T40 l0_0 x15_1).f3)] 40 (0, 0)) (by refine bkS ?_; refine blk_put (cs := #[.int .u32 ((rd_T40 l0_0 x15_1).f0), .int .u32 ((rd_T40 l0_0 x15_1).f1), .slice A127_2 ((rd_T40 l0_0 x15_1).f2).length c127_2, .int .u32 0]) ?_ 3 _ rfl; refine bkS ?_; refine blk_put (cs := #[.int .u32 ((rd_T40 l0_0 x15_1).f0), .int .u32 ((rd_T40 l0_0 x15_1).f1), .slice none 0 0, .int .u32 0]) ?_ 2 _ rfl; refine bkS ?_; refine blk_put (cs := #[.int .u32 ((rd_T40 l0_0 x15_1).f0), .int .u32 0, .slice none 0 0, .int .u32 0]) ?_ 1 _ rfl; refine bkS ?_; refine blk_put (cs := #[.int .u32 0, .int .u32 0, .slice none 0 0, .int .u32 0]) ?_ 0 _ rfl; refine bkS ?_; exact BK128.out) hb); have n2_ := aM (below_step (bl2 GE125.out GE128.out) hb); clear BK125; clear BK128; clear HB; have BK125 := n0_; have BK128 := n1_; have HB := n2_; clear n0_ n1_ n2_; (try clear hb); (try clear hb2); (try clear hk); (try clear hi)))
   go_roundg k1
   case measure => have := HK1.out; omega
   case rel => exact ⟨(x4_1 ++ (t129 ++ (⟨#[10]⟩ : ByteArray))), (wrap64 (x15_1 + 1)), (by first | rfl | (simp; done) | (simp [*]; done)), (by first | rfl | (simp; done) | (simp [*]; done)), H', ⟨by have := HK1.out; omega⟩, ⟨by refine bkS ?_; exact BK125.out⟩, ⟨bl2 GE125.out GE128.out⟩⟩
def IsS65 (w0 W : World) (g : Nat) (f0 : ByteArray) (f1 : Bool) (f2 : Bool) : Prop := W.heap[g]? = some (.cells #[.string f0, .bool f1, .bool f2] 65 (0, 0)) ∧ w0.heap.size ≤ g
theorem IsS65.grown {w0 W : World} {g : Nat} {f0 : ByteArray} {f1 : Bool} {f2 : Bool} {W1 : World} {row : Option Nat} (h : IsS65 w0 W g f0 f1 f2) (hw : W.grownBy W1 row) (hne : some g ≠ row) : IsS65 w0 W1 g f0 f1 f2 := by
 obtain ⟨hb, hg⟩ := h
 exact ⟨blk_grown hb hw hne, hg⟩
theorem IsS65.kept {w0 W : World} {g : Nat} {f0 : ByteArray} {f1 : Bool} {f2 : Bool} {W1 : World} {S : Nat → Prop} (h : IsS65 w0 W g f0 f1 f2) (hk : Kept W W1 S) (hne : ¬ S g) : IsS65 w0 W1 g f0 f1 f2 := by
 obtain ⟨hb, hg⟩ := h
 exact ⟨blk_kept hb hk hne, hg⟩
theorem IsS65.below {w0 W : World} {g : Nat} {f0 : ByteArray} {f1 : Bool} {f2 : Bool} {W1 : World} (h : IsS65 w0 W g f0 f1 f2) (hw : Below W.heap.size W W1) : IsS65 w0 W1 g f0 f1 f2 := h.grown (grown_of_below hw none) (by simp)
theorem IsS65.alloc {w0 W : World} {g : Nat} {f0 : ByteArray} {f1 : Bool} {f2 : Bool} (h : IsS65 w0 W g f0 f1 f2) (o : Obj) : IsS65 w0 (W.alloc o) g f0 f1 f2 := h.below (below_alloc (Below.refl _ _) o)
theorem IsS65.drewN {w0 W : World} {g : Nat} {f0 : ByteArray} {f1 : Bool} {f2 : Bool} (h : IsS65 w0 W g f0 f1 f2) (m : Nat) : IsS65 w0 (W.drewN m) g f0 f1 f2 := h
theorem IsS65.drew {w0 W : World} {g : Nat} {f0 : ByteArray} {f1 : Bool} {f2 : Bool} (h : IsS65 w0 W g f0 f1 f2) : IsS65 w0 W.drew g f0 f1 f2 := h
theorem IsS65.at_ {w0 W : World} {g : Nat} {f0 : ByteArray} {f1 : Bool} {f2 : Bool} {w' : World} {m : Nat} (hq : W.drewN m = w') (h : IsS65 w0 W g f0 f1 f2) : IsS65 w0 w' g f0 f1 f2 := by subst hq; exact IsS65.drewN h m
theorem IsS65.apart {w0 W : World} {g : Nat} {f0 : ByteArray} {f1 : Bool} {f2 : Bool} {α : Type} {d : Kd α} {e : Nat} {base : Nat} {ok : Nat → Prop} {v : Value} {xs : List α} (h : IsS65 w0 W g f0 f1 f2) (ho : d.R e W base ok v xs) (ht : ∀ q, q ∈ e :: d.E → q ≠ 65) : d.R e W base (fun k => ok k ∧ k ≠ g) v xs := by
 obtain ⟨hb, hg⟩ := h
 exact Kd.R_types ho hb ht
theorem IsS65.own_ne {w0 W : World} {g : Nat} {f0 : ByteArray} {f1 : Bool} {f2 : Bool} {α : Type} {d : Kd α} {e : Nat} {base : Nat} {ok : Nat → Prop} {v : Value} {xs : List α} (h : IsS65 w0 W g f0 f1 f2) (ho : d.R e W base ok v xs) (ht : e ≠ 65) : some g ≠ v.ownBlock := by
 obtain ⟨hb, hg⟩ := h
 exact Kd.R_ne ho hb ht
theorem IsS65.own_neS {w0 W : World} {g : Nat} {f0 : ByteArray} {f1 : Bool} {f2 : Bool} {α : Type} {d : Kd α} {e : Nat} {base : Nat} {ok : Nat → Prop} {v : Value} {xs : List α} (h : IsS65 w0 W g f0 f1 f2) (ho : d.S e W base ok v xs) (ht : e ≠ 65) : some g ≠ v.ownBlock := by
 obtain ⟨hb, hg⟩ := h
 exact Kd.S_ne ho hb ht
theorem IsS65.lt {w0 W : World} {g : Nat} {f0 : ByteArray} {f1 : Bool} {f2 : Bool} (h : IsS65 w0 W g f0 f1 f2) : g < W.heap.size := by
 obtain ⟨hb, hg⟩ := h
 exact blk_lt hb
theorem IsS65.ge {w0 W : World} {g : Nat} {f0 : ByteArray} {f1 : Bool} {f2 : Bool} (h : IsS65 w0 W g f0 f1 f2) : w0.heap.size ≤ g := by
 obtain ⟨hb, hg⟩ := h
 exact hg
theorem IsS65.far {w0 W : World} {g : Nat} {f0 : ByteArray} {f1 : Bool} {f2 : Bool} {p : Addr} (h : IsS65 w0 W g f0 f1 f2) (hne : g ≠ p.block) (u : Value) : IsS65 w0 (W.setCell p u) g f0 f1 f2 := by
 obtain ⟨hb, hg⟩ := h
 exact ⟨blk_far hb hne u, hg⟩
theorem cellS65_0 {W : World} {g : Nat} {f0 : ByteArray} {f1 : Bool} {f2 : Bool} (h : W.heap[g]? = some (.cells #[.string f0, .bool f1, .bool f2] 65 (0, 0))) : W.cell? ⟨g, 0, none⟩ = some (.string f0) := (blk_cell h 0).trans rfl
theorem IsS65.set_0 {w0 W : World} {g : Nat} {f0 : ByteArray} {f1 : Bool} {f2 : Bool} (h : IsS65 w0 W g f0 f1 f2) (x : ByteArray) : IsS65 w0 (W.setCell ⟨g, 0, none⟩ (.string x)) g x f1 f2 := by
 obtain ⟨hb, hg⟩ := h
 exact ⟨by simpa using blk_set hb 0 (.string x), hg⟩
theorem cellS65_1 {W : World} {g : Nat} {f0 : ByteArray} {f1 : Bool} {f2 : Bool} (h : W.heap[g]? = some (.cells #[.string f0, .bool f1, .bool f2] 65 (0, 0))) : W.cell? ⟨g, 1, none⟩ = some (.bool f1) := (blk_cell h 1).trans rfl
theorem IsS65.set_1 {w0 W : World} {g : Nat} {f0 : ByteArray} {f1 : Bool} {f2 : Bool} (h : IsS65 w0 W g f0 f1 f2) (x : Bool) : IsS65 w0 (W.setCell ⟨g, 1, none⟩ (.bool x)) g f0 x f2 := by
 obtain ⟨hb, hg⟩ := h
 exact ⟨by simpa using blk_set hb 1 (.bool x), hg⟩
theorem cellS65_2 {W : World} {g : Nat} {f0 : ByteArray} {f1 : Bool} {f2 : Bool} (h : W.heap[g]? = some (.cells #[.string f0, .bool f1, .bool f2] 65 (0, 0))) : W.cell? ⟨g, 2, none⟩ = some (.bool f2) := (blk_cell h 2).trans rfl
theorem IsS65.set_2 {w0 W : World} {g : Nat} {f0 : ByteArray} {f1 : Bool} {f2 : Bool} (h : IsS65 w0 W g f0 f1 f2) (x : Bool) : IsS65 w0 (W.setCell ⟨g, 2, none⟩ (.bool x)) g f0 f1 x := by
 obtain ⟨hb, hg⟩ := h
 exact ⟨by simpa using blk_set hb 2 (.bool x), hg⟩
def policy_reader_must.f (s0_0 : ByteArray) (s0_1 : Bool) (s0_2 : Bool) (a1 : Int) : Option (ByteArray × Bool × Bool) := if s0_2 = true then (some (s0_0, s0_1, true)) else (some (s0_0, s0_1, (a1 != 0)))
set_option maxHeartbeats 8000000 in
set_option maxRecDepth 100000 in
theorem policy_reader_must.calls (g : Nat) (s0_0 : ByteArray) (s0_1 : Bool) (s0_2 : Bool) (a1 : Int) (r1 : ByteArray) (r2 : Bool) (r3 : Bool) (w0 w : World) (hI : IsS65 w0 w g s0_0 s0_1 s0_2) (hB : Below w0.heap.size w0 w) (h : policy_reader_must.f s0_0 s0_1 s0_2 a1 = some (r1, r2, r3)) :
 Calls Try.prog 40 #[.pointer (some ⟨g, 0, none⟩), .int .i64 a1] w fun e w' => e = .returned (.tuple #[]) ∧ IsS65 w0 w' g r1 r2 r3 ∧ Below w0.heap.size w0 w' ∧ KeepBut w w' g none := by
 have HI0 := aM hI
 have HK := aM (KeepBut.refl w g none)
 have HL := aM hB.size
 clear hI
 have HW0 := aM hB.size
 have HB := aM hB
 clear hB
 have H : (if s0_2 = true then (some (s0_0, s0_1, true)) else (some (s0_0, s0_1, (a1 != 0)))) = some (r1, r2, r3) := h
 clear h
 by_cases c3 : s0_2 = true
 · subst c3
   have H1 : (some (s0_0, s0_1, true)) = some (r1, r2, r3) := by rw [if_pos rfl] at H; exact H
   clear H
   have H := H1
   clear H1
   simp only [Option.some.injEq, Prod.mk.injEq] at H
   obtain ⟨rfl, rfl, rfl⟩ := H
   obtain ⟨HGz4, hgz4⟩ := HI0.out
   have hcz4_0 := cellS65_0 HGz4
   have hcz4_1 := cellS65_1 HGz4
   have hcz4_2 := cellS65_2 HGz4
   have hfz4_0 := blk_frozen HGz4 0
   have hfz4_1 := blk_frozen HGz4 1
   have hfz4_2 := blk_frozen HGz4 2
   clear HGz4 hgz4
   go_enter Try.func40, Try.ntmps40
   go_wp2
   first | go_end0 | ((try simp only [Exit.inBlock, Exit.then]); refine bodyPost_ret (results_none rfl _ _ _) rfl ?_)
   exact ⟨erA, by repeat (first | (with_reducible first | exact HI0.out | apply IsS65.alloc | apply IsS65.drewN | apply IsS65.drew | apply IsS65.set_0 | apply IsS65.set_1 | apply IsS65.set_2) | exact HI0.out), bl1 (IsS65.ge HI0.out), by repeat (first | (with_reducible first | exact HK.out | apply KeepBut.set_ | apply keep_drewN | apply keep_drew | apply keep_alloc) | exact HK.out)⟩
 replace c3 := Bool.eq_false_iff.mpr c3
 subst c3
 have H1 : (some (s0_0, s0_1, (a1 != 0))) = some (r1, r2, r3) := by rw [if_neg (show ¬ (false = true) by decide)] at H; exact H
 clear H
 have H := H1
 clear H1
 simp only [Option.some.injEq, Prod.mk.injEq] at H
 obtain ⟨rfl, rfl, rfl⟩ := H
 obtain ⟨HGz5, hgz5⟩ := HI0.out
 have hcz5_0 := cellS65_0 HGz5
 have hcz5_1 := cellS65_1 HGz5
 have hcz5_2 := cellS65_2 HGz5
 have hfz5_0 := blk_frozen HGz5 0
 have hfz5_1 := blk_frozen HGz5 1
 have hfz5_2 := blk_frozen HGz5 2
 clear HGz5 hgz5
 go_enter Try.func40, Try.ntmps40
 go_wp2
 first | go_end0 | ((try simp only [Exit.inBlock, Exit.then]); refine bodyPost_ret (results_none rfl _ _ _) rfl ?_)
 exact ⟨erA, by repeat (first | (with_reducible first | exact HI0.out | apply IsS65.alloc | apply IsS65.drewN | apply IsS65.drew | apply IsS65.set_0 | apply IsS65.set_1 | apply IsS65.set_2) | exact HI0.out), bl1 (IsS65.ge HI0.out), by repeat (first | (with_reducible first | exact HK.out | apply KeepBut.set_ | apply keep_drewN | apply keep_drew | apply keep_alloc) | exact HK.out)⟩
end Go.Proofs.Ytekpbgmmogpbdaa.P
set_option maxRecDepth 100000
namespace Go.Proofs.Ytekpbgmmogpbdaa.H
open Go.RowKit Go.Proofs.YtekpbgmmogpbdaaW.PrintWords
def wordF (s : ByteArray) (e b : Bool) : ByteArray × ByteArray × Bool × Bool :=
 if e = true then (⟨#[]⟩, s, true, true) else if (32 : UInt8) ∈ s.data.toList then (ofBytes (cutL s.data.toList).1, ofBytes (cutL s.data.toList).2, false, b) else (s, s, true, b)
def RdRow (W : World) (g : Nat) (s : ByteArray) (e b : Bool) : Prop := W.heap[g]? = some (.cells #[.string s, .bool e, .bool b] 65 (0, 0))
theorem below_far {g j : Nat} {w w1 : World} (h : Below g w w1) (u : Value) : Below g w (w1.setCell ⟨g, j, none⟩ u) :=
 h.trans ⟨rfl, rfl, rfl, by simp [World.setCell], fun q hq => heap_setCell_other _ _ _ _ (by simp; omega)⟩
def WordEnd (g : Nat) (w : World) (r s : ByteArray) (e b : Bool) (en : Ending) (w' : World) : Prop := en = .returned (.string r) ∧ RdRow w' g s e b ∧ KeepBut w w' g none ∧ Below g w w'
set_option maxHeartbeats 2000000 in
theorem word_end (g : Nat) (s : ByteArray) (b : Bool) (w : World) (hg : RdRow w g s true b) :
 Calls Try.prog 37 #[.pointer (some ⟨g, 0, none⟩)] w (WordEnd g w ⟨#[]⟩ s true true) := by
 unfold RdRow at hg
 have c0 := (blk_cell hg 0 : w.cell? ⟨g, 0, none⟩ = _)
 have c1 := (blk_cell hg 1 : w.cell? ⟨g, 1, none⟩ = _)
 have c2 := (blk_cell hg 2 : w.cell? ⟨g, 2, none⟩ = _)
 have f2 : w.frozen? ⟨g, 2, none⟩ = false := blk_frozen hg 2
 have HG := Lib.hid hg
 clear hg
 go_enter Try.func37, Try.ntmps37
 go_wp2
 go_ret
 exact ⟨rfl, blk_set HG.out 2 _, (KeepBut.refl w g none).set_ 2 _, below_far (Below.refl _ _) _⟩
theorem mem32 (s : ByteArray) (pos : Nat) (h : pos < s.size) (h32 : (s[pos]'h).toNat = 32) : (32 : UInt8) ∈ s.data.toList := by
 have := ba_get s pos h
 have e : s[pos]'h = 32 := UInt8.toNat_inj.1 h32
 rw [e] at this
 exact List.mem_of_getElem? this
theorem not_mem32 (s : ByteArray) (hb : ∀ j (hj : j < s.size), (s[j]'hj).toNat ≠ 32) : (32 : UInt8) ∉ s.data.toList := by
 intro hm
 obtain ⟨j, hj⟩ := List.mem_iff_getElem?.1 hm
 by_cases h : j < s.size
 rotate_left
 · rw [List.getElem?_eq_none (by simp; omega)] at hj
   simp at hj
 rw [ba_get s j h] at hj
 injection hj with hj
 exact hb j h (by rw [hj]; rfl)
set_option maxHeartbeats 2000000 in
theorem word_go (g : Nat) (s : ByteArray) (b : Bool) (hsz : s.size ≤ 140737488351232) (w : World) (hg : RdRow w g s false b) :
 Calls Try.prog 37 #[.pointer (some ⟨g, 0, none⟩)] w (WordEnd g w (wordF s false b).1 (wordF s false b).2.1 (wordF s false b).2.2.1 (wordF s false b).2.2.2) := by
 obtain ⟨r1, hr1⟩ : ∃ r, ofBytes (cutL s.data.toList).1 = r := ⟨_, rfl⟩
 obtain ⟨r2, hr2⟩ : ∃ r, ofBytes (cutL s.data.toList).2 = r := ⟨_, rfl⟩
 have HF := Lib.hid (fun pos h h32 hb => hr1 ▸ hr2 ▸ cut_found s pos h h32 hb)
 have HW := Lib.hid (show (32 : UInt8) ∈ s.data.toList → wordF s false b = (r1, r2, false, b) from fun h => by unfold wordF; rw [if_neg (by decide), if_pos h, hr1, hr2])
 have HV := Lib.hid (show (32 : UInt8) ∉ s.data.toList → wordF s false b = (s, s, true, b) from fun h => by unfold wordF; rw [if_neg (by decide), if_neg h])
 generalize wordF s false b = wf at *
 clear hr1 hr2
 unfold RdRow at hg
 have c0 := (blk_cell hg 0 : w.cell? ⟨g, 0, none⟩ = _)
 have c1 := (blk_cell hg 1 : w.cell? ⟨g, 1, none⟩ = _)
 have c2 := (blk_cell hg 2 : w.cell? ⟨g, 2, none⟩ = _)
 have HG := Lib.hid hg
 clear hg
 go_enter Try.func37, Try.ntmps37
 go_wp2_with fail
 clear c0 c1 c2
 go_loopw [3, 4] (fun _ _ wr => CutRel w s wr) (fun _ _ wr => s.size - wr.iterPos w.heap.size)
 case atStart => exact ⟨0, rfl, by omega, fun j hj h => by omega⟩
 case round =>
  obtain ⟨pos, rfl, hp, hbef⟩ := hrel
  have HBF := Lib.hid hbef
  clear hbef
  by_cases hlt : pos < s.size
  rotate_left
  · have hnx : ∀ ty, (Instr.next (.pointer (some ⟨w.heap.size, 0, none⟩)) true ty).run Try.prog (w.iter s pos) = _ := fun ty => run_next_end w s pos ty hlt
    have HWF := Lib.hid (HV.out (not_mem32 s (fun j hj => HBF.out j hj (by omega))))
    have hb2 := iter_below w s pos
    have hg2 := blk_below HG.out hb2
    have HB2 := Lib.hid hb2
    have HG2 := Lib.hid hg2
    have d0 := (blk_cell hg2 0 : (w.iter s pos).cell? ⟨g, 0, none⟩ = _)
    have d1 := (blk_cell hg2 1 : (w.iter s pos).cell? ⟨g, 1, none⟩ = _)
    have f1 : (w.iter s pos).frozen? ⟨g, 1, none⟩ = false := blk_frozen hg2 1
    have hlt2 := Lib.hid (blk_lt HG.out)
    clear hb2 hg2
    go_wp2
    go_ret
    rw [HWF.out]
    exact ⟨rfl, blk_set HG2.out 1 _, (KeepBut.of_below HB2.out g none).set_ 1 _, below_far (HB2.out.mono (Nat.le_of_lt hlt2.out)) _⟩
  by_cases ha : (s[pos]'hlt).toNat < 128
  rotate_left
  · have hnx : ∀ ty, (Instr.next (.pointer (some ⟨w.heap.size, 0, none⟩)) true ty).run Try.prog (w.iter s pos) = _ := fun ty => run_next_any w s pos ty hlt
    have hb := decode_high s pos hlt (by omega)
    have hle := decode_le s pos
    have HS := Lib.hid (decode_span s pos hlt (by omega))
    clear ha
    generalize (Utf8.decode s pos).1 = c at *
    generalize (Utf8.decode s pos).2 = p2 at *
    have h32' : ((c : Int) == 32) = false := by simp; omega
    go_wp2_with fail
    go_roundw
    case rel => exact ⟨pos + p2, rfl, HS.out.2.1, fun j hj h => by
     by_cases e : j < pos
     · exact HBF.out j hj e
     have := HS.out.2.2 j hj (by omega) h; omega⟩
    case measure => have := HS.out.2.1; have := HS.out.1; simp; omega
  have hnx : ∀ ty, (Instr.next (.pointer (some ⟨w.heap.size, 0, none⟩)) true ty).run Try.prog (w.iter s pos) = _ := fun ty => run_next_ascii w s pos ty hlt ha
  obtain ⟨c, hc⟩ : ∃ c, (s[pos]'hlt).toNat = c := ⟨_, rfl⟩
  rw [hc] at hnx
  have HC := Lib.hid hc
  clear hc ha
  by_cases h32 : c = 32
  rotate_left
  · have h32' : ((c : Int) == 32) = false := by simp; omega
    go_wp2_with fail
    go_roundw
    case rel => exact ⟨pos + 1, rfl, by omega, fun j hj h => by
     by_cases e : j = pos
     · subst e; rw [HC.out]; exact h32
     exact HBF.out j hj (by omega)⟩
    case measure => simp; omega
  subst h32
  have HF2 := Lib.hid (HF.out pos hlt HC.out HBF.out)
  have hm := mem32 s pos hlt HC.out
  have HWF := Lib.hid (HW.out hm)
  clear hm
  have hpi : (0 : Int) ≤ (pos : Int) ∧ (pos : Int) ≤ (s.size : Int) ∧ (pos : Int) + 1 ≤ (s.size : Int) := by omega
  obtain ⟨hp1, hp2, hp3⟩ := hpi
  have hb2 := iter_below w s (pos + 1)
  have hg2 := blk_below HG.out hb2
  have HB2 := Lib.hid hb2
  have HG2 := Lib.hid hg2
  have d0 := (blk_cell hg2 0 : (w.iter s (pos + 1)).cell? ⟨g, 0, none⟩ = _)
  have f0 : (w.iter s (pos + 1)).frozen? ⟨g, 0, none⟩ = false := blk_frozen hg2 0
  clear hb2 hg2
  go_wp2_with fail
  have hlt2 := Lib.hid (blk_lt HG.out)
  go_ret
  rw [HWF.out]
  exact ⟨by show _ = Ending.returned (Value.string r1); rw [← HF2.out.1]; rfl, by unfold RdRow; rw [← HF2.out.2]; exact blk_set HG2.out 0 _, (KeepBut.of_below HB2.out g none).set_ 0 _, below_far (HB2.out.mono (Nat.le_of_lt hlt2.out)) _⟩
theorem word_walk (g : Nat) (s : ByteArray) (e b : Bool) (hsz : s.size ≤ 140737488351232) (w : World) (hg : RdRow w g s e b) :
 Calls Try.prog 37 #[.pointer (some ⟨g, 0, none⟩)] w (WordEnd g w (wordF s e b).1 (wordF s e b).2.1 (wordF s e b).2.2.1 (wordF s e b).2.2.2) := by
 cases e with
 | true => exact word_end g s b w hg
 | false => exact word_go g s b hsz w hg
end Go.Proofs.Ytekpbgmmogpbdaa.H
set_option maxRecDepth 100000
namespace Go.Proofs.Ytekpbgmmogpbdaa.H
open Go.RowKit Go.Proofs.YtekpbgmmogpbdaaW.PrintWords
def policy_reader_word.f (s : ByteArray) (e b : Bool) : Option (ByteArray × ByteArray × Bool × Bool) := if s.size ≤ 140737488351232 then some (wordF s e b) else none
theorem policy_reader_word.calls (g : Nat) (s0_0 : ByteArray) (s0_1 : Bool) (s0_2 : Bool) (r1 : ByteArray) (r2 : ByteArray) (r3 : Bool) (r4 : Bool) (w0 w : World) (hI : P.IsS65 w0 w g s0_0 s0_1 s0_2) (hB : Below w0.heap.size w0 w) (h : policy_reader_word.f s0_0 s0_1 s0_2 = some (r1, r2, r3, r4)) :
 Calls Try.prog 37 #[.pointer (some ⟨g, 0, none⟩)] w fun e w' => e = .returned (.string r1) ∧ P.IsS65 w0 w' g r2 r3 r4 ∧ Below w0.heap.size w0 w' ∧ KeepBut w w' g none := by
 unfold policy_reader_word.f at h
 split at h
 · rename_i hs
   have hw := Option.some.inj h
   refine (word_walk g s0_0 s0_1 s0_2 hs w hI.1).mono ?_
   rintro e w' ⟨h1, h2, h3, h4⟩
   rw [hw] at h1 h2
   exact ⟨h1, ⟨h2, hI.2⟩, hB.trans (h4.mono hI.2), h3⟩
 · simp at h
end Go.Proofs.Ytekpbgmmogpbdaa.H
namespace Go.Proofs.Ytekpbgmmogpbdaa.P
open Go.RowKit Go.Proofs.Ytekpbgmmogpbdaa.H Go.Proofs.YtekpbgmmogpbdaaW.PrintWords Go.Proofs.YtekpbgmmogpbdaaW.PrintLast Go.Proofs.YtekpbgmmogpbdaaW.PrintMore
attribute [local go_sem] max2_int min2_int max_two min_two max_three min_three max_four min_four
def policy_reader_condition.f (s0_0 : ByteArray) (s0_1 : Bool) (s0_2 : Bool) : Option (Int × Int × Int × Int × ByteArray × Bool × Bool) := (policy_reader_word.f s0_0 s0_1 s0_2).bind fun bt133 => (if bt133.1.size + 1 ≤ 9223372036854775807 then ((policy_reader_word.f bt133.2.1 bt133.2.2.1 bt133.2.2.2).bind fun bt137 => (if (bt133.1 ++ (⟨#[32]⟩ : ByteArray)).size + bt137.1.size ≤ 9223372036854775807 then (if ((bt133.1 ++ (⟨#[32]⟩ : ByteArray)) ++ bt137.1).size + 1 ≤ 9223372036854775807 then ((policy_reader_word.f bt137.2.1 bt137.2.2.1 bt137.2.2.2).bind fun bt141 => (if (((bt133.1 ++ (⟨#[32]⟩ : ByteArray)) ++ bt137.1) ++ (⟨#[32]⟩ : ByteArray)).size + bt141.1.size ≤ 9223372036854775807 then (if ((((bt133.1 ++ (⟨#[32]⟩ : ByteArray)) ++ bt137.1) ++ (⟨#[32]⟩ : ByteArray)) ++ bt141.1).size + 1 ≤ 9223372036854775807 then ((policy_reader_word.f bt141.2.1 bt141.2.2.1 bt141.2.2.2).bind fun bt145 => (if (((((bt133.1 ++ (⟨#[32]⟩ : ByteArray)) ++ bt137.1) ++ (⟨#[32]⟩ : ByteArray)) ++ bt141.1) ++ (⟨#[32]⟩ : ByteArray)).size + bt145.1.size ≤ 9223372036854775807 then ((cond_Parse.f ((((((bt133.1 ++ (⟨#[32]⟩ : ByteArray)) ++ bt137.1) ++ (⟨#[32]⟩ : ByteArray)) ++ bt141.1) ++ (⟨#[32]⟩ : ByteArray)) ++ bt145.1)).bind fun bt149 => ((policy_reader_must.f bt145.2.1 bt145.2.2.1 bt145.2.2.2 bt149.2.2.2.2).bind fun bt155 => (some (bt149.1, bt149.2.1, bt149.2.2.1, bt149.2.2.2.1, bt155.1, bt155.2.1, bt155.2.2)))) else (none))) else (none)) else (none))) else (none)) else (none))) else (none))
set_option maxHeartbeats 8000000 in
set_option maxRecDepth 100000 in
theorem policy_reader_condition.calls (g : Nat) (s0_0 : ByteArray) (s0_1 : Bool) (s0_2 : Bool) (r1 : Int) (r2 : Int) (r3 : Int) (r4 : Int) (r5 : ByteArray) (r6 : Bool) (r7 : Bool) (w0 w : World) (hI : IsS65 w0 w g s0_0 s0_1 s0_2) (hB : Below w0.heap.size w0 w) (h : policy_reader_condition.f s0_0 s0_1 s0_2 = some (r1, r2, r3, r4, r5, r6, r7)) :
 Calls Try.prog 61 #[.pointer (some ⟨g, 0, none⟩)] w fun e w' => e = .returned (.agg #[.int .i64 r1, .int .i64 r2, .int .u64 r3, .int .u64 r4]) ∧ IsS65 w0 w' g r5 r6 r7 ∧ Below w0.heap.size w0 w' ∧ KeepBut w w' g none := by
 have hu61 := Try.underlying61
 have HI0 := aM hI
 have HK := aM (KeepBut.refl w g none)
 have HL := aM hB.size
 clear hI
 have HW0 := aM hB.size
 have HB := aM hB
 clear hB
 have H : ((policy_reader_word.f s0_0 s0_1 s0_2).bind fun bt133 => (if bt133.1.size + 1 ≤ 9223372036854775807 then ((policy_reader_word.f bt133.2.1 bt133.2.2.1 bt133.2.2.2).bind fun bt137 => (if (bt133.1 ++ (⟨#[32]⟩ : ByteArray)).size + bt137.1.size ≤ 9223372036854775807 then (if ((bt133.1 ++ (⟨#[32]⟩ : ByteArray)) ++ bt137.1).size + 1 ≤ 9223372036854775807 then ((policy_reader_word.f bt137.2.1 bt137.2.2.1 bt137.2.2.2).bind fun bt141 => (if (((bt133.1 ++ (⟨#[32]⟩ : ByteArray)) ++ bt137.1) ++ (⟨#[32]⟩ : ByteArray)).size + bt141.1.size ≤ 9223372036854775807 then (if ((((bt133.1 ++ (⟨#[32]⟩ : ByteArray)) ++ bt137.1) ++ (⟨#[32]⟩ : ByteArray)) ++ bt141.1).size + 1 ≤ 9223372036854775807 then ((policy_reader_word.f bt141.2.1 bt141.2.2.1 bt141.2.2.2).bind fun bt145 => (if (((((bt133.1 ++ (⟨#[32]⟩ : ByteArray)) ++ bt137.1) ++ (⟨#[32]⟩ : ByteArray)) ++ bt141.1) ++ (⟨#[32]⟩ : ByteArray)).size + bt145.1.size ≤ 9223372036854775807 then ((cond_Parse.f ((((((bt133.1 ++ (⟨#[32]⟩ : ByteArray)) ++ bt137.1) ++ (⟨#[32]⟩ : ByteArray)) ++ bt141.1) ++ (⟨#[32]⟩ : ByteArray)) ++ bt145.1)).bind fun bt149 => ((policy_reader_must.f bt145.2.1 bt145.2.2.1 bt145.2.2.2 bt149.2.2.2.2).bind fun bt155 => (some (bt149.1, bt149.2.1, bt149.2.2.1, bt149.2.2.2.1, bt155.1, bt155.2.1, bt155.2.2)))) else (none))) else (none)) else (none))) else (none)) else (none))) else (none))) = some (r1, r2, r3, r4, r5, r6, r7) := h
 clear h
 replace H := Option.bind_eq_some_iff.mp H
 obtain ⟨⟨t133, t134, t135, t136⟩, A20, H⟩ := H
 replace H : (if t133.size + 1 ≤ 9223372036854775807 then ((policy_reader_word.f t134 t135 t136).bind fun bt137 => (if (t133 ++ (⟨#[32]⟩ : ByteArray)).size + bt137.1.size ≤ 9223372036854775807 then (if ((t133 ++ (⟨#[32]⟩ : ByteArray)) ++ bt137.1).size + 1 ≤ 9223372036854775807 then ((policy_reader_word.f bt137.2.1 bt137.2.2.1 bt137.2.2.2).bind fun bt141 => (if (((t133 ++ (⟨#[32]⟩ : ByteArray)) ++ bt137.1) ++ (⟨#[32]⟩ : ByteArray)).size + bt141.1.size ≤ 9223372036854775807 then (if ((((t133 ++ (⟨#[32]⟩ : ByteArray)) ++ bt137.1) ++ (⟨#[32]⟩ : ByteArray)) ++ bt141.1).size + 1 ≤ 9223372036854775807 then ((policy_reader_word.f bt141.2.1 bt141.2.2.1 bt141.2.2.2).bind fun bt145 => (if (((((t133 ++ (⟨#[32]⟩ : ByteArray)) ++ bt137.1) ++ (⟨#[32]⟩ : ByteArray)) ++ bt141.1) ++ (⟨#[32]⟩ : ByteArray)).size + bt145.1.size ≤ 9223372036854775807 then ((cond_Parse.f ((((((t133 ++ (⟨#[32]⟩ : ByteArray)) ++ bt137.1) ++ (⟨#[32]⟩ : ByteArray)) ++ bt141.1) ++ (⟨#[32]⟩ : ByteArray)) ++ bt145.1)).bind fun bt149 => ((policy_reader_must.f bt145.2.1 bt145.2.2.1 bt145.2.2.2 bt149.2.2.2.2).bind fun bt155 => (some (bt149.1, bt149.2.1, bt149.2.2.1, bt149.2.2.2.1, bt155.1, bt155.2.1, bt155.2.2)))) else (none))) else (none)) else (none))) else (none)) else (none))) else (none)) = some (r1, r2, r3, r4, r5, r6, r7) := H
 have A2 := aM A20
 clear A20
 by_cases c3 : t133.size + 1 ≤ 9223372036854775807
 rotate_left
 · rw [if_neg c3] at H
   exact absurd H (by simp)
 rw [if_pos c3] at H
 have c3b0 := eq_true c3
 have c3b1 : decide (t133.size + 1 ≤ 9223372036854775807) = true := decide_eq_true c3
 try have c3b2 : (9223372036854775807 < t133.size + 1) = False := eq_false (Nat.not_lt.2 c3)
 replace H := Option.bind_eq_some_iff.mp H
 obtain ⟨⟨t137, t138, t139, t140⟩, A40, H⟩ := H
 replace H : (if (t133 ++ (⟨#[32]⟩ : ByteArray)).size + t137.size ≤ 9223372036854775807 then (if ((t133 ++ (⟨#[32]⟩ : ByteArray)) ++ t137).size + 1 ≤ 9223372036854775807 then ((policy_reader_word.f t138 t139 t140).bind fun bt141 => (if (((t133 ++ (⟨#[32]⟩ : ByteArray)) ++ t137) ++ (⟨#[32]⟩ : ByteArray)).size + bt141.1.size ≤ 9223372036854775807 then (if ((((t133 ++ (⟨#[32]⟩ : ByteArray)) ++ t137) ++ (⟨#[32]⟩ : ByteArray)) ++ bt141.1).size + 1 ≤ 9223372036854775807 then ((policy_reader_word.f bt141.2.1 bt141.2.2.1 bt141.2.2.2).bind fun bt145 => (if (((((t133 ++ (⟨#[32]⟩ : ByteArray)) ++ t137) ++ (⟨#[32]⟩ : ByteArray)) ++ bt141.1) ++ (⟨#[32]⟩ : ByteArray)).size + bt145.1.size ≤ 9223372036854775807 then ((cond_Parse.f ((((((t133 ++ (⟨#[32]⟩ : ByteArray)) ++ t137) ++ (⟨#[32]⟩ : ByteArray)) ++ bt141.1) ++ (⟨#[32]⟩ : ByteArray)) ++ bt145.1)).bind fun bt149 => ((policy_reader_must.f bt145.2.1 bt145.2.2.1 bt145.2.2.2 bt149.2.2.2.2).bind fun bt155 => (some (bt149.1, bt149.2.1, bt149.2.2.1, bt149.2.2.2.1, bt155.1, bt155.2.1, bt155.2.2)))) else (none))) else (none)) else (none))) else (none)) else (none)) = some (r1, r2, r3, r4, r5, r6, r7) := H
 have A4 := aM A40
 clear A40
 by_cases c5 : (t133 ++ (⟨#[32]⟩ : ByteArray)).size + t137.size ≤ 9223372036854775807
 rotate_left
 · rw [if_neg c5] at H
   exact absurd H (by simp)
 rw [if_pos c5] at H
 have c5b0 := eq_true c5
 have c5b1 : decide ((t133 ++ (⟨#[32]⟩ : ByteArray)).size + t137.size ≤ 9223372036854775807) = true := decide_eq_true c5
 try have c5b2 : (9223372036854775807 < (t133 ++ (⟨#[32]⟩ : ByteArray)).size + t137.size) = False := eq_false (Nat.not_lt.2 c5)
 try have c5b3 : (9223372036854775807 < t133.size + 1 + t137.size) = False := by have h := c5b2; simp only [ByteArray.size_append] at h; exact h
 by_cases c6 : ((t133 ++ (⟨#[32]⟩ : ByteArray)) ++ t137).size + 1 ≤ 9223372036854775807
 rotate_left
 · rw [if_neg c6] at H
   exact absurd H (by simp)
 rw [if_pos c6] at H
 have c6b0 := eq_true c6
 have c6b1 : decide (((t133 ++ (⟨#[32]⟩ : ByteArray)) ++ t137).size + 1 ≤ 9223372036854775807) = true := decide_eq_true c6
 try have c6b2 : (9223372036854775807 < ((t133 ++ (⟨#[32]⟩ : ByteArray)) ++ t137).size + 1) = False := eq_false (Nat.not_lt.2 c6)
 try have c6b3 : (9223372036854775807 < t133.size + 1 + t137.size + 1) = False := by have h := c6b2; simp only [ByteArray.size_append] at h; exact h
 replace H := Option.bind_eq_some_iff.mp H
 obtain ⟨⟨t141, t142, t143, t144⟩, A70, H⟩ := H
 replace H : (if (((t133 ++ (⟨#[32]⟩ : ByteArray)) ++ t137) ++ (⟨#[32]⟩ : ByteArray)).size + t141.size ≤ 9223372036854775807 then (if ((((t133 ++ (⟨#[32]⟩ : ByteArray)) ++ t137) ++ (⟨#[32]⟩ : ByteArray)) ++ t141).size + 1 ≤ 9223372036854775807 then ((policy_reader_word.f t142 t143 t144).bind fun bt145 => (if (((((t133 ++ (⟨#[32]⟩ : ByteArray)) ++ t137) ++ (⟨#[32]⟩ : ByteArray)) ++ t141) ++ (⟨#[32]⟩ : ByteArray)).size + bt145.1.size ≤ 9223372036854775807 then ((cond_Parse.f ((((((t133 ++ (⟨#[32]⟩ : ByteArray)) ++ t137) ++ (⟨#[32]⟩ : ByteArray)) ++ t141) ++ (⟨#[32]⟩ : ByteArray)) ++ bt145.1)).bind fun bt149 => ((policy_reader_must.f bt145.2.1 bt145.2.2.1 bt145.2.2.2 bt149.2.2.2.2).bind fun bt155 => (some (bt149.1, bt149.2.1, bt149.2.2.1, bt149.2.2.2.1, bt155.1, bt155.2.1, bt155.2.2)))) else (none))) else (none)) else (none)) = some (r1, r2, r3, r4, r5, r6, r7) := H
 have A7 := aM A70
 clear A70
 by_cases c8 : (((t133 ++ (⟨#[32]⟩ : ByteArray)) ++ t137) ++ (⟨#[32]⟩ : ByteArray)).size + t141.size ≤ 9223372036854775807
 rotate_left
 · rw [if_neg c8] at H
   exact absurd H (by simp)
 rw [if_pos c8] at H
 have c8b0 := eq_true c8
 have c8b1 : decide ((((t133 ++ (⟨#[32]⟩ : ByteArray)) ++ t137) ++ (⟨#[32]⟩ : ByteArray)).size + t141.size ≤ 9223372036854775807) = true := decide_eq_true c8
 try have c8b2 : (9223372036854775807 < (((t133 ++ (⟨#[32]⟩ : ByteArray)) ++ t137) ++ (⟨#[32]⟩ : ByteArray)).size + t141.size) = False := eq_false (Nat.not_lt.2 c8)
 try have c8b3 : (9223372036854775807 < t133.size + 1 + t137.size + 1 + t141.size) = False := by have h := c8b2; simp only [ByteArray.size_append] at h; exact h
 by_cases c9 : ((((t133 ++ (⟨#[32]⟩ : ByteArray)) ++ t137) ++ (⟨#[32]⟩ : ByteArray)) ++ t141).size + 1 ≤ 9223372036854775807
 rotate_left
 · rw [if_neg c9] at H
   exact absurd H (by simp)
 rw [if_pos c9] at H
 have c9b0 := eq_true c9
 have c9b1 : decide (((((t133 ++ (⟨#[32]⟩ : ByteArray)) ++ t137) ++ (⟨#[32]⟩ : ByteArray)) ++ t141).size + 1 ≤ 9223372036854775807) = true := decide_eq_true c9
 try have c9b2 : (9223372036854775807 < ((((t133 ++ (⟨#[32]⟩ : ByteArray)) ++ t137) ++ (⟨#[32]⟩ : ByteArray)) ++ t141).size + 1) = False := eq_false (Nat.not_lt.2 c9)
 try have c9b3 : (9223372036854775807 < t133.size + 1 + t137.size + 1 + t141.size + 1) = False := by have h := c9b2; simp only [ByteArray.size_append] at h; exact h
 replace H := Option.bind_eq_some_iff.mp H
 obtain ⟨⟨t145, t146, t147, t148⟩, A100, H⟩ := H
 replace H : (if (((((t133 ++ (⟨#[32]⟩ : ByteArray)) ++ t137) ++ (⟨#[32]⟩ : ByteArray)) ++ t141) ++ (⟨#[32]⟩ : ByteArray)).size + t145.size ≤ 9223372036854775807 then ((cond_Parse.f ((((((t133 ++ (⟨#[32]⟩ : ByteArray)) ++ t137) ++ (⟨#[32]⟩ : ByteArray)) ++ t141) ++ (⟨#[32]⟩ : ByteArray)) ++ t145)).bind fun bt149 => ((policy_reader_must.f t146 t147 t148 bt149.2.2.2.2).bind fun bt155 => (some (bt149.1, bt149.2.1, bt149.2.2.1, bt149.2.2.2.1, bt155.1, bt155.2.1, bt155.2.2)))) else (none)) = some (r1, r2, r3, r4, r5, r6, r7) := H
 have A10 := aM A100
 clear A100
 by_cases c11 : (((((t133 ++ (⟨#[32]⟩ : ByteArray)) ++ t137) ++ (⟨#[32]⟩ : ByteArray)) ++ t141) ++ (⟨#[32]⟩ : ByteArray)).size + t145.size ≤ 9223372036854775807
 rotate_left
 · rw [if_neg c11] at H
   exact absurd H (by simp)
 rw [if_pos c11] at H
 have c11b0 := eq_true c11
 have c11b1 : decide ((((((t133 ++ (⟨#[32]⟩ : ByteArray)) ++ t137) ++ (⟨#[32]⟩ : ByteArray)) ++ t141) ++ (⟨#[32]⟩ : ByteArray)).size + t145.size ≤ 9223372036854775807) = true := decide_eq_true c11
 try have c11b2 : (9223372036854775807 < (((((t133 ++ (⟨#[32]⟩ : ByteArray)) ++ t137) ++ (⟨#[32]⟩ : ByteArray)) ++ t141) ++ (⟨#[32]⟩ : ByteArray)).size + t145.size) = False := eq_false (Nat.not_lt.2 c11)
 try have c11b3 : (9223372036854775807 < t133.size + 1 + t137.size + 1 + t141.size + 1 + t145.size) = False := by have h := c11b2; simp only [ByteArray.size_append] at h; exact h
 replace H := Option.bind_eq_some_iff.mp H
 obtain ⟨⟨t149, t150, t151, t152, t153⟩, A120, H⟩ := H
 replace H : ((policy_reader_must.f t146 t147 t148 t153).bind fun bt155 => (some (t149, t150, t151, t152, bt155.1, bt155.2.1, bt155.2.2))) = some (r1, r2, r3, r4, r5, r6, r7) := H
 have A12 := aM A120
 clear A120
 replace H := Option.bind_eq_some_iff.mp H
 obtain ⟨⟨t155, t156, t157⟩, A130, H⟩ := H
 replace H : (some (t149, t150, t151, t152, t155, t156, t157)) = some (r1, r2, r3, r4, r5, r6, r7) := H
 have A13 := aM A130
 clear A130
 simp only [Option.some.injEq, Prod.mk.injEq] at H
 obtain ⟨rfl, rfl, rfl, rfl, rfl, rfl, rfl⟩ := H
 go_enter Try.func61, Try.ntmps61
 go_wp2_with (first | ((with_reducible refine gate_dst (N := 2) rfl ?_); refine box_event ?hg (N := 2) ?hd (cs := #[.int .i64 0, .int .i64 0, .int .u64 0, .int .u64 0]) (t := 61) ?hr ?_; (case hd => rfl); (case hg => rfl); (case hr => first | (go_simp; done) | (go_simp; rfl)); intro gb132 hg w14 hbox hb; have n0_ := aM (IsS65.below (by repeat (first | (with_reducible first | exact HI0.out | apply IsS65.alloc | apply IsS65.drewN | apply IsS65.drew | apply IsS65.set_0 | apply IsS65.set_1 | apply IsS65.set_2) | exact HI0.out)) hb); have n1_ := aM (KeepBut.trans (by repeat (first | (with_reducible first | exact HK.out | apply KeepBut.set_ | apply keep_drewN | apply keep_drew | apply keep_alloc) | exact HK.out)) (KeepBut.of_below hb g none) (.inl rfl)); have n2_ := aM (below_step (bl1 (IsS65.ge HI0.out)) hb); have n3_ := aM (hbox); have n4_ := aM ((by rw [hg]; exact (keep_size (w := w) (g := g) (row := none) (by repeat (first | (with_reducible first | exact HK.out | apply KeepBut.set_ | apply keep_drewN | apply keep_drew | apply keep_alloc) | exact HK.out))) : w.heap.size ≤ gb132)); have n5_ := aM ((Nat.le_trans HW0.out (by rw [hg]; exact (keep_size (w := w) (g := g) (row := none) (by repeat (first | (with_reducible first | exact HK.out | apply KeepBut.set_ | apply keep_drewN | apply keep_drew | apply keep_alloc) | exact HK.out))) : w.heap.size ≤ gb132) : w0.heap.size ≤ gb132)); have n6_ := aM ((by rw [hg]; exact Nat.ne_of_lt (IsS65.lt (show IsS65 w0 _ g s0_0 s0_1 s0_2 from by repeat (first | (with_reducible first | exact HI0.out | apply IsS65.alloc | apply IsS65.drewN | apply IsS65.drew | apply IsS65.set_0 | apply IsS65.set_1 | apply IsS65.set_2) | exact HI0.out))) : g ≠ gb132)); have n7_ := aM ((by rw [hg]; exact Nat.ne_of_gt (IsS65.lt (show IsS65 w0 _ g s0_0 s0_1 s0_2 from by repeat (first | (with_reducible first | exact HI0.out | apply IsS65.alloc | apply IsS65.drewN | apply IsS65.drew | apply IsS65.set_0 | apply IsS65.set_1 | apply IsS65.set_2) | exact HI0.out))) : gb132 ≠ g)); clear HI0; clear HK; clear HB; have HI0 := n0_; have HK := n1_; have HB := n2_; have BK132 := n3_; have GW132 := n4_; have GE132 := n5_; have NB0_132 := n6_; have NB132_0 := n7_; clear n0_ n1_ n2_ n3_ n4_ n5_ n6_ n7_; clear hb hbox hg) | ((with_reducible refine gate_callee (f := 37) rfl ?_); refine goesL_ (some 7) rfl rfl Try.func37 kR rfl #[.pointer (some ⟨g, 0, none⟩)] rfl mpA ?_; (with_reducible refine (policy_reader_word.calls g s0_0 s0_1 s0_2 t133 t134 t135 t136 w0 _ ?side1 ?side2 A2.out).mono ?_); (case side1 => repeat (first | (with_reducible first | exact HI0.out | apply IsS65.alloc | apply IsS65.drewN | apply IsS65.drew | apply IsS65.set_0 | apply IsS65.set_1 | apply IsS65.set_2 | refine IsS65.far ?_ NB0_132.out _) | exact HI0.out)); (case side2 => exact bl2 (IsS65.ge HI0.out) GE132.out); rintro e w15 ⟨rfl, hi, hb, hk⟩; refine ⟨_, rfl, ?_⟩; have n0_ := aM (KeepBut.blk hk (g' := gb132) (o := .cells #[.int .i64 0, .int .i64 0, .int .u64 0, .int .u64 0] 61 (0, 0)) (bkS BK132.out) NB132_0.out (by simp)); have n1_ := aM (KeepBut.trans (by repeat (first | (with_reducible first | exact HK.out | apply KeepBut.set_ | apply keep_drewN | apply keep_drew | apply keep_alloc | refine keep_far ?_ GW132.out _) | exact HK.out)) hk (.inl rfl)); have n2_ := aM (hb); have n3_ := aM (hi); clear BK132; clear HK; clear HB; clear HI0; have BK132 := n0_; have HK := n1_; have HB := n2_; have HI0 := n3_; clear n0_ n1_ n2_ n3_; (try clear hb); (try clear hb2); (try clear hk); (try clear hi)) | ((with_reducible refine gate_callee (f := 37) rfl ?_); refine goesL_ (some 10) rfl rfl Try.func37 kR rfl #[.pointer (some ⟨g, 0, none⟩)] rfl mpA ?_; (with_reducible refine (policy_reader_word.calls g t134 t135 t136 t137 t138 t139 t140 w0 _ ?side1 ?side2 A4.out).mono ?_); (case side1 => repeat (first | (with_reducible first | exact HI0.out | apply IsS65.alloc | apply IsS65.drewN | apply IsS65.drew | apply IsS65.set_0 | apply IsS65.set_1 | apply IsS65.set_2 | refine IsS65.far ?_ NB0_132.out _) | exact HI0.out)); (case side2 => exact bl2 (IsS65.ge HI0.out) GE132.out); rintro e w16 ⟨rfl, hi, hb, hk⟩; refine ⟨_, rfl, ?_⟩; have n0_ := aM (KeepBut.blk hk (g' := gb132) (o := .cells #[.int .i64 0, .int .i64 0, .int .u64 0, .int .u64 0] 61 (0, 0)) (bkS BK132.out) NB132_0.out (by simp)); have n1_ := aM (KeepBut.trans (by repeat (first | (with_reducible first | exact HK.out | apply KeepBut.set_ | apply keep_drewN | apply keep_drew | apply keep_alloc | refine keep_far ?_ GW132.out _) | exact HK.out)) hk (.inl rfl)); have n2_ := aM (hb); have n3_ := aM (hi); clear BK132; clear HK; clear HB; clear HI0; have BK132 := n0_; have HK := n1_; have HB := n2_; have HI0 := n3_; clear n0_ n1_ n2_ n3_; (try clear hb); (try clear hb2); (try clear hk); (try clear hi)) | ((with_reducible refine gate_callee (f := 37) rfl ?_); refine goesL_ (some 14) rfl rfl Try.func37 kR rfl #[.pointer (some ⟨g, 0, none⟩)] rfl mpA ?_; (with_reducible refine (policy_reader_word.calls g t138 t139 t140 t141 t142 t143 t144 w0 _ ?side1 ?side2 A7.out).mono ?_); (case side1 => repeat (first | (with_reducible first | exact HI0.out | apply IsS65.alloc | apply IsS65.drewN | apply IsS65.drew | apply IsS65.set_0 | apply IsS65.set_1 | apply IsS65.set_2 | refine IsS65.far ?_ NB0_132.out _) | exact HI0.out)); (case side2 => exact bl2 (IsS65.ge HI0.out) GE132.out); rintro e w17 ⟨rfl, hi, hb, hk⟩; refine ⟨_, rfl, ?_⟩; have n0_ := aM (KeepBut.blk hk (g' := gb132) (o := .cells #[.int .i64 0, .int .i64 0, .int .u64 0, .int .u64 0] 61 (0, 0)) (bkS BK132.out) NB132_0.out (by simp)); have n1_ := aM (KeepBut.trans (by repeat (first | (with_reducible first | exact HK.out | apply KeepBut.set_ | apply keep_drewN | apply keep_drew | apply keep_alloc | refine keep_far ?_ GW132.out _) | exact HK.out)) hk (.inl rfl)); have n2_ := aM (hb); have n3_ := aM (hi); clear BK132; clear HK; clear HB; clear HI0; have BK132 := n0_; have HK := n1_; have HB := n2_; have HI0 := n3_; clear n0_ n1_ n2_ n3_; (try clear hb); (try clear hb2); (try clear hk); (try clear hi)) | ((with_reducible refine gate_callee (f := 37) rfl ?_); refine goesL_ (some 18) rfl rfl Try.func37 kR rfl #[.pointer (some ⟨g, 0, none⟩)] rfl mpA ?_; (with_reducible refine (policy_reader_word.calls g t142 t143 t144 t145 t146 t147 t148 w0 _ ?side1 ?side2 A10.out).mono ?_); (case side1 => repeat (first | (with_reducible first | exact HI0.out | apply IsS65.alloc | apply IsS65.drewN | apply IsS65.drew | apply IsS65.set_0 | apply IsS65.set_1 | apply IsS65.set_2 | refine IsS65.far ?_ NB0_132.out _) | exact HI0.out)); (case side2 => exact bl2 (IsS65.ge HI0.out) GE132.out); rintro e w18 ⟨rfl, hi, hb, hk⟩; refine ⟨_, rfl, ?_⟩; have n0_ := aM (KeepBut.blk hk (g' := gb132) (o := .cells #[.int .i64 0, .int .i64 0, .int .u64 0, .int .u64 0] 61 (0, 0)) (bkS BK132.out) NB132_0.out (by simp)); have n1_ := aM (KeepBut.trans (by repeat (first | (with_reducible first | exact HK.out | apply KeepBut.set_ | apply keep_drewN | apply keep_drew | apply keep_alloc | refine keep_far ?_ GW132.out _) | exact HK.out)) hk (.inl rfl)); have n2_ := aM (hb); have n3_ := aM (hi); clear BK132; clear HK; clear HB; clear HI0; have BK132 := n0_; have HK := n1_; have HB := n2_; have HI0 := n3_; clear n0_ n1_ n2_ n3_; (try clear hb); (try clear hb2); (try clear hk); (try clear hi)) | ((with_reducible refine gate_callee (f := 77) rfl ?_); refine goesL_ (some 22) rfl rfl Try.func77 kR rfl #[.string ((((((t133 ++ (⟨#[32]⟩ : ByteArray)) ++ t137) ++ (⟨#[32]⟩ : ByteArray)) ++ t141) ++ (⟨#[32]⟩ : ByteArray)) ++ t145)] rfl mpA ?_; (with_reducible refine (cond_Parse.calls ((((((t133 ++ (⟨#[32]⟩ : ByteArray)) ++ t137) ++ (⟨#[32]⟩ : ByteArray)) ++ t141) ++ (⟨#[32]⟩ : ByteArray)) ++ t145) t149 t150 t151 t152 t153 _ A12.out).mono ?_); rintro e w19 ⟨rfl, hb⟩; refine ⟨_, rfl, ?_⟩; have n0_ := aM (IsS65.below (by repeat (first | (with_reducible first | exact HI0.out | apply IsS65.alloc | apply IsS65.drewN | apply IsS65.drew | apply IsS65.set_0 | apply IsS65.set_1 | apply IsS65.set_2 | refine IsS65.far ?_ NB0_132.out _) | exact HI0.out)) hb); have n1_ := aM (blk_below (g := gb132) (o := .cells #[.int .i64 0, .int .i64 0, .int .u64 0, .int .u64 0] 61 (0, 0)) (bkS BK132.out) hb); have n2_ := aM (KeepBut.trans (by repeat (first | (with_reducible first | exact HK.out | apply KeepBut.set_ | apply keep_drewN | apply keep_drew | apply keep_alloc | refine keep_far ?_ GW132.out _) | exact HK.out)) (KeepBut.of_below hb g none) (.inl rfl)); have n3_ := aM (below_step (bl2 (IsS65.ge HI0.out) GE132.out) hb); clear HI0; clear BK132; clear HK; clear HB; have HI0 := n0_; have BK132 := n1_; have HK := n2_; have HB := n3_; clear n0_ n1_ n2_ n3_; (try clear hb); (try clear hb2); (try clear hk); (try clear hi)) | ((with_reducible refine gate_dst (N := 4) rfl ?_); refine box_event ?hg (N := 4) ?hd (cs := #[.int .i64 0, .int .i64 0, .int .u64 0, .int .u64 0]) (t := 61) ?hr ?_; (case hd => rfl); (case hg => rfl); (case hr => first | (go_simp; done) | (go_simp; rfl)); intro gb154 hg w20 hbox hb; have n0_ := aM (IsS65.below (by repeat (first | (with_reducible first | exact HI0.out | apply IsS65.alloc | apply IsS65.drewN | apply IsS65.drew | apply IsS65.set_0 | apply IsS65.set_1 | apply IsS65.set_2 | refine IsS65.far ?_ NB0_132.out _) | exact HI0.out)) hb); have n1_ := aM (blk_below (g := gb132) (o := .cells #[.int .i64 0, .int .i64 0, .int .u64 0, .int .u64 0] 61 (0, 0)) (bkS BK132.out) hb); have n2_ := aM (KeepBut.trans (by repeat (first | (with_reducible first | exact HK.out | apply KeepBut.set_ | apply keep_drewN | apply keep_drew | apply keep_alloc | refine keep_far ?_ GW132.out _) | exact HK.out)) (KeepBut.of_below hb g none) (.inl rfl)); have n3_ := aM (below_step (bl2 (IsS65.ge HI0.out) GE132.out) hb); have n4_ := aM (hbox); have n5_ := aM ((by rw [hg]; exact (keep_size (w := w) (g := g) (row := none) (by repeat (first | (with_reducible first | exact HK.out | apply KeepBut.set_ | apply keep_drewN | apply keep_drew | apply keep_alloc | refine keep_far ?_ GW132.out _) | exact HK.out))) : w.heap.size ≤ gb154)); have n6_ := aM ((Nat.le_trans HW0.out (by rw [hg]; exact (keep_size (w := w) (g := g) (row := none) (by repeat (first | (with_reducible first | exact HK.out | apply KeepBut.set_ | apply keep_drewN | apply keep_drew | apply keep_alloc | refine keep_far ?_ GW132.out _) | exact HK.out))) : w.heap.size ≤ gb154) : w0.heap.size ≤ gb154)); have n7_ := aM ((by rw [hg]; exact Nat.ne_of_lt (blk_lt (g := gb132) (o := .cells #[.int .i64 0, .int .i64 0, .int .u64 0, .int .u64 0] 61 (0, 0)) (bkS BK132.out)) : gb132 ≠ gb154)); have n8_ := aM ((by rw [hg]; exact Nat.ne_of_gt (blk_lt (g := gb132) (o := .cells #[.int .i64 0, .int .i64 0, .int .u64 0, .int .u64 0] 61 (0, 0)) (bkS BK132.out)) : gb154 ≠ gb132)); have n9_ := aM ((by rw [hg]; exact Nat.ne_of_lt (IsS65.lt (show IsS65 w0 _ g t146 t147 t148 from by repeat (first | (with_reducible first | exact HI0.out | apply IsS65.alloc | apply IsS65.drewN | apply IsS65.drew | apply IsS65.set_0 | apply IsS65.set_1 | apply IsS65.set_2 | refine IsS65.far ?_ NB0_132.out _) | exact HI0.out))) : g ≠ gb154)); have n10_ := aM ((by rw [hg]; exact Nat.ne_of_gt (IsS65.lt (show IsS65 w0 _ g t146 t147 t148 from by repeat (first | (with_reducible first | exact HI0.out | apply IsS65.alloc | apply IsS65.drewN | apply IsS65.drew | apply IsS65.set_0 | apply IsS65.set_1 | apply IsS65.set_2 | refine IsS65.far ?_ NB0_132.out _) | exact HI0.out))) : gb154 ≠ g)); clear HI0; clear BK132; clear HK; clear HB; have HI0 := n0_; have BK132 := n1_; have HK := n2_; have HB := n3_; have BK154 := n4_; have GW154 := n5_; have GE154 := n6_; have NB132_154 := n7_; have NB154_132 := n8_; have NB0_154 := n9_; have NB154_0 := n10_; clear n0_ n1_ n2_ n3_ n4_ n5_ n6_ n7_ n8_ n9_ n10_; clear hb hbox hg; have hnb21 := NB154_132.out; have hnc21 := NB132_154.out; have hnb22 := NB154_0.out; have hnc22 := NB0_154.out; have hcz23_0 : w20.cell? ⟨gb154, 0, none⟩ = some (.int .i64 0) := (blk_cell BK154.out 0).trans rfl; have hcz23_1 : w20.cell? ⟨gb154, 1, none⟩ = some (.int .i64 0) := (blk_cell BK154.out 1).trans rfl; have hcz23_2 : w20.cell? ⟨gb154, 2, none⟩ = some (.int .u64 0) := (blk_cell BK154.out 2).trans rfl; have hcz23_3 : w20.cell? ⟨gb154, 3, none⟩ = some (.int .u64 0) := (blk_cell BK154.out 3).trans rfl; have hfz23_0 := blk_frozen BK154.out 0; have hfz23_1 := blk_frozen BK154.out 1; have hfz23_2 := blk_frozen BK154.out 2; have hfz23_3 := blk_frozen BK154.out 3) | ((with_reducible refine gate_callee (f := 40) rfl ?_); refine goesL_ (some 27) rfl rfl Try.func40 kR rfl #[.pointer (some ⟨g, 0, none⟩), .int .i64 t153] rfl mpA ?_; (with_reducible refine (policy_reader_must.calls g t146 t147 t148 t153 t155 t156 t157 w0 _ ?side1 ?side2 A13.out).mono ?_); (case side1 => repeat (first | (with_reducible first | exact HI0.out | apply IsS65.alloc | apply IsS65.drewN | apply IsS65.drew | apply IsS65.set_0 | apply IsS65.set_1 | apply IsS65.set_2 | refine IsS65.far ?_ NB0_132.out _ | refine IsS65.far ?_ NB0_154.out _) | exact HI0.out)); (case side2 => exact bl3 (IsS65.ge HI0.out) GE132.out GE154.out); rintro e w24 ⟨rfl, hi, hb, hk⟩; refine ⟨_, rfl, ?_⟩; have n0_ := aM (KeepBut.blk hk (g' := gb132) (o := .cells #[.int .i64 0, .int .i64 0, .int .u64 0, .int .u64 0] 61 (0, 0)) (by refine bkS ?_; refine blk_far ?_ NB132_154.out _; refine bkS ?_; refine blk_far ?_ NB132_154.out _; refine bkS ?_; refine blk_far ?_ NB132_154.out _; refine bkS ?_; refine blk_far ?_ NB132_154.out _; refine bkS ?_; exact BK132.out) NB132_0.out (by simp)); have n1_ := aM (KeepBut.blk hk (g' := gb154) (o := .cells #[.int .i64 t149, .int .i64 t150, .int .u64 t151, .int .u64 t152] 61 (0, 0)) (by refine bkS ?_; refine blk_put (cs := #[.int .i64 t149, .int .i64 t150, .int .u64 t151, .int .u64 0]) ?_ 3 _ rfl; refine bkS ?_; refine blk_put (cs := #[.int .i64 t149, .int .i64 t150, .int .u64 0, .int .u64 0]) ?_ 2 _ rfl; refine bkS ?_; refine blk_put (cs := #[.int .i64 t149, .int .i64 0, .int .u64 0, .int .u64 0]) ?_ 1 _ rfl; refine bkS ?_; refine blk_put (cs := #[.int .i64 0, .int .i64 0, .int .u64 0, .int .u64 0]) ?_ 0 _ rfl; refine bkS ?_; exact BK154.out) NB154_0.out (by simp)); have n2_ := aM (KeepBut.trans (by repeat (first | (with_reducible first | exact HK.out | apply KeepBut.set_ | apply keep_drewN | apply keep_drew | apply keep_alloc | refine keep_far ?_ GW132.out _ | refine keep_far ?_ GW154.out _) | exact HK.out)) hk (.inl rfl)); have n3_ := aM (hb); have n4_ := aM (hi); clear BK132; clear BK154; clear HK; clear HB; clear HI0; have BK132 := n0_; have BK154 := n1_; have HK := n2_; have HB := n3_; have HI0 := n4_; clear n0_ n1_ n2_ n3_ n4_; (try clear hb); (try clear hb2); (try clear hk); (try clear hi); have hcz25_0 : w24.cell? ⟨gb154, 0, none⟩ = some (.int .i64 t149) := (blk_cell BK154.out 0).trans rfl; have hcz25_1 : w24.cell? ⟨gb154, 1, none⟩ = some (.int .i64 t150) := (blk_cell BK154.out 1).trans rfl; have hcz25_2 : w24.cell? ⟨gb154, 2, none⟩ = some (.int .u64 t151) := (blk_cell BK154.out 2).trans rfl; have hcz25_3 : w24.cell? ⟨gb154, 3, none⟩ = some (.int .u64 t152) := (blk_cell BK154.out 3).trans rfl; have hfz25_0 := blk_frozen BK154.out 0; have hfz25_1 := blk_frozen BK154.out 1; have hfz25_2 := blk_frozen BK154.out 2; have hfz25_3 := blk_frozen BK154.out 3; have hnb26 := NB132_0.out; have hnc26 := NB0_132.out; have hcz27_0 : w24.cell? ⟨gb132, 0, none⟩ = some (.int .i64 0) := (blk_cell BK132.out 0).trans rfl; have hcz27_1 : w24.cell? ⟨gb132, 1, none⟩ = some (.int .i64 0) := (blk_cell BK132.out 1).trans rfl; have hcz27_2 : w24.cell? ⟨gb132, 2, none⟩ = some (.int .u64 0) := (blk_cell BK132.out 2).trans rfl; have hcz27_3 : w24.cell? ⟨gb132, 3, none⟩ = some (.int .u64 0) := (blk_cell BK132.out 3).trans rfl; have hfz27_0 := blk_frozen BK132.out 0; have hfz27_1 := blk_frozen BK132.out 1; have hfz27_2 := blk_frozen BK132.out 2; have hfz27_3 := blk_frozen BK132.out 3))
 refine bodyPost_ret (results_cell_row rfl _ _ gb132 61 #[.int .i64 t149, .int .i64 t150, .int .u64 t151, .int .u64 t152] (0, 0) _ rfl (by refine bkS ?_; refine blk_put (cs := #[.int .i64 t149, .int .i64 t150, .int .u64 t151, .int .u64 0]) ?_ 3 _ rfl; refine bkS ?_; refine blk_put (cs := #[.int .i64 t149, .int .i64 t150, .int .u64 0, .int .u64 0]) ?_ 2 _ rfl; refine bkS ?_; refine blk_put (cs := #[.int .i64 t149, .int .i64 0, .int .u64 0, .int .u64 0]) ?_ 1 _ rfl; refine bkS ?_; refine blk_put (cs := #[.int .i64 0, .int .i64 0, .int .u64 0, .int .u64 0]) ?_ 0 _ rfl; refine bkS ?_; exact BK132.out) Try.underlying61 rfl kR) rfl ?_
 exact ⟨erA, by repeat (first | (with_reducible first | exact HI0.out | apply IsS65.alloc | apply IsS65.drewN | apply IsS65.drew | apply IsS65.set_0 | apply IsS65.set_1 | apply IsS65.set_2 | refine IsS65.far ?_ NB0_132.out _ | refine IsS65.far ?_ NB0_154.out _) | exact HI0.out), bl3 (IsS65.ge HI0.out) GE132.out GE154.out, by repeat (first | (with_reducible first | exact HK.out | apply KeepBut.set_ | apply keep_drewN | apply keep_drew | apply keep_alloc | refine keep_far ?_ GW132.out _ | refine keep_far ?_ GW154.out _) | exact HK.out)⟩
end Go.Proofs.Ytekpbgmmogpbdaa.P
namespace Go.Proofs.Ytekpbgmmogpbdaa.P
open Go.RowKit Go.Proofs.Ytekpbgmmogpbdaa.H Go.Proofs.YtekpbgmmogpbdaaW.PrintWords Go.Proofs.YtekpbgmmogpbdaaW.PrintLast Go.Proofs.YtekpbgmmogpbdaaW.PrintMore
attribute [local go_sem] max2_int min2_int max_two min_two max_three min_three max_four min_four
def hurdleref01_digits.f : Nat → Int → Option (ByteArray)
 | 0, _ => none
 | k + 1, a0 => (some (([(IntKind.u64.wrap (48 + (Int.tmod a0 16))) % 256] : List Int) : List Int)).bind fun y230 => (if (Int.tmod a0 16) > 9 then ((some (([(IntKind.u64.wrap (87 + (Int.tmod a0 16))) % 256] : List Int) : List Int)).bind fun y233 => (if a0 < 16 then (some (strOfNums y233)) else ((hurdleref01_digits.f k (IntKind.u64.wrap (Int.tdiv a0 16))).bind fun t236 => (if t236.size + (strOfNums y233).size ≤ 9223372036854775807 then (some (t236 ++ (strOfNums y233))) else (none))))) else (if a0 < 16 then (some (strOfNums y230)) else ((hurdleref01_digits.f k (IntKind.u64.wrap (Int.tdiv a0 16))).bind fun t237 => (if t237.size + (strOfNums y230).size ≤ 9223372036854775807 then (some (t237 ++ (strOfNums y230))) else (none)))))
set_option maxHeartbeats 8000000 in
set_option maxRecDepth 100000 in
theorem hurdleref01_digits.calls (k : Nat) : ∀ (a0 : Int) (r : ByteArray) (w : World) (h : hurdleref01_digits.f k a0 = some r),
 Calls Try.prog 71 #[.int .u64 a0] w fun e w' => e = .returned (.string r) ∧ Below w.heap.size w w' := by
 induction k using Nat.strongRecOn with
 | _ k ih =>
 intro a0 r w h
 cases k with
 | zero => exact absurd h (by simp [hurdleref01_digits.f])
 | succ k =>
 simp only [hurdleref01_digits.f] at h
 have HB := aM (Below.refl w.heap.size w)
 have H : ((some (([(IntKind.u64.wrap (48 + (Int.tmod a0 16))) % 256] : List Int) : List Int)).bind fun y230 => (if (Int.tmod a0 16) > 9 then ((some (([(IntKind.u64.wrap (87 + (Int.tmod a0 16))) % 256] : List Int) : List Int)).bind fun y233 => (if a0 < 16 then (some (strOfNums y233)) else ((hurdleref01_digits.f k (IntKind.u64.wrap (Int.tdiv a0 16))).bind fun t236 => (if t236.size + (strOfNums y233).size ≤ 9223372036854775807 then (some (t236 ++ (strOfNums y233))) else (none))))) else (if a0 < 16 then (some (strOfNums y230)) else ((hurdleref01_digits.f k (IntKind.u64.wrap (Int.tdiv a0 16))).bind fun t237 => (if t237.size + (strOfNums y230).size ≤ 9223372036854775807 then (some (t237 ++ (strOfNums y230))) else (none)))))) = some r := h
 clear h
 obtain ⟨y230, hy230⟩ : ∃ y_ : List Int, y_ = (([(IntKind.u64.wrap (48 + (Int.tmod a0 16))) % 256] : List Int)) := ⟨_, rfl⟩
 replace H : (if (Int.tmod a0 16) > 9 then ((some (([(IntKind.u64.wrap (87 + (Int.tmod a0 16))) % 256] : List Int) : List Int)).bind fun y233 => (if a0 < 16 then (some (strOfNums y233)) else ((hurdleref01_digits.f k (IntKind.u64.wrap (Int.tdiv a0 16))).bind fun t236 => (if t236.size + (strOfNums y233).size ≤ 9223372036854775807 then (some (t236 ++ (strOfNums y233))) else (none))))) else (if a0 < 16 then (some (strOfNums y230)) else ((hurdleref01_digits.f k (IntKind.u64.wrap (Int.tdiv a0 16))).bind fun t237 => (if t237.size + (strOfNums y230).size ≤ 9223372036854775807 then (some (t237 ++ (strOfNums y230))) else (none))))) = some r := by first | (rw [hy230]; with_reducible exact H) | (have H2_ := (Option.bind_some _ _).symm.trans H; rw [hy230]; with_reducible exact H2_) | (have H2_ := (Option.bind_some _ _).symm.trans H; with_reducible exact H2_) | with_reducible exact H | (rw [hy230]; exact H) | exact H
 have Ny230 := aM hy230
 clear hy230
 by_cases c2 : (Int.tmod a0 16) > 9
 rotate_left
 · rw [if_neg c2] at H
   have c2b0 : decide (9 < (Int.tmod a0 16)) = false := decide_eq_false c2
   clear c2
   by_cases c19 : a0 < 16
   · rw [if_pos c19] at H
     have c19b0 : decide (a0 < 16) = true := decide_eq_true c19
     clear c19
     obtain rfl := Option.some.inj H
     go_enter Try.func71, Try.ntmps71
     go_wp2_with (first | ((with_reducible refine gate_dst (N := 10) rfl ?_); refine Kd.R_lit (Kd.int .u8) _ 5 ?hg (N := 10) ?hd (xs := ([(IntKind.u64.wrap (48 + (Int.tmod a0 16))) % 256] : List Int)) (inner := [.int .u8 ((IntKind.u64.wrap (48 + (Int.tmod a0 16))) % 256)]) (ok := fun _ => True) (okp := fun _ => True) ?hr ?hp (fun _ hk => hk) trivial (Below.refl _ _) (Nat.le_refl _) (by simp) ?_; (case hd => rfl); (case hg => rfl); (case hr => first | (go_simp; done) | (go_simp; rfl)); (case hp => exact (Reps.one (show Kd.M (Kd.int .u8) _ _ _ ((IntKind.u64.wrap (48 + (Int.tmod a0 16))) % 256) [.int .u8 ((IntKind.u64.wrap (48 + (Int.tmod a0 16))) % 256)] from rfl) (Reps.none _ _))); intro v231 w20 ho21 hb hg_ hnew_; clear hg_ hnew_; (first | rw [← Ny230.out] at ho21 | (simp only [Int.reduceToNat] at ho21; rw [← Ny230.out] at ho21)); have n0_ := aM (Kd.R_lower ho21 (below_size bl0)); have n1_ := aM (below_step bl0 hb); clear HB; have HO232 := n0_; have HB := n1_; clear n0_ n1_; clear hb ho21; have hcv22 := own_string (P := Try.prog) Try.underlying101 Try.underlying5 Try.underlying9 (Kd.own_of_R HO232.out)))
     go_ret
     exact ⟨erA, bl0⟩
   rw [if_neg c19] at H
   have c19b0 : decide (a0 < 16) = false := decide_eq_false c19
   clear c19
   replace H := Option.bind_eq_some_iff.mp H
   obtain ⟨t237, A230, H⟩ := H
   replace H : (if t237.size + (strOfNums y230).size ≤ 9223372036854775807 then (some (t237 ++ (strOfNums y230))) else (none)) = some r := H
   have A23 := aM A230
   clear A230
   by_cases c24 : t237.size + (strOfNums y230).size ≤ 9223372036854775807
   rotate_left
   · rw [if_neg c24] at H
     exact absurd H (by simp)
   rw [if_pos c24] at H
   have c24b0 := eq_true c24
   have c24b1 : decide (t237.size + (strOfNums y230).size ≤ 9223372036854775807) = true := decide_eq_true c24
   try have c24b2 : (9223372036854775807 < t237.size + (strOfNums y230).size) = False := eq_false (Nat.not_lt.2 c24)
   obtain rfl := Option.some.inj H
   go_enter Try.func71, Try.ntmps71
   go_wp2_with (first | ((with_reducible refine gate_dst (N := 10) rfl ?_); refine Kd.R_lit (Kd.int .u8) _ 5 ?hg (N := 10) ?hd (xs := ([(IntKind.u64.wrap (48 + (Int.tmod a0 16))) % 256] : List Int)) (inner := [.int .u8 ((IntKind.u64.wrap (48 + (Int.tmod a0 16))) % 256)]) (ok := fun _ => True) (okp := fun _ => True) ?hr ?hp (fun _ hk => hk) trivial (Below.refl _ _) (Nat.le_refl _) (by simp) ?_; (case hd => rfl); (case hg => rfl); (case hr => first | (go_simp; done) | (go_simp; rfl)); (case hp => exact (Reps.one (show Kd.M (Kd.int .u8) _ _ _ ((IntKind.u64.wrap (48 + (Int.tmod a0 16))) % 256) [.int .u8 ((IntKind.u64.wrap (48 + (Int.tmod a0 16))) % 256)] from rfl) (Reps.none _ _))); intro v231 w25 ho26 hb hg_ hnew_; clear hg_ hnew_; (first | rw [← Ny230.out] at ho26 | (simp only [Int.reduceToNat] at ho26; rw [← Ny230.out] at ho26)); have n0_ := aM (Kd.R_lower ho26 (below_size bl0)); have n1_ := aM (below_step bl0 hb); clear HB; have HO232 := n0_; have HB := n1_; clear n0_ n1_; clear hb ho26; have hcv27 := own_string (P := Try.prog) Try.underlying101 Try.underlying5 Try.underlying9 (Kd.own_of_R HO232.out)) | ((with_reducible refine gate_callee (f := 71) rfl ?_); refine goesL_ (some 24) rfl rfl Try.func71 kR rfl #[.int .u64 (IntKind.u64.wrap (Int.tdiv a0 16))] rfl mpA ?_; (with_reducible refine (ih k (by omega) (IntKind.u64.wrap (Int.tdiv a0 16)) t237 _ A23.out).mono ?_); rintro e w28 ⟨rfl, hb⟩; refine ⟨_, rfl, ?_⟩; have n0_ := aM (Kd.R_below (rdS HO232.out) hb); have n1_ := aM (below_step bl0 hb); clear HO232; clear HB; have HO232 := n0_; have HB := n1_; clear n0_ n1_; (try clear hb); (try clear hb2); (try clear hk); (try clear hi)))
   go_ret
   exact ⟨erA, bl0⟩
 rw [if_pos c2] at H
 have c2b0 : decide (9 < (Int.tmod a0 16)) = true := decide_eq_true c2
 clear c2
 obtain ⟨y233, hy233⟩ : ∃ y_ : List Int, y_ = (([(IntKind.u64.wrap (87 + (Int.tmod a0 16))) % 256] : List Int)) := ⟨_, rfl⟩
 replace H : (if a0 < 16 then (some (strOfNums y233)) else ((hurdleref01_digits.f k (IntKind.u64.wrap (Int.tdiv a0 16))).bind fun t236 => (if t236.size + (strOfNums y233).size ≤ 9223372036854775807 then (some (t236 ++ (strOfNums y233))) else (none)))) = some r := by first | (rw [hy233]; with_reducible exact H) | (have H2_ := (Option.bind_some _ _).symm.trans H; rw [hy233]; with_reducible exact H2_) | (have H2_ := (Option.bind_some _ _).symm.trans H; with_reducible exact H2_) | with_reducible exact H | (rw [hy233]; exact H) | exact H
 have Ny233 := aM hy233
 clear hy233
 by_cases c3 : a0 < 16
 · rw [if_pos c3] at H
   have c3b0 : decide (a0 < 16) = true := decide_eq_true c3
   clear c3
   obtain rfl := Option.some.inj H
   go_enter Try.func71, Try.ntmps71
   go_wp2_with (first | ((with_reducible refine gate_dst (N := 10) rfl ?_); refine Kd.R_lit (Kd.int .u8) _ 5 ?hg (N := 10) ?hd (xs := ([(IntKind.u64.wrap (48 + (Int.tmod a0 16))) % 256] : List Int)) (inner := [.int .u8 ((IntKind.u64.wrap (48 + (Int.tmod a0 16))) % 256)]) (ok := fun _ => True) (okp := fun _ => True) ?hr ?hp (fun _ hk => hk) trivial (Below.refl _ _) (Nat.le_refl _) (by simp) ?_; (case hd => rfl); (case hg => rfl); (case hr => first | (go_simp; done) | (go_simp; rfl)); (case hp => exact (Reps.one (show Kd.M (Kd.int .u8) _ _ _ ((IntKind.u64.wrap (48 + (Int.tmod a0 16))) % 256) [.int .u8 ((IntKind.u64.wrap (48 + (Int.tmod a0 16))) % 256)] from rfl) (Reps.none _ _))); intro v231 w4 ho5 hb hg_ hnew_; clear hg_ hnew_; (first | rw [← Ny230.out] at ho5 | (simp only [Int.reduceToNat] at ho5; rw [← Ny230.out] at ho5)); have n0_ := aM (Kd.R_lower ho5 (below_size bl0)); have n1_ := aM (below_step bl0 hb); clear HB; have HO232 := n0_; have HB := n1_; clear n0_ n1_; clear hb ho5; have hcv6 := own_string (P := Try.prog) Try.underlying101 Try.underlying5 Try.underlying9 (Kd.own_of_R HO232.out)) | ((with_reducible refine gate_dst (N := 17) rfl ?_); refine Kd.R_lit (Kd.int .u8) _ 5 ?hg (N := 17) ?hd (xs := ([(IntKind.u64.wrap (87 + (Int.tmod a0 16))) % 256] : List Int)) (inner := [.int .u8 ((IntKind.u64.wrap (87 + (Int.tmod a0 16))) % 256)]) (ok := fun _ => True) (okp := fun _ => True) ?hr ?hp (fun _ hk => hk) trivial (Below.refl _ _) (Nat.le_refl _) (by simp) ?_; (case hd => rfl); (case hg => rfl); (case hr => first | (go_simp; done) | (go_simp; rfl)); (case hp => exact (Reps.one (show Kd.M (Kd.int .u8) _ _ _ ((IntKind.u64.wrap (87 + (Int.tmod a0 16))) % 256) [.int .u8 ((IntKind.u64.wrap (87 + (Int.tmod a0 16))) % 256)] from rfl) (Reps.none _ _))); intro v234 w7 ho8 hb hg_ hnew_; clear hg_ hnew_; (first | rw [← Ny233.out] at ho8 | (simp only [Int.reduceToNat] at ho8; rw [← Ny233.out] at ho8)); have n0_ := aM (Kd.R_elder' (rdS HO232.out) (Kd.R_base ho8) hb); have n1_ := aM (Kd.R_lower (Kd.R_new' ho8 (Kd.R_lt (rdS HO232.out))) (below_size bl0)); have n2_ := aM (below_step bl0 hb); clear HO232; clear HB; have HO232 := n0_; have HO235 := n1_; have HB := n2_; clear n0_ n1_ n2_; clear hb ho8; have hcv9 := own_string (P := Try.prog) Try.underlying101 Try.underlying5 Try.underlying9 (Kd.own_of_R HO235.out)))
   go_ret
   exact ⟨erA, bl0⟩
 rw [if_neg c3] at H
 have c3b0 : decide (a0 < 16) = false := decide_eq_false c3
 clear c3
 replace H := Option.bind_eq_some_iff.mp H
 obtain ⟨t236, A100, H⟩ := H
 replace H : (if t236.size + (strOfNums y233).size ≤ 9223372036854775807 then (some (t236 ++ (strOfNums y233))) else (none)) = some r := H
 have A10 := aM A100
 clear A100
 by_cases c11 : t236.size + (strOfNums y233).size ≤ 9223372036854775807
 rotate_left
 · rw [if_neg c11] at H
   exact absurd H (by simp)
 rw [if_pos c11] at H
 have c11b0 := eq_true c11
 have c11b1 : decide (t236.size + (strOfNums y233).size ≤ 9223372036854775807) = true := decide_eq_true c11
 try have c11b2 : (9223372036854775807 < t236.size + (strOfNums y233).size) = False := eq_false (Nat.not_lt.2 c11)
 obtain rfl := Option.some.inj H
 go_enter Try.func71, Try.ntmps71
 go_wp2_with (first | ((with_reducible refine gate_dst (N := 10) rfl ?_); refine Kd.R_lit (Kd.int .u8) _ 5 ?hg (N := 10) ?hd (xs := ([(IntKind.u64.wrap (48 + (Int.tmod a0 16))) % 256] : List Int)) (inner := [.int .u8 ((IntKind.u64.wrap (48 + (Int.tmod a0 16))) % 256)]) (ok := fun _ => True) (okp := fun _ => True) ?hr ?hp (fun _ hk => hk) trivial (Below.refl _ _) (Nat.le_refl _) (by simp) ?_; (case hd => rfl); (case hg => rfl); (case hr => first | (go_simp; done) | (go_simp; rfl)); (case hp => exact (Reps.one (show Kd.M (Kd.int .u8) _ _ _ ((IntKind.u64.wrap (48 + (Int.tmod a0 16))) % 256) [.int .u8 ((IntKind.u64.wrap (48 + (Int.tmod a0 16))) % 256)] from rfl) (Reps.none _ _))); intro v231 w12 ho13 hb hg_ hnew_; clear hg_ hnew_; (first | rw [← Ny230.out] at ho13 | (simp only [Int.reduceToNat] at ho13; rw [← Ny230.out] at ho13)); have n0_ := aM (Kd.R_lower ho13 (below_size bl0)); have n1_ := aM (below_step bl0 hb); clear HB; have HO232 := n0_; have HB := n1_; clear n0_ n1_; clear hb ho13; have hcv14 := own_string (P := Try.prog) Try.underlying101 Try.underlying5 Try.underlying9 (Kd.own_of_R HO232.out)) | ((with_reducible refine gate_dst (N := 17) rfl ?_); refine Kd.R_lit (Kd.int .u8) _ 5 ?hg (N := 17) ?hd (xs := ([(IntKind.u64.wrap (87 + (Int.tmod a0 16))) % 256] : List Int)) (inner := [.int .u8 ((IntKind.u64.wrap (87 + (Int.tmod a0 16))) % 256)]) (ok := fun _ => True) (okp := fun _ => True) ?hr ?hp (fun _ hk => hk) trivial (Below.refl _ _) (Nat.le_refl _) (by simp) ?_; (case hd => rfl); (case hg => rfl); (case hr => first | (go_simp; done) | (go_simp; rfl)); (case hp => exact (Reps.one (show Kd.M (Kd.int .u8) _ _ _ ((IntKind.u64.wrap (87 + (Int.tmod a0 16))) % 256) [.int .u8 ((IntKind.u64.wrap (87 + (Int.tmod a0 16))) % 256)] from rfl) (Reps.none _ _))); intro v234 w15 ho16 hb hg_ hnew_; clear hg_ hnew_; (first | rw [← Ny233.out] at ho16 | (simp only [Int.reduceToNat] at ho16; rw [← Ny233.out] at ho16)); have n0_ := aM (Kd.R_elder' (rdS HO232.out) (Kd.R_base ho16) hb); have n1_ := aM (Kd.R_lower (Kd.R_new' ho16 (Kd.R_lt (rdS HO232.out))) (below_size bl0)); have n2_ := aM (below_step bl0 hb); clear HO232; clear HB; have HO232 := n0_; have HO235 := n1_; have HB := n2_; clear n0_ n1_ n2_; clear hb ho16; have hcv17 := own_string (P := Try.prog) Try.underlying101 Try.underlying5 Try.underlying9 (Kd.own_of_R HO235.out)) | ((with_reducible refine gate_callee (f := 71) rfl ?_); refine goesL_ (some 24) rfl rfl Try.func71 kR rfl #[.int .u64 (IntKind.u64.wrap (Int.tdiv a0 16))] rfl mpA ?_; (with_reducible refine (ih k (by omega) (IntKind.u64.wrap (Int.tdiv a0 16)) t236 _ A10.out).mono ?_); rintro e w18 ⟨rfl, hb⟩; refine ⟨_, rfl, ?_⟩; have n0_ := aM (Kd.R_below (rdS HO232.out) hb); have n1_ := aM (Kd.R_below (rdS HO235.out) hb); have n2_ := aM (below_step bl0 hb); clear HO232; clear HO235; clear HB; have HO232 := n0_; have HO235 := n1_; have HB := n2_; clear n0_ n1_ n2_; (try clear hb); (try clear hb2); (try clear hk); (try clear hi)))
 go_ret
 exact ⟨erA, bl0⟩
def hurdleref09_Action.j0 : Nat → Int → Bool → Option (ByteArray)
 | 0, _, _ => none
 | k + 1, x0, x8 => if x8 = true then ((hurdleref01_Text.f ((x0 - 327680) % 4294967296)).bind fun t238 => (if 6 + t238.size ≤ 9223372036854775807 then (some ((⟨#[101, 114, 114, 111, 114, 58]⟩ : ByteArray) ++ t238)) else (none))) else (if x0 = 0 then (some (⟨#[107, 105, 108, 108]⟩ : ByteArray)) else (if x0 = 196608 then (some (⟨#[116, 114, 97, 112]⟩ : ByteArray)) else (if x0 = 2147221504 then (some (⟨#[108, 111, 103]⟩ : ByteArray)) else (if x0 = 2147418112 then (some (⟨#[97, 108, 108, 111, 119]⟩ : ByteArray)) else (some (⟨#[]⟩ : ByteArray))))))
def hurdleref09_Action.f (k : Nat) (a0 : Int) : Option (ByteArray) := if a0 ≥ 327680 then (hurdleref09_Action.j0 k a0 (decide (a0 ≤ 331775))) else (hurdleref09_Action.j0 k a0 false)
theorem hurdleref09_Action.mono_l : ∀ k, (∀ y0 y1, LeO (hurdleref09_Action.j0 k y0 y1) (hurdleref09_Action.j0 (k + 1) y0 y1))
 | 0 => fun _ _ r h => by simp [hurdleref09_Action.j0] at h
 | k + 1 => by
  have ih0 := hurdleref09_Action.mono_l k
  · intro y0 y1
    unfold hurdleref09_Action.j0
    repeat' first
    | (with_reducible exact ih0 _ _)
    | (with_reducible exact LeO.refl _)
    | (with_reducible exact LeO.none _)
    | (with_reducible refine LeO.ite ?_ ?_)
    | (with_reducible refine LeO.bind ?_ (fun _ => ?_))
    | exact ih0 _ _
    | exact LeO.none _
    | refine LeO.ite ?_ ?_
    | refine LeO.bind ?_ (fun _ => ?_)
theorem hurdleref09_Action.mono : ∀ a0 k, LeO (hurdleref09_Action.f k a0) (hurdleref09_Action.f (k + 1) a0) := by
 intro a0 k
 have ih0 := hurdleref09_Action.mono_l k
 unfold hurdleref09_Action.f
 repeat' first
  | (with_reducible exact ih0 _ _)
  | (with_reducible exact LeO.refl _)
  | (with_reducible exact LeO.none _)
  | (with_reducible refine LeO.ite ?_ ?_)
  | (with_reducible refine LeO.bind ?_ (fun _ => ?_))
  | exact ih0 _ _
  | exact LeO.none _
  | refine LeO.ite ?_ ?_
  | refine LeO.bind ?_ (fun _ => ?_)
set_option maxHeartbeats 8000000 in
set_option maxRecDepth 100000 in
theorem hurdleref09_Action.calls (k : Nat) (a0 : Int) (r : ByteArray) (w : World) (h : hurdleref09_Action.f k a0 = some r) :
 Calls Try.prog 33 #[.int .u32 a0] w fun e w' => e = .returned (.string r) ∧ Below w.heap.size w w' := by
 have HB := aM (Below.refl w.heap.size w)
 have H : (if a0 ≥ 327680 then (hurdleref09_Action.j0 k a0 (decide (a0 ≤ 331775))) else (hurdleref09_Action.j0 k a0 false)) = some r := h
 clear h
 have HC2 := aM H
 clear H
 go_enter Try.func33, Try.ntmps33
 go_upto_region 1 with (fail)
 go_cut [8] (fun v8 wc => ∃ (kq : Nat) (x8_1 : Bool), v8 = .bool x8_1 ∧ Aside0 (hurdleref09_Action.j0 kq a0 x8_1 = some r) ∧ Aside0 (kq ≤ k) ∧ Aside0 (Below w.heap.size w wc))
 case first =>
  have H := HC2.out
  clear HC2
  by_cases c3 : a0 ≥ 327680
  · rw [if_pos c3] at H
    have c3b0 : decide (327680 ≤ a0) = true := decide_eq_true c3
    clear c3
    (first | rw [c3b0] | (simp only [i64_w, i32_w]; rw [c3b0]) | skip)
    have H' := aM H
    clear H
    go_wp2
    go_meet
    case rel => exact ⟨_, (decide (a0 ≤ 331775)), (by first | rfl | (simp; done) | (simp [*]; done)), H', ⟨by first | omega | exact Nat.le_refl _⟩, ⟨bl0⟩⟩
  rw [if_neg c3] at H
  have c3b0 : decide (327680 ≤ a0) = false := decide_eq_false c3
  clear c3
  (first | rw [c3b0] | (simp only [i64_w, i32_w]; rw [c3b0]) | skip)
  have H' := aM H
  clear H
  go_wp2
  go_meet
  case rel => exact ⟨_, (false), (by first | rfl | (simp; done) | (simp [*]; done)), H', ⟨by first | omega | exact Nat.le_refl _⟩, ⟨bl0⟩⟩
 case rest =>
  clear HC2
  try clear p2
  try clear c3
  try clear c3b0
  obtain ⟨kq, x8_1, rfl, HA, HJ1, HB⟩ := hcut
  cases kq with
  | zero => exact absurd HA.out (by simp [hurdleref09_Action.j0])
  | succ kj1 =>
   have H := HA.out
   clear HA
   simp only [hurdleref09_Action.j0] at H
   by_cases c4 : x8_1 = true
   · subst c4
     have H1 : ((hurdleref01_Text.f ((a0 - 327680) % 4294967296)).bind fun t238 => (if 6 + t238.size ≤ 9223372036854775807 then (some ((⟨#[101, 114, 114, 111, 114, 58]⟩ : ByteArray) ++ t238)) else (none))) = some r := by rw [if_pos rfl] at H; exact H
     clear H
     have H := H1
     clear H1
     replace H := Option.bind_eq_some_iff.mp H
     obtain ⟨t238, A50, H⟩ := H
     replace H : (if 6 + t238.size ≤ 9223372036854775807 then (some ((⟨#[101, 114, 114, 111, 114, 58]⟩ : ByteArray) ++ t238)) else (none)) = some r := H
     have A5 := aM A50
     clear A50
     by_cases c6 : 6 + t238.size ≤ 9223372036854775807
     rotate_left
     · rw [if_neg c6] at H
       exact absurd H (by simp)
     rw [if_pos c6] at H
     have c6b0 := eq_true c6
     have c6b1 : decide (6 + t238.size ≤ 9223372036854775807) = true := decide_eq_true c6
     try have c6b2 : (9223372036854775807 < 6 + t238.size) = False := eq_false (Nat.not_lt.2 c6)
     obtain rfl := Option.some.inj H
     go_wp2_with (first | ((with_reducible refine gate_callee (f := 54) rfl ?_); refine goesL_ (some 12) rfl rfl Try.func54 kR rfl #[.int .u64 ((a0 - 327680) % 4294967296)] rfl mpA ?_; (with_reducible refine (hurdleref01_Text.calls ((a0 - 327680) % 4294967296) t238 _ A5.out).mono ?_); rintro e w7 ⟨rfl, hb⟩; refine ⟨_, rfl, ?_⟩; have n0_ := aM (below_step bl0 hb); clear HB; have HB := n0_; clear n0_; (try clear hb); (try clear hb2); (try clear hk); (try clear hi)))
     go_ret
     exact ⟨erA, bl0⟩
   replace c4 := Bool.eq_false_iff.mpr c4
   subst c4
   have H1 : (if a0 = 0 then (some (⟨#[107, 105, 108, 108]⟩ : ByteArray)) else (if a0 = 196608 then (some (⟨#[116, 114, 97, 112]⟩ : ByteArray)) else (if a0 = 2147221504 then (some (⟨#[108, 111, 103]⟩ : ByteArray)) else (if a0 = 2147418112 then (some (⟨#[97, 108, 108, 111, 119]⟩ : ByteArray)) else (some (⟨#[]⟩ : ByteArray)))))) = some r := by rw [if_neg (show ¬ (false = true) by decide)] at H; exact H
   clear H
   have H := H1
   clear H1
   by_cases c8 : a0 = 0
   · rw [if_pos c8] at H
     have c8b0 : (a0 == 0) = true := beq_iff_eq.mpr c8
     have c8b1 : (a0 != 0) = false := bne_eq_false_iff_eq.mpr c8
     clear c8
     obtain rfl := Option.some.inj H
     go_wp2
     go_ret
     exact ⟨erA, bl0⟩
   rw [if_neg c8] at H
   have c8b0 : (a0 == 0) = false := beq_eq_false_iff_ne.mpr c8
   have c8b1 : (a0 != 0) = true := bne_iff_ne.mpr c8
   by_cases c9 : a0 = 196608
   · rw [if_pos c9] at H
     have c9b0 : (a0 == 196608) = true := beq_iff_eq.mpr c9
     have c9b1 : (a0 != 196608) = false := bne_eq_false_iff_eq.mpr c9
     clear c9
     obtain rfl := Option.some.inj H
     go_wp2
     go_ret
     exact ⟨erA, bl0⟩
   rw [if_neg c9] at H
   have c9b0 : (a0 == 196608) = false := beq_eq_false_iff_ne.mpr c9
   have c9b1 : (a0 != 196608) = true := bne_iff_ne.mpr c9
   by_cases c10 : a0 = 2147221504
   · rw [if_pos c10] at H
     have c10b0 : (a0 == 2147221504) = true := beq_iff_eq.mpr c10
     have c10b1 : (a0 != 2147221504) = false := bne_eq_false_iff_eq.mpr c10
     clear c10
     obtain rfl := Option.some.inj H
     go_wp2
     go_ret
     exact ⟨erA, bl0⟩
   rw [if_neg c10] at H
   have c10b0 : (a0 == 2147221504) = false := beq_eq_false_iff_ne.mpr c10
   have c10b1 : (a0 != 2147221504) = true := bne_iff_ne.mpr c10
   by_cases c11 : a0 = 2147418112
   rotate_left
   · rw [if_neg c11] at H
     have c11b0 : (a0 == 2147418112) = false := beq_eq_false_iff_ne.mpr c11
     have c11b1 : (a0 != 2147418112) = true := bne_iff_ne.mpr c11
     obtain rfl := Option.some.inj H
     go_wp2
     go_ret
     exact ⟨erA, bl0⟩
   rw [if_pos c11] at H
   have c11b0 : (a0 == 2147418112) = true := beq_iff_eq.mpr c11
   have c11b1 : (a0 != 2147418112) = false := bne_eq_false_iff_eq.mpr c11
   clear c11
   obtain rfl := Option.some.inj H
   go_wp2
   go_ret
   exact ⟨erA, bl0⟩
end Go.Proofs.Ytekpbgmmogpbdaa.P
namespace Go.Proofs.Ytekpbgmmogpbdaa.P
open Go.RowKit Go.Proofs.Ytekpbgmmogpbdaa.H Go.Proofs.YtekpbgmmogpbdaaW.PrintWords Go.Proofs.YtekpbgmmogpbdaaW.PrintLast Go.Proofs.YtekpbgmmogpbdaaW.PrintMore
attribute [local go_sem] max2_int min2_int max_two min_two max_three min_three max_four min_four
def hurdleref09_Machines.f  : Option (List ByteArray × List Int) := some ((([(⟨#[120, 54, 52]⟩ : ByteArray), (⟨#[120, 56, 54]⟩ : ByteArray), (⟨#[97, 54, 52]⟩ : ByteArray), (⟨#[97, 114, 109]⟩ : ByteArray)] : List ByteArray)), (([3221225534, 1073741827, 3221225655, 1073741864] : List Int)))
set_option maxHeartbeats 8000000 in
set_option maxRecDepth 100000 in
theorem hurdleref09_Machines.calls  (r1 : List ByteArray) (r2 : List Int) (w : World) (h : hurdleref09_Machines.f  = some (r1, r2)) :
 Calls Try.prog 72 #[] w fun e w' => ∃ v0_ v1_ : Value, e = .returned (.tuple #[v0_, v1_]) ∧ Kd.R Kd.string 9 w' w.heap.size (fun _ => True) v0_ r1 ∧ Kd.R (Kd.int .u32) 23 w' w.heap.size (fun _ => True) v1_ r2 ∧ Below w.heap.size w w' := by
 have HB := aM (Below.refl w.heap.size w)
 have H : (some ((([(⟨#[120, 54, 52]⟩ : ByteArray), (⟨#[120, 56, 54]⟩ : ByteArray), (⟨#[97, 54, 52]⟩ : ByteArray), (⟨#[97, 114, 109]⟩ : ByteArray)] : List ByteArray)), (([3221225534, 1073741827, 3221225655, 1073741864] : List Int)))) = some (r1, r2) := h
 clear h
 obtain ⟨y247, hy247⟩ : ∃ y_ : List ByteArray, y_ = (([(⟨#[120, 54, 52]⟩ : ByteArray), (⟨#[120, 56, 54]⟩ : ByteArray), (⟨#[97, 54, 52]⟩ : ByteArray), (⟨#[97, 114, 109]⟩ : ByteArray)] : List ByteArray)) := ⟨_, rfl⟩
 replace H : (some (y247, (([3221225534, 1073741827, 3221225655, 1073741864] : List Int)))) = some (r1, r2) := by first | (rw [hy247]; with_reducible exact H) | (have H2_ := (Option.bind_some _ _).symm.trans H; rw [hy247]; with_reducible exact H2_) | (have H2_ := (Option.bind_some _ _).symm.trans H; with_reducible exact H2_) | with_reducible exact H | (rw [hy247]; exact H) | exact H
 have Ny247 := aM hy247
 clear hy247
 obtain ⟨y250, hy250⟩ : ∃ y_ : List Int, y_ = (([3221225534, 1073741827, 3221225655, 1073741864] : List Int)) := ⟨_, rfl⟩
 replace H : (some (y247, y250)) = some (r1, r2) := by first | (rw [hy250]; with_reducible exact H) | (have H2_ := (Option.bind_some _ _).symm.trans H; rw [hy250]; with_reducible exact H2_) | (have H2_ := (Option.bind_some _ _).symm.trans H; with_reducible exact H2_) | with_reducible exact H | (rw [hy250]; exact H) | exact H
 have Ny250 := aM hy250
 clear hy250
 simp only [Option.some.injEq, Prod.mk.injEq] at H
 obtain ⟨rfl, rfl⟩ := H
 go_enter Try.func72, Try.ntmps72
 go_wp2_with (first | ((with_reducible refine gate_dst (N := 2) rfl ?_); refine Kd.R_lit Kd.string _ 9 ?hg (N := 2) ?hd (xs := ([(⟨#[120, 54, 52]⟩ : ByteArray), (⟨#[120, 56, 54]⟩ : ByteArray), (⟨#[97, 54, 52]⟩ : ByteArray), (⟨#[97, 114, 109]⟩ : ByteArray)] : List ByteArray)) (inner := [.string (⟨#[120, 54, 52]⟩ : ByteArray), .string (⟨#[120, 56, 54]⟩ : ByteArray), .string (⟨#[97, 54, 52]⟩ : ByteArray), .string (⟨#[97, 114, 109]⟩ : ByteArray)]) (ok := fun _ => True) (okp := fun _ => True) ?hr ?hp (fun _ hk => hk) trivial (Below.refl _ _) (Nat.le_refl _) (by simp) ?_; (case hd => rfl); (case hg => rfl); (case hr => first | (go_simp; done) | (go_simp; rfl)); (case hp => exact (Reps.one (show Kd.M Kd.string _ _ _ (⟨#[120, 54, 52]⟩ : ByteArray) [.string (⟨#[120, 54, 52]⟩ : ByteArray)] from rfl) (Reps.one (show Kd.M Kd.string _ _ _ (⟨#[120, 56, 54]⟩ : ByteArray) [.string (⟨#[120, 56, 54]⟩ : ByteArray)] from rfl) (Reps.one (show Kd.M Kd.string _ _ _ (⟨#[97, 54, 52]⟩ : ByteArray) [.string (⟨#[97, 54, 52]⟩ : ByteArray)] from rfl) (Reps.one (show Kd.M Kd.string _ _ _ (⟨#[97, 114, 109]⟩ : ByteArray) [.string (⟨#[97, 114, 109]⟩ : ByteArray)] from rfl) (Reps.none _ _)))))); intro v248 w1 ho2 hb hg_ hnew_; clear hg_ hnew_; (first | rw [← Ny247.out] at ho2 | (simp only [Int.reduceToNat] at ho2; rw [← Ny247.out] at ho2)); have n0_ := aM (Kd.R_lower ho2 (below_size bl0)); have n1_ := aM (below_step bl0 hb); clear HB; have HO249 := n0_; have HB := n1_; clear n0_ n1_; clear hb ho2) | ((with_reducible refine gate_dst (N := 3) rfl ?_); refine Kd.R_lit (Kd.int .u32) _ 23 ?hg (N := 3) ?hd (xs := ([3221225534, 1073741827, 3221225655, 1073741864] : List Int)) (inner := [.int .u32 3221225534, .int .u32 1073741827, .int .u32 3221225655, .int .u32 1073741864]) (ok := fun _ => True) (okp := fun _ => True) ?hr ?hp (fun _ hk => hk) trivial (Below.refl _ _) (Nat.le_refl _) (by simp) ?_; (case hd => rfl); (case hg => rfl); (case hr => first | (go_simp; done) | (go_simp; rfl)); (case hp => exact (Reps.one (show Kd.M (Kd.int .u32) _ _ _ 3221225534 [.int .u32 3221225534] from rfl) (Reps.one (show Kd.M (Kd.int .u32) _ _ _ 1073741827 [.int .u32 1073741827] from rfl) (Reps.one (show Kd.M (Kd.int .u32) _ _ _ 3221225655 [.int .u32 3221225655] from rfl) (Reps.one (show Kd.M (Kd.int .u32) _ _ _ 1073741864 [.int .u32 1073741864] from rfl) (Reps.none _ _)))))); intro v251 w3 ho4 hb hg_ hnew_; clear hg_ hnew_; (first | rw [← Ny250.out] at ho4 | (simp only [Int.reduceToNat] at ho4; rw [← Ny250.out] at ho4)); have n0_ := aM (Kd.R_below (rdS HO249.out) hb); have n1_ := aM (Kd.R_lower ho4 (below_size bl0)); have n2_ := aM (below_step bl0 hb); clear HO249; clear HB; have HO249 := n0_; have HO252 := n1_; have HB := n2_; clear n0_ n1_ n2_; clear hb ho4))
 go_ret2
 exact ⟨_, _, erA, by refine rdS ?_; exact HO249.out, by refine rdS ?_; exact HO252.out, bl0⟩
def hurdleref09_text.l0 : Nat → List ByteArray → List Int → Int → Int → Option (ByteArray)
 | 0, _, _, _, _ => none
 | k + 1, x0, x1, x2, x7 => if x7 < (x0.length : Int) then (if 0 ≤ x7 then (if x7 < (x1.length : Int) then (if (rd x1 x7) = x2 then (some (rdOf ByteArray.empty x0 x7)) else (hurdleref09_text.l0 k x0 x1 x2 (wrap64 (x7 + 1)))) else (none)) else (none)) else ((hurdleref01_Text.f (IntKind.u64.wrap (x2))).bind fun t255 => (some t255))
def hurdleref09_text.f (k : Nat) (l0 : List ByteArray) (l1 : List Int) (a2 : Int) : Option (ByteArray) := hurdleref09_text.l0 k l0 l1 a2 0
theorem hurdleref09_text.mono_l : ∀ k, (∀ y0 y1 y2 y3, LeO (hurdleref09_text.l0 k y0 y1 y2 y3) (hurdleref09_text.l0 (k + 1) y0 y1 y2 y3))
 | 0 => fun _ _ _ _ r h => by simp [hurdleref09_text.l0] at h
 | k + 1 => by
  have ih0 := hurdleref09_text.mono_l k
  · intro y0 y1 y2 y3
    unfold hurdleref09_text.l0
    repeat' first
    | (with_reducible exact ih0 _ _ _ _)
    | (with_reducible exact LeO.refl _)
    | (with_reducible exact LeO.none _)
    | (with_reducible refine LeO.ite ?_ ?_)
    | (with_reducible refine LeO.bind ?_ (fun _ => ?_))
    | exact ih0 _ _ _ _
    | exact LeO.none _
    | refine LeO.ite ?_ ?_
    | refine LeO.bind ?_ (fun _ => ?_)
theorem hurdleref09_text.mono : ∀ a0 a1 a2 k, LeO (hurdleref09_text.f k a0 a1 a2) (hurdleref09_text.f (k + 1) a0 a1 a2) := by
 intro a0 a1 a2 k
 have ih0 := hurdleref09_text.mono_l k
 unfold hurdleref09_text.f
 repeat' first
  | (with_reducible exact ih0 _ _ _ _)
  | (with_reducible exact LeO.refl _)
  | (with_reducible exact LeO.none _)
  | (with_reducible refine LeO.ite ?_ ?_)
  | (with_reducible refine LeO.bind ?_ (fun _ => ?_))
  | exact ih0 _ _ _ _
  | exact LeO.none _
  | refine LeO.ite ?_ ?_
  | refine LeO.bind ?_ (fun _ => ?_)
set_option maxHeartbeats 8000000 in
set_option maxRecDepth 100000 in
theorem hurdleref09_text.calls (k : Nat) (A0 : Option Addr) (c0 : Nat) (l0 : List ByteArray) (A1 : Option Addr) (c1 : Nat) (l1 : List Int) (a2 : Int) (r : ByteArray) (w : World) (hr0 : Kd.C Kd.string w A0 l0.length l0) (hc0 : l0.length ≤ c0) (hr1 : Kd.C (Kd.int .u32) w A1 l1.length l1) (hc1 : l1.length ≤ c1) (h : hurdleref09_text.f k l0 l1 a2 = some r) :
 Calls Try.prog 73 #[.slice A0 l0.length c0, .slice A1 l1.length c1, .int .u32 a2] w fun e w' => e = .returned (.string r) ∧ Below w.heap.size w w' := by
 have HR0 := aM hr0
 have HC0 := aM hc0
 clear hr0 hc0
 have HR1 := aM hr1
 have HC1 := aM hc1
 clear hr1 hc1
 have HB := aM (Below.refl w.heap.size w)
 have H : (hurdleref09_text.l0 k l0 l1 a2 0) = some r := h
 clear h
 have H' := aM H
 clear H
 go_enter Try.func73, Try.ntmps73
 go_wp2
 go_loopg [7] k (fun kq v7 w' => ∃ (x7_1 : Int), v7 = .int .i64 x7_1 ∧ Aside0 (hurdleref09_text.l0 kq l0 l1 a2 x7_1 = some r) ∧ Aside0 (kq ≤ k) ∧ Aside0 (Below w.heap.size w w'))
 case atStart => exact ⟨(0), (by first | rfl | (simp; done) | (simp [*]; done)), H', ⟨Nat.le_refl _⟩, ⟨bl0⟩⟩
 case round =>
  clear H'
  try clear c1
  try clear p2
  obtain ⟨x7_1, rfl, HA, HK1, HB⟩ := hrel
  cases gk with
  | zero => exact absurd HA.out (by simp [hurdleref09_text.l0])
  | succ k1 =>
   have H := HA.out
   clear HA
   simp only [hurdleref09_text.l0] at H
   by_cases c4 : x7_1 < (l0.length : Int)
   rotate_left
   · rw [if_neg c4] at H
     have c4b0 : decide (x7_1 < (l0.length : Int)) = false := decide_eq_false c4
     clear c4
     replace H := Option.bind_eq_some_iff.mp H
     obtain ⟨t255, A80, H⟩ := H
     replace H : (some t255) = some r := H
     have A8 := aM A80
     clear A80
     obtain rfl := Option.some.inj H
     go_wp2_with (first | ((with_reducible refine gate_callee (f := 54) rfl ?_); refine goesL_ (some 26) rfl rfl Try.func54 kR rfl #[.int .u64 (IntKind.u64.wrap (a2))] rfl mpA ?_; (with_reducible refine (hurdleref01_Text.calls (IntKind.u64.wrap (a2)) t255 _ A8.out).mono ?_); rintro e w9 ⟨rfl, hb⟩; refine ⟨_, rfl, ?_⟩; have n0_ := aM (below_step bl0 hb); clear HB; have HB := n0_; clear n0_; (try clear hb); (try clear hb2); (try clear hk); (try clear hi)))
     go_ret
     exact ⟨erA, bl0⟩
   rw [if_pos c4] at H
   have c4b0 : decide (x7_1 < (l0.length : Int)) = true := decide_eq_true c4
   clear c4
   by_cases c5 : 0 ≤ x7_1
   rotate_left
   · rw [if_neg c5] at H
     exact absurd H (by simp)
   rw [if_pos c5] at H
   have c5b0 : decide (0 ≤ x7_1) = true := decide_eq_true c5
   clear c5
   by_cases c6 : x7_1 < (l1.length : Int)
   rotate_left
   · rw [if_neg c6] at H
     exact absurd H (by simp)
   rw [if_pos c6] at H
   have c6b0 : decide (x7_1 < (l1.length : Int)) = true := decide_eq_true c6
   clear c6
   by_cases c7 : (rd l1 x7_1) = a2
   rotate_left
   · rw [if_neg c7] at H
     have c7b0 : ((rd l1 x7_1) == a2) = false := beq_eq_false_iff_ne.mpr c7
     have c7b1 : ((rd l1 x7_1) != a2) = true := bne_iff_ne.mpr c7
     have H' := aM H
     clear H
     have p253 : 0 ≤ (x7_1 : Int) := of_decide_eq_true as_
     have q253 : x7_1 < (l1.length : Int) := of_decide_eq_true as_
     obtain ⟨ad253, e253, hx253_0⟩ := Kd.at_int HR1.out x7_1 p253 q253
     cases e253
     replace hx253_0 := (HB.out.cell (World.block_lt_of_cell? w _ hx253_0)).trans hx253_0
     replace p253 := eq_true p253
     replace q253 := eq_true q253
     go_wp2
     go_roundg k1
     case measure => have := HK1.out; omega
     case rel => exact ⟨(wrap64 (x7_1 + 1)), (by first | rfl | (simp; done) | (simp [*]; done)), H', ⟨by have := HK1.out; omega⟩, ⟨bl0⟩⟩
   rw [if_pos c7] at H
   have c7b0 : ((rd l1 x7_1) == a2) = true := beq_iff_eq.mpr c7
   have c7b1 : ((rd l1 x7_1) != a2) = false := bne_eq_false_iff_eq.mpr c7
   clear c7
   obtain rfl := Option.some.inj H
   have p253 : 0 ≤ (x7_1 : Int) := of_decide_eq_true as_
   have q253 : x7_1 < (l1.length : Int) := of_decide_eq_true as_
   obtain ⟨ad253, e253, hx253_0⟩ := Kd.at_int HR1.out x7_1 p253 q253
   cases e253
   replace hx253_0 := (HB.out.cell (World.block_lt_of_cell? w _ hx253_0)).trans hx253_0
   replace p253 := eq_true p253
   replace q253 := eq_true q253
   have p254 : 0 ≤ (x7_1 : Int) := of_decide_eq_true as_
   have q254 : x7_1 < (l0.length : Int) := of_decide_eq_true as_
   obtain ⟨ad254, e254, hx254_0⟩ := Kd.at_string HR0.out x7_1 p254 q254
   cases e254
   replace hx254_0 := (HB.out.cell (World.block_lt_of_cell? w _ hx254_0)).trans hx254_0
   replace p254 := eq_true p254
   replace q254 := eq_true q254
   go_wp2
   go_ret
   exact ⟨erA, bl0⟩
def hurdleref09_Machine.f (k : Nat) (a0 : Int) : Option (ByteArray) := (hurdleref09_Machines.f).bind fun bt256 => ((hurdleref09_text.f k bt256.1 bt256.2 a0).bind fun t262 => (some t262))
theorem hurdleref09_Machine.mono : ∀ a0 k, LeO (hurdleref09_Machine.f k a0) (hurdleref09_Machine.f (k + 1) a0) := by
 intro a0 k
 unfold hurdleref09_Machine.f
 repeat' first
  | (with_reducible exact hurdleref09_text.mono _ _ _ _)
  | (with_reducible exact LeO.refl _)
  | (with_reducible exact LeO.none _)
  | (with_reducible refine LeO.ite ?_ ?_)
  | (with_reducible refine LeO.bind ?_ (fun _ => ?_))
  | exact hurdleref09_text.mono _ _ _ _
  | exact LeO.none _
  | refine LeO.ite ?_ ?_
  | refine LeO.bind ?_ (fun _ => ?_)
set_option maxHeartbeats 8000000 in
set_option maxRecDepth 100000 in
theorem hurdleref09_Machine.calls (k : Nat) (a0 : Int) (r : ByteArray) (w : World) (h : hurdleref09_Machine.f k a0 = some r) :
 Calls Try.prog 56 #[.int .u32 a0] w fun e w' => e = .returned (.string r) ∧ Below w.heap.size w w' := by
 have HB := aM (Below.refl w.heap.size w)
 have H : ((hurdleref09_Machines.f).bind fun bt256 => ((hurdleref09_text.f k bt256.1 bt256.2 a0).bind fun t262 => (some t262))) = some r := h
 clear h
 replace H := Option.bind_eq_some_iff.mp H
 obtain ⟨⟨t256, t257⟩, A20, H⟩ := H
 replace H : ((hurdleref09_text.f k t256 t257 a0).bind fun t262 => (some t262)) = some r := H
 have A2 := aM A20
 clear A20
 replace H := Option.bind_eq_some_iff.mp H
 obtain ⟨t262, A30, H⟩ := H
 replace H : (some t262) = some r := H
 have A3 := aM A30
 clear A30
 obtain rfl := Option.some.inj H
 go_enter Try.func56, Try.ntmps56
 go_wp2_with (first | ((with_reducible refine gate_callee (f := 72) rfl ?_); refine goesL_ (some 6) rfl rfl Try.func72 kR rfl #[] rfl mpA ?_; (with_reducible refine (hurdleref09_Machines.calls  t256 t257 _ A2.out).mono ?_); rintro e w4 ⟨v258, v260, rfl, ho0, ho1, hb⟩; refine ⟨_, rfl, ?_⟩; have n0_ := aM (Kd.R_lower ho0 (below_size bl0)); have n1_ := aM (Kd.R_lower ho1 (below_size bl0)); have n2_ := aM (below_step bl0 hb); clear HB; have HO259 := n0_; have HO261 := n1_; have HB := n2_; clear n0_ n1_ n2_; (try clear hb); (try clear hb2); (try clear hk); (try clear hi); (try clear ho0); (try clear ho1); obtain ⟨Ao5, co5, eo5⟩ := Kd.R_slice HO259.out; subst eo5; obtain ⟨Ao6, co6, eo6⟩ := Kd.R_slice HO261.out; subst eo6) | ((with_reducible refine gate_callee (f := 73) rfl ?_); refine goesL_ (some 12) rfl rfl Try.func73 kR rfl #[.slice Ao5 t256.length co5, .slice Ao6 t257.length co6, .int .u32 a0] rfl mpA ?_; (with_reducible refine (hurdleref09_text.calls k _ _ t256 _ _ t257 a0 t262 _ ?side1 ?side2 ?side3 ?side4 A3.out).mono ?_); (case side1 => repeat (first | exact (Kd.R_reads' HO259.out).2.2 | (with_reducible refine Kd.C_alloc ?_ _) | (with_reducible refine Kd.C_drewN ?_ _) | (with_reducible refine Kd.C_drew ?_))); (case side2 => exact (Kd.R_reads' HO259.out).2.1); (case side3 => repeat (first | exact (Kd.R_reads' HO261.out).2.2 | (with_reducible refine Kd.C_alloc ?_ _) | (with_reducible refine Kd.C_drewN ?_ _) | (with_reducible refine Kd.C_drew ?_))); (case side4 => exact (Kd.R_reads' HO261.out).2.1); rintro e w7 ⟨rfl, hb⟩; refine ⟨_, rfl, ?_⟩; have n0_ := aM (Kd.R_below (rdS HO259.out) hb); have n1_ := aM (Kd.R_below (rdS HO261.out) hb); have n2_ := aM (below_step bl0 hb); clear HO259; clear HO261; clear HB; have HO259 := n0_; have HO261 := n1_; have HB := n2_; clear n0_ n1_ n2_; (try clear hb); (try clear hb2); (try clear hk); (try clear hi)))
 go_ret
 exact ⟨erA, bl0⟩
end Go.Proofs.Ytekpbgmmogpbdaa.P
namespace Go.Proofs.Ytekpbgmmogpbdaa.P
open Go.RowKit Go.Proofs.Ytekpbgmmogpbdaa.H Go.Proofs.YtekpbgmmogpbdaaW.PrintWords Go.Proofs.YtekpbgmmogpbdaaW.PrintLast Go.Proofs.YtekpbgmmogpbdaaW.PrintMore
attribute [local go_sem] max2_int min2_int max_two min_two max_three min_three max_four min_four
mutual
def hurdleref09_Calls.l0 : Nat → Int → List ByteArray → Int → List (List Int) → List Int → List ByteArray → List Int → Int → Option (List ByteArray × List Int)
 | 0, _, _, _, _, _, _, _, _ => none
 | k + 1, x0, x4, x5, x6, x8, x9, x10, x11 => if x11 < 4 then (hurdleref09_Calls.l1 k x0 x4 x5 x6 x8 x9 x10 x11 0) else (some (x9, x10))
def hurdleref09_Calls.l1 : Nat → Int → List ByteArray → Int → List (List Int) → List Int → List ByteArray → List Int → Int → Int → Option (List ByteArray × List Int)
 | 0, _, _, _, _, _, _, _, _, _ => none
 | k + 1, x0, x4, x5, x6, x8, x9, x10, x11, x12 => if x12 < 8 then (if 0 ≤ x11 then (if x11 < (x8.length : Int) then (if (rd x8 x11) = x0 then (if x11 < (x6.length : Int) then (if 0 ≤ x12 then (if x12 < ((rd_L8 x6 x11).length : Int) then (if (rd (rd_L8 x6 x11) x12) = x5 then (hurdleref09_Calls.l1 k x0 x4 x5 x6 x8 x9 x10 x11 (wrap64 (x12 + 1))) else (if x12 < (x4.length : Int) then (if x9.length < 8796093022208 then (if x10.length < 35184372088832 then (hurdleref09_Calls.l1 k x0 x4 x5 x6 x8 (x9 ++ [rdOf ByteArray.empty x4 x12]) (x10 ++ [rd (rd_L8 x6 x11) x12]) x11 (wrap64 (x12 + 1))) else (none)) else (none)) else (none))) else (none)) else (none)) else (none)) else (hurdleref09_Calls.l1 k x0 x4 x5 x6 x8 x9 x10 x11 (wrap64 (x12 + 1)))) else (none)) else (none)) else (hurdleref09_Calls.l0 k x0 x4 x5 x6 x8 x9 x10 (wrap64 (x11 + 1)))
end
def hurdleref09_Calls.f (k : Nat) (a0 : Int) : Option (List ByteArray × List Int) := (hurdleref09_Machines.f).bind fun bt281 => (hurdleref09_Calls.l0 k a0 (([(⟨#[114, 101, 97, 100]⟩ : ByteArray), (⟨#[119, 114, 105, 116, 101]⟩ : ByteArray), (⟨#[111, 112, 101, 110]⟩ : ByteArray), (⟨#[99, 108, 111, 115, 101]⟩ : ByteArray), (⟨#[101, 120, 105, 116]⟩ : ByteArray), (⟨#[102, 111, 114, 107]⟩ : ByteArray), (⟨#[107, 105, 108, 108]⟩ : ByteArray), (⟨#[109, 109, 97, 112]⟩ : ByteArray)] : List ByteArray)) 1000000 (([(([0, 1, 2, 3, 60, 57, 62, 9] : List Int)), (([3, 4, 5, 6, 1, 2, 37, 90] : List Int)), (([63, 64, 1000000, 57, 93, 1000000, 129, 222] : List Int)), (([3, 4, 5, 6, 1, 2, 37, 1000000] : List Int))] : List (List Int))) bt281.2 ([] : List ByteArray) ([] : List Int) 0)
theorem hurdleref09_Calls.mono_l : ∀ k, (∀ y0 y1 y2 y3 y4 y5 y6 y7, LeO (hurdleref09_Calls.l0 k y0 y1 y2 y3 y4 y5 y6 y7) (hurdleref09_Calls.l0 (k + 1) y0 y1 y2 y3 y4 y5 y6 y7)) ∧ (∀ y0 y1 y2 y3 y4 y5 y6 y7 y8, LeO (hurdleref09_Calls.l1 k y0 y1 y2 y3 y4 y5 y6 y7 y8) (hurdleref09_Calls.l1 (k + 1) y0 y1 y2 y3 y4 y5 y6 y7 y8))
 | 0 => ⟨fun _ _ _ _ _ _ _ _ r h => by simp [hurdleref09_Calls.l0] at h, fun _ _ _ _ _ _ _ _ _ r h => by simp [hurdleref09_Calls.l1] at h⟩
 | k + 1 => by
  obtain ⟨ih0, ih1⟩ := hurdleref09_Calls.mono_l k
  refine ⟨?_, ?_⟩
  · intro y0 y1 y2 y3 y4 y5 y6 y7
    unfold hurdleref09_Calls.l0
    repeat' first
    | (with_reducible exact ih0 _ _ _ _ _ _ _ _)
    | (with_reducible exact ih1 _ _ _ _ _ _ _ _ _)
    | (with_reducible exact LeO.refl _)
    | (with_reducible exact LeO.none _)
    | (with_reducible refine LeO.ite ?_ ?_)
    | (with_reducible refine LeO.bind ?_ (fun _ => ?_))
    | exact ih0 _ _ _ _ _ _ _ _
    | exact ih1 _ _ _ _ _ _ _ _ _
    | exact LeO.none _
    | refine LeO.ite ?_ ?_
    | refine LeO.bind ?_ (fun _ => ?_)
  · intro y0 y1 y2 y3 y4 y5 y6 y7 y8
    unfold hurdleref09_Calls.l1
    repeat' first
    | (with_reducible exact ih0 _ _ _ _ _ _ _ _)
    | (with_reducible exact ih1 _ _ _ _ _ _ _ _ _)
    | (with_reducible exact LeO.refl _)
    | (with_reducible exact LeO.none _)
    | (with_reducible refine LeO.ite ?_ ?_)
    | (with_reducible refine LeO.bind ?_ (fun _ => ?_))
    | exact ih0 _ _ _ _ _ _ _ _
    | exact ih1 _ _ _ _ _ _ _ _ _
    | exact LeO.none _
    | refine LeO.ite ?_ ?_
    | refine LeO.bind ?_ (fun _ => ?_)
theorem hurdleref09_Calls.mono : ∀ a0 k, LeO (hurdleref09_Calls.f k a0) (hurdleref09_Calls.f (k + 1) a0) := by
 intro a0 k
 obtain ⟨ih0, ih1⟩ := hurdleref09_Calls.mono_l k
 unfold hurdleref09_Calls.f
 repeat' first
  | (with_reducible exact ih0 _ _ _ _ _ _ _ _)
  | (with_reducible exact ih1 _ _ _ _ _ _ _ _ _)
  | (with_reducible exact LeO.refl _)
  | (with_reducible exact LeO.none _)
  | (with_reducible refine LeO.ite ?_ ?_)
  | (with_reducible refine LeO.bind ?_ (fun _ => ?_))
  | exact ih0 _ _ _ _ _ _ _ _
  | exact ih1 _ _ _ _ _ _ _ _ _
  | exact LeO.none _
  | refine LeO.ite ?_ ?_
  | refine LeO.bind ?_ (fun _ => ?_)
set_option maxHeartbeats 8000000 in
set_option maxRecDepth 100000 in
theorem hurdleref09_Calls.calls (k : Nat) (a0 : Int) (r1 : List ByteArray) (r2 : List Int) (w : World) (h : hurdleref09_Calls.f k a0 = some (r1, r2)) :
 Calls Try.prog 74 #[.int .u32 a0] w fun e w' => ∃ v0_ v1_ : Value, e = .returned (.tuple #[v0_, v1_]) ∧ Kd.R Kd.string 9 w' w.heap.size (fun _ => True) v0_ r1 ∧ Kd.R (Kd.int .u32) 23 w' w.heap.size (fun _ => True) v1_ r2 ∧ Below w.heap.size w w' := by
 have HB := aM (Below.refl w.heap.size w)
 have H : ((hurdleref09_Machines.f).bind fun bt281 => (hurdleref09_Calls.l0 k a0 (([(⟨#[114, 101, 97, 100]⟩ : ByteArray), (⟨#[119, 114, 105, 116, 101]⟩ : ByteArray), (⟨#[111, 112, 101, 110]⟩ : ByteArray), (⟨#[99, 108, 111, 115, 101]⟩ : ByteArray), (⟨#[101, 120, 105, 116]⟩ : ByteArray), (⟨#[102, 111, 114, 107]⟩ : ByteArray), (⟨#[107, 105, 108, 108]⟩ : ByteArray), (⟨#[109, 109, 97, 112]⟩ : ByteArray)] : List ByteArray)) 1000000 (([(([0, 1, 2, 3, 60, 57, 62, 9] : List Int)), (([3, 4, 5, 6, 1, 2, 37, 90] : List Int)), (([63, 64, 1000000, 57, 93, 1000000, 129, 222] : List Int)), (([3, 4, 5, 6, 1, 2, 37, 1000000] : List Int))] : List (List Int))) bt281.2 ([] : List ByteArray) ([] : List Int) 0)) = some (r1, r2) := h
 clear h
 obtain ⟨y263, hy263⟩ : ∃ y_ : List ByteArray, y_ = (([(⟨#[114, 101, 97, 100]⟩ : ByteArray), (⟨#[119, 114, 105, 116, 101]⟩ : ByteArray), (⟨#[111, 112, 101, 110]⟩ : ByteArray), (⟨#[99, 108, 111, 115, 101]⟩ : ByteArray), (⟨#[101, 120, 105, 116]⟩ : ByteArray), (⟨#[102, 111, 114, 107]⟩ : ByteArray), (⟨#[107, 105, 108, 108]⟩ : ByteArray), (⟨#[109, 109, 97, 112]⟩ : ByteArray)] : List ByteArray)) := ⟨_, rfl⟩
 replace H : ((hurdleref09_Machines.f).bind fun bt281 => (hurdleref09_Calls.l0 k a0 y263 1000000 (([(([0, 1, 2, 3, 60, 57, 62, 9] : List Int)), (([3, 4, 5, 6, 1, 2, 37, 90] : List Int)), (([63, 64, 1000000, 57, 93, 1000000, 129, 222] : List Int)), (([3, 4, 5, 6, 1, 2, 37, 1000000] : List Int))] : List (List Int))) bt281.2 ([] : List ByteArray) ([] : List Int) 0)) = some (r1, r2) := by first | (rw [hy263]; with_reducible exact H) | (have H2_ := (Option.bind_some _ _).symm.trans H; rw [hy263]; with_reducible exact H2_) | (have H2_ := (Option.bind_some _ _).symm.trans H; with_reducible exact H2_) | with_reducible exact H | (rw [hy263]; exact H) | exact H
 have Ny263 := aM hy263
 clear hy263
 obtain ⟨y266, hy266⟩ : ∃ y_ : List Int, y_ = (([0, 1, 2, 3, 60, 57, 62, 9] : List Int)) := ⟨_, rfl⟩
 replace H : ((hurdleref09_Machines.f).bind fun bt281 => (hurdleref09_Calls.l0 k a0 y263 1000000 (([y266, (([3, 4, 5, 6, 1, 2, 37, 90] : List Int)), (([63, 64, 1000000, 57, 93, 1000000, 129, 222] : List Int)), (([3, 4, 5, 6, 1, 2, 37, 1000000] : List Int))] : List (List Int))) bt281.2 ([] : List ByteArray) ([] : List Int) 0)) = some (r1, r2) := by first | (rw [hy266]; with_reducible exact H) | (have H2_ := (Option.bind_some _ _).symm.trans H; rw [hy266]; with_reducible exact H2_) | (have H2_ := (Option.bind_some _ _).symm.trans H; with_reducible exact H2_) | with_reducible exact H | (rw [hy266]; exact H) | exact H
 have Ny266 := aM hy266
 clear hy266
 obtain ⟨y269, hy269⟩ : ∃ y_ : List Int, y_ = (([3, 4, 5, 6, 1, 2, 37, 90] : List Int)) := ⟨_, rfl⟩
 replace H : ((hurdleref09_Machines.f).bind fun bt281 => (hurdleref09_Calls.l0 k a0 y263 1000000 (([y266, y269, (([63, 64, 1000000, 57, 93, 1000000, 129, 222] : List Int)), (([3, 4, 5, 6, 1, 2, 37, 1000000] : List Int))] : List (List Int))) bt281.2 ([] : List ByteArray) ([] : List Int) 0)) = some (r1, r2) := by first | (rw [hy269]; with_reducible exact H) | (have H2_ := (Option.bind_some _ _).symm.trans H; rw [hy269]; with_reducible exact H2_) | (have H2_ := (Option.bind_some _ _).symm.trans H; with_reducible exact H2_) | with_reducible exact H | (rw [hy269]; exact H) | exact H
 have Ny269 := aM hy269
 clear hy269
 obtain ⟨y272, hy272⟩ : ∃ y_ : List Int, y_ = (([63, 64, 1000000, 57, 93, 1000000, 129, 222] : List Int)) := ⟨_, rfl⟩
 replace H : ((hurdleref09_Machines.f).bind fun bt281 => (hurdleref09_Calls.l0 k a0 y263 1000000 (([y266, y269, y272, (([3, 4, 5, 6, 1, 2, 37, 1000000] : List Int))] : List (List Int))) bt281.2 ([] : List ByteArray) ([] : List Int) 0)) = some (r1, r2) := by first | (rw [hy272]; with_reducible exact H) | (have H2_ := (Option.bind_some _ _).symm.trans H; rw [hy272]; with_reducible exact H2_) | (have H2_ := (Option.bind_some _ _).symm.trans H; with_reducible exact H2_) | with_reducible exact H | (rw [hy272]; exact H) | exact H
 have Ny272 := aM hy272
 clear hy272
 obtain ⟨y275, hy275⟩ : ∃ y_ : List Int, y_ = (([3, 4, 5, 6, 1, 2, 37, 1000000] : List Int)) := ⟨_, rfl⟩
 replace H : ((hurdleref09_Machines.f).bind fun bt281 => (hurdleref09_Calls.l0 k a0 y263 1000000 (([y266, y269, y272, y275] : List (List Int))) bt281.2 ([] : List ByteArray) ([] : List Int) 0)) = some (r1, r2) := by first | (rw [hy275]; with_reducible exact H) | (have H2_ := (Option.bind_some _ _).symm.trans H; rw [hy275]; with_reducible exact H2_) | (have H2_ := (Option.bind_some _ _).symm.trans H; with_reducible exact H2_) | with_reducible exact H | (rw [hy275]; exact H) | exact H
 have Ny275 := aM hy275
 clear hy275
 obtain ⟨y278, hy278⟩ : ∃ y_ : List (List Int), y_ = (([y266, y269, y272, y275] : List (List Int))) := ⟨_, rfl⟩
 replace H : ((hurdleref09_Machines.f).bind fun bt281 => (hurdleref09_Calls.l0 k a0 y263 1000000 y278 bt281.2 ([] : List ByteArray) ([] : List Int) 0)) = some (r1, r2) := by first | (rw [hy278]; with_reducible exact H) | (have H2_ := (Option.bind_some _ _).symm.trans H; rw [hy278]; with_reducible exact H2_) | (have H2_ := (Option.bind_some _ _).symm.trans H; with_reducible exact H2_) | with_reducible exact H | (rw [hy278]; exact H) | exact H
 have Ny278 := aM hy278
 clear hy278
 replace H := Option.bind_eq_some_iff.mp H
 obtain ⟨⟨t281, t282⟩, A20, H⟩ := H
 replace H : (hurdleref09_Calls.l0 k a0 y263 1000000 y278 t282 ([] : List ByteArray) ([] : List Int) 0) = some (r1, r2) := H
 have A2 := aM A20
 clear A20
 have H' := aM H
 clear H
 go_enter Try.func74, Try.ntmps74
 go_wp2_with (first | ((with_reducible refine gate_dst (N := 13) rfl ?_); refine Kd.R_lit Kd.string _ 9 ?hg (N := 13) ?hd (xs := ([(⟨#[114, 101, 97, 100]⟩ : ByteArray), (⟨#[119, 114, 105, 116, 101]⟩ : ByteArray), (⟨#[111, 112, 101, 110]⟩ : ByteArray), (⟨#[99, 108, 111, 115, 101]⟩ : ByteArray), (⟨#[101, 120, 105, 116]⟩ : ByteArray), (⟨#[102, 111, 114, 107]⟩ : ByteArray), (⟨#[107, 105, 108, 108]⟩ : ByteArray), (⟨#[109, 109, 97, 112]⟩ : ByteArray)] : List ByteArray)) (inner := [.string (⟨#[114, 101, 97, 100]⟩ : ByteArray), .string (⟨#[119, 114, 105, 116, 101]⟩ : ByteArray), .string (⟨#[111, 112, 101, 110]⟩ : ByteArray), .string (⟨#[99, 108, 111, 115, 101]⟩ : ByteArray), .string (⟨#[101, 120, 105, 116]⟩ : ByteArray), .string (⟨#[102, 111, 114, 107]⟩ : ByteArray), .string (⟨#[107, 105, 108, 108]⟩ : ByteArray), .string (⟨#[109, 109, 97, 112]⟩ : ByteArray)]) (ok := fun _ => True) (okp := fun _ => True) ?hr ?hp (fun _ hk => hk) trivial (Below.refl _ _) (Nat.le_refl _) (by simp) ?_; (case hd => rfl); (case hg => rfl); (case hr => first | (go_simp; done) | (go_simp; rfl)); (case hp => exact (Reps.one (show Kd.M Kd.string _ _ _ (⟨#[114, 101, 97, 100]⟩ : ByteArray) [.string (⟨#[114, 101, 97, 100]⟩ : ByteArray)] from rfl) (Reps.one (show Kd.M Kd.string _ _ _ (⟨#[119, 114, 105, 116, 101]⟩ : ByteArray) [.string (⟨#[119, 114, 105, 116, 101]⟩ : ByteArray)] from rfl) (Reps.one (show Kd.M Kd.string _ _ _ (⟨#[111, 112, 101, 110]⟩ : ByteArray) [.string (⟨#[111, 112, 101, 110]⟩ : ByteArray)] from rfl) (Reps.one (show Kd.M Kd.string _ _ _ (⟨#[99, 108, 111, 115, 101]⟩ : ByteArray) [.string (⟨#[99, 108, 111, 115, 101]⟩ : ByteArray)] from rfl) (Reps.one (show Kd.M Kd.string _ _ _ (⟨#[101, 120, 105, 116]⟩ : ByteArray) [.string (⟨#[101, 120, 105, 116]⟩ : ByteArray)] from rfl) (Reps.one (show Kd.M Kd.string _ _ _ (⟨#[102, 111, 114, 107]⟩ : ByteArray) [.string (⟨#[102, 111, 114, 107]⟩ : ByteArray)] from rfl) (Reps.one (show Kd.M Kd.string _ _ _ (⟨#[107, 105, 108, 108]⟩ : ByteArray) [.string (⟨#[107, 105, 108, 108]⟩ : ByteArray)] from rfl) (Reps.one (show Kd.M Kd.string _ _ _ (⟨#[109, 109, 97, 112]⟩ : ByteArray) [.string (⟨#[109, 109, 97, 112]⟩ : ByteArray)] from rfl) (Reps.none _ _)))))))))); intro v264 w3 ho4 hb hg_ hnew_; clear hg_ hnew_; (first | rw [← Ny263.out] at ho4 | (simp only [Int.reduceToNat] at ho4; rw [← Ny263.out] at ho4)); have n0_ := aM (Kd.R_lower ho4 (below_size bl0)); have n1_ := aM (below_step bl0 hb); clear HB; have HO265 := n0_; have HB := n1_; clear n0_ n1_; clear hb ho4) | ((with_reducible refine gate_dst (N := 14) rfl ?_); refine Kd.R_lit (Kd.int .u32) _ 23 ?hg (N := 14) ?hd (xs := ([0, 1, 2, 3, 60, 57, 62, 9] : List Int)) (inner := [.int .u32 0, .int .u32 1, .int .u32 2, .int .u32 3, .int .u32 60, .int .u32 57, .int .u32 62, .int .u32 9]) (ok := fun _ => True) (okp := fun _ => True) ?hr ?hp (fun _ hk => hk) trivial (Below.refl _ _) (Nat.le_refl _) (by simp) ?_; (case hd => rfl); (case hg => rfl); (case hr => first | (go_simp; done) | (go_simp; rfl)); (case hp => exact (Reps.one (show Kd.M (Kd.int .u32) _ _ _ 0 [.int .u32 0] from rfl) (Reps.one (show Kd.M (Kd.int .u32) _ _ _ 1 [.int .u32 1] from rfl) (Reps.one (show Kd.M (Kd.int .u32) _ _ _ 2 [.int .u32 2] from rfl) (Reps.one (show Kd.M (Kd.int .u32) _ _ _ 3 [.int .u32 3] from rfl) (Reps.one (show Kd.M (Kd.int .u32) _ _ _ 60 [.int .u32 60] from rfl) (Reps.one (show Kd.M (Kd.int .u32) _ _ _ 57 [.int .u32 57] from rfl) (Reps.one (show Kd.M (Kd.int .u32) _ _ _ 62 [.int .u32 62] from rfl) (Reps.one (show Kd.M (Kd.int .u32) _ _ _ 9 [.int .u32 9] from rfl) (Reps.none _ _)))))))))); intro v267 w5 ho6 hb hg_ hnew_; clear hg_ hnew_; (first | rw [← Ny266.out] at ho6 | (simp only [Int.reduceToNat] at ho6; rw [← Ny266.out] at ho6)); have n0_ := aM (Kd.R_below (rdS HO265.out) hb); have n1_ := aM (Kd.R_lower ho6 (below_size bl0)); have n2_ := aM (below_step bl0 hb); clear HO265; clear HB; have HO265 := n0_; have HO268 := n1_; have HB := n2_; clear n0_ n1_ n2_; clear hb ho6) | ((with_reducible refine gate_dst (N := 15) rfl ?_); refine Kd.R_lit (Kd.int .u32) _ 23 ?hg (N := 15) ?hd (xs := ([3, 4, 5, 6, 1, 2, 37, 90] : List Int)) (inner := [.int .u32 3, .int .u32 4, .int .u32 5, .int .u32 6, .int .u32 1, .int .u32 2, .int .u32 37, .int .u32 90]) (ok := fun _ => True) (okp := fun _ => True) ?hr ?hp (fun _ hk => hk) trivial (Below.refl _ _) (Nat.le_refl _) (by simp) ?_; (case hd => rfl); (case hg => rfl); (case hr => first | (go_simp; done) | (go_simp; rfl)); (case hp => exact (Reps.one (show Kd.M (Kd.int .u32) _ _ _ 3 [.int .u32 3] from rfl) (Reps.one (show Kd.M (Kd.int .u32) _ _ _ 4 [.int .u32 4] from rfl) (Reps.one (show Kd.M (Kd.int .u32) _ _ _ 5 [.int .u32 5] from rfl) (Reps.one (show Kd.M (Kd.int .u32) _ _ _ 6 [.int .u32 6] from rfl) (Reps.one (show Kd.M (Kd.int .u32) _ _ _ 1 [.int .u32 1] from rfl) (Reps.one (show Kd.M (Kd.int .u32) _ _ _ 2 [.int .u32 2] from rfl) (Reps.one (show Kd.M (Kd.int .u32) _ _ _ 37 [.int .u32 37] from rfl) (Reps.one (show Kd.M (Kd.int .u32) _ _ _ 90 [.int .u32 90] from rfl) (Reps.none _ _)))))))))); intro v270 w7 ho8 hb hg_ hnew_; clear hg_ hnew_; (first | rw [← Ny269.out] at ho8 | (simp only [Int.reduceToNat] at ho8; rw [← Ny269.out] at ho8)); have n0_ := aM (Kd.R_below (rdS HO265.out) hb); have n1_ := aM (Kd.R_elder' (rdS HO268.out) (Kd.R_base ho8) hb); have n2_ := aM (Kd.R_lower (Kd.R_new' ho8 (Kd.R_lt (rdS HO268.out))) (below_size bl0)); have n3_ := aM (below_step bl0 hb); clear HO265; clear HO268; clear HB; have HO265 := n0_; have HO268 := n1_; have HO271 := n2_; have HB := n3_; clear n0_ n1_ n2_ n3_; clear hb ho8) | ((with_reducible refine gate_dst (N := 18) rfl ?_); refine Kd.R_lit (Kd.int .u32) _ 23 ?hg (N := 18) ?hd (xs := ([63, 64, 1000000, 57, 93, 1000000, 129, 222] : List Int)) (inner := [.int .u32 63, .int .u32 64, .int .u32 1000000, .int .u32 57, .int .u32 93, .int .u32 1000000, .int .u32 129, .int .u32 222]) (ok := fun _ => True) (okp := fun _ => True) ?hr ?hp (fun _ hk => hk) trivial (Below.refl _ _) (Nat.le_refl _) (by simp) ?_; (case hd => rfl); (case hg => rfl); (case hr => first | (go_simp; done) | (go_simp; rfl)); (case hp => exact (Reps.one (show Kd.M (Kd.int .u32) _ _ _ 63 [.int .u32 63] from rfl) (Reps.one (show Kd.M (Kd.int .u32) _ _ _ 64 [.int .u32 64] from rfl) (Reps.one (show Kd.M (Kd.int .u32) _ _ _ 1000000 [.int .u32 1000000] from rfl) (Reps.one (show Kd.M (Kd.int .u32) _ _ _ 57 [.int .u32 57] from rfl) (Reps.one (show Kd.M (Kd.int .u32) _ _ _ 93 [.int .u32 93] from rfl) (Reps.one (show Kd.M (Kd.int .u32) _ _ _ 1000000 [.int .u32 1000000] from rfl) (Reps.one (show Kd.M (Kd.int .u32) _ _ _ 129 [.int .u32 129] from rfl) (Reps.one (show Kd.M (Kd.int .u32) _ _ _ 222 [.int .u32 222] from rfl) (Reps.none _ _)))))))))); intro v273 w9 ho10 hb hg_ hnew_; clear hg_ hnew_; (first | rw [← Ny272.out] at ho10 | (simp only [Int.reduceToNat] at ho10; rw [← Ny272.out] at ho10)); have n0_ := aM (Kd.R_below (rdS HO265.out) hb); have n1_ := aM (Kd.R_elder' (rdS HO268.out) (Kd.R_base ho10) hb); have n2_ := aM (Kd.R_elder' (rdS HO271.out) (Kd.R_base ho10) hb); have n3_ := aM (Kd.R_lower (Kd.R_new' (Kd.R_new' ho10 (Kd.R_lt (rdS HO268.out))) (Kd.R_lt (rdS HO271.out))) (below_size bl0)); have n4_ := aM (below_step bl0 hb); clear HO265; clear HO268; clear HO271; clear HB; have HO265 := n0_; have HO268 := n1_; have HO271 := n2_; have HO274 := n3_; have HB := n4_; clear n0_ n1_ n2_ n3_ n4_; clear hb ho10) | ((with_reducible refine gate_dst (N := 20) rfl ?_); refine Kd.R_lit (Kd.int .u32) _ 23 ?hg (N := 20) ?hd (xs := ([3, 4, 5, 6, 1, 2, 37, 1000000] : List Int)) (inner := [.int .u32 3, .int .u32 4, .int .u32 5, .int .u32 6, .int .u32 1, .int .u32 2, .int .u32 37, .int .u32 1000000]) (ok := fun _ => True) (okp := fun _ => True) ?hr ?hp (fun _ hk => hk) trivial (Below.refl _ _) (Nat.le_refl _) (by simp) ?_; (case hd => rfl); (case hg => rfl); (case hr => first | (go_simp; done) | (go_simp; rfl)); (case hp => exact (Reps.one (show Kd.M (Kd.int .u32) _ _ _ 3 [.int .u32 3] from rfl) (Reps.one (show Kd.M (Kd.int .u32) _ _ _ 4 [.int .u32 4] from rfl) (Reps.one (show Kd.M (Kd.int .u32) _ _ _ 5 [.int .u32 5] from rfl) (Reps.one (show Kd.M (Kd.int .u32) _ _ _ 6 [.int .u32 6] from rfl) (Reps.one (show Kd.M (Kd.int .u32) _ _ _ 1 [.int .u32 1] from rfl) (Reps.one (show Kd.M (Kd.int .u32) _ _ _ 2 [.int .u32 2] from rfl) (Reps.one (show Kd.M (Kd.int .u32) _ _ _ 37 [.int .u32 37] from rfl) (Reps.one (show Kd.M (Kd.int .u32) _ _ _ 1000000 [.int .u32 1000000] from rfl) (Reps.none _ _)))))))))); intro v276 w11 ho12 hb hg_ hnew_; clear hg_ hnew_; (first | rw [← Ny275.out] at ho12 | (simp only [Int.reduceToNat] at ho12; rw [← Ny275.out] at ho12)); have n0_ := aM (Kd.R_below (rdS HO265.out) hb); have n1_ := aM (Kd.R_elder' (rdS HO268.out) (Kd.R_base ho12) hb); have n2_ := aM (Kd.R_elder' (rdS HO271.out) (Kd.R_base ho12) hb); have n3_ := aM (Kd.R_elder' (rdS HO274.out) (Kd.R_base ho12) hb); have n4_ := aM (Kd.R_lower (Kd.R_new' (Kd.R_new' (Kd.R_new' ho12 (Kd.R_lt (rdS HO268.out))) (Kd.R_lt (rdS HO271.out))) (Kd.R_lt (rdS HO274.out))) (below_size bl0)); have n5_ := aM (below_step bl0 hb); clear HO265; clear HO268; clear HO271; clear HO274; clear HB; have HO265 := n0_; have HO268 := n1_; have HO271 := n2_; have HO274 := n3_; have HO277 := n4_; have HB := n5_; clear n0_ n1_ n2_ n3_ n4_ n5_; clear hb ho12; obtain ⟨Ao13, co13, eo13⟩ := Kd.R_slice HO268.out; subst eo13; obtain ⟨Ao14, co14, eo14⟩ := Kd.R_slice HO271.out; subst eo14; obtain ⟨Ao15, co15, eo15⟩ := Kd.R_slice HO274.out; subst eo15; obtain ⟨Ao16, co16, eo16⟩ := Kd.R_slice HO277.out; subst eo16) | ((with_reducible refine gate_dst (N := 21) rfl ?_); refine Kd.N_lit (Kd.slice 23 (Kd.int .u32)) _ 93 ?hg (N' := 21) ?hd (xs := ([y266, y269, y272, y275] : List (List Int))) (inner := [.slice Ao13 y266.length co13, .slice Ao14 y269.length co14, .slice Ao15 y272.length co15, .slice Ao16 y275.length co16]) (ok := (fun k_ => some k_ ≠ (v264 : Value).ownBlock)) (okp := (fun k_ => some k_ ≠ (v264 : Value).ownBlock)) ?hr ?hp (fun _ hk => hk) ((show ∀ k_, w11.heap.size ≤ k_ → (fun k_ => some k_ ≠ (v264 : Value).ownBlock) k_ from fun k_ hk => Kd.fresh' (Kd.R_lt (rdS HO265.out)) k_ hk) _ (Nat.le_refl _)) (Below.refl _ _) (Nat.le_refl _) (by simp) ?_; (case hd => rfl); (case hg => rfl); (case hr => first | (go_simp; done) | (go_simp; rfl)); (case hp => exact (Reps.one (show Kd.FK (Kd.slice 23 (Kd.int .u32)) _ _ y266 [.slice Ao13 y266.length co13] from (Kd.FK_slice_mk (Kd.R_reads' (Kd.R_mono (ok' := (fun k_ => some k_ ≠ (v264 : Value).ownBlock)) (Kd.R_apart' (HO268.out) (Kd.R_typed HO265.out) (by decide)) (fun k_ hk => hk.2))).2.1 (Kd.R_F (Kd.R_mono (ok' := (fun k_ => some k_ ≠ (v264 : Value).ownBlock)) (Kd.R_apart' (HO268.out) (Kd.R_typed HO265.out) (by decide)) (fun k_ hk => hk.2))))) (Reps.one (show Kd.FK (Kd.slice 23 (Kd.int .u32)) _ _ y269 [.slice Ao14 y269.length co14] from (Kd.FK_slice_mk (Kd.R_reads' (Kd.R_mono (ok' := (fun k_ => some k_ ≠ (v264 : Value).ownBlock)) (Kd.R_apart' (HO271.out) (Kd.R_typed HO265.out) (by decide)) (fun k_ hk => hk.2))).2.1 (Kd.R_F (Kd.R_mono (ok' := (fun k_ => some k_ ≠ (v264 : Value).ownBlock)) (Kd.R_apart' (HO271.out) (Kd.R_typed HO265.out) (by decide)) (fun k_ hk => hk.2))))) (Reps.one (show Kd.FK (Kd.slice 23 (Kd.int .u32)) _ _ y272 [.slice Ao15 y272.length co15] from (Kd.FK_slice_mk (Kd.R_reads' (Kd.R_mono (ok' := (fun k_ => some k_ ≠ (v264 : Value).ownBlock)) (Kd.R_apart' (HO274.out) (Kd.R_typed HO265.out) (by decide)) (fun k_ hk => hk.2))).2.1 (Kd.R_F (Kd.R_mono (ok' := (fun k_ => some k_ ≠ (v264 : Value).ownBlock)) (Kd.R_apart' (HO274.out) (Kd.R_typed HO265.out) (by decide)) (fun k_ hk => hk.2))))) (Reps.one (show Kd.FK (Kd.slice 23 (Kd.int .u32)) _ _ y275 [.slice Ao16 y275.length co16] from (Kd.FK_slice_mk (Kd.R_reads' (Kd.R_mono (ok' := (fun k_ => some k_ ≠ (v264 : Value).ownBlock)) (Kd.R_apart' (HO277.out) (Kd.R_typed HO265.out) (by decide)) (fun k_ hk => hk.2))).2.1 (Kd.R_F (Kd.R_mono (ok' := (fun k_ => some k_ ≠ (v264 : Value).ownBlock)) (Kd.R_apart' (HO277.out) (Kd.R_typed HO265.out) (by decide)) (fun k_ hk => hk.2))))) (Reps.none _ _)))))); intro v279 w17 ho18 hb hg_ hnew_; clear hg_ hnew_; (first | rw [← Ny278.out] at ho18 | (simp only [Int.reduceToNat] at ho18; rw [← Ny278.out] at ho18)); have n0_ := aM (Kd.R_below (rdS HO265.out) hb); have n1_ := aM (Kd.N_lower ho18 (below_size bl0)); have n2_ := aM (below_step bl0 hb); clear HO265; clear HB; clear HO268; clear HO271; clear HO274; clear HO277; have HO265 := n0_; have HO280 := n1_; have HB := n2_; clear n0_ n1_ n2_; clear hb ho18) | ((with_reducible refine gate_callee (f := 72) rfl ?_); refine goesL_ (some 23) rfl rfl Try.func72 kR rfl #[] rfl mpA ?_; (with_reducible refine (hurdleref09_Machines.calls  t281 t282 _ A2.out).mono ?_); rintro e w19 ⟨v283, v285, rfl, ho0, ho1, hb⟩; refine ⟨_, rfl, ?_⟩; have n0_ := aM (Kd.R_elder' (rdS HO265.out) (Kd.R_base ho0) hb); have n1_ := aM (Kd.N_mono (Kd.N_told (Kd.N_told (Kd.N_old (by (with_reducible repeat (first | apply Kd.N_alloc | apply Kd.N_drewN | apply Kd.N_drew)); exact HO280.out) hb) (Kd.R_base ho0)) (Kd.R_base ho1)) (fun _ h_ => h_.1)); have n2_ := aM (Kd.R_lower (Kd.R_new' ho0 (Kd.R_lt (rdS HO265.out))) (below_size bl0)); have n3_ := aM (Kd.R_lower ho1 (below_size bl0)); have n4_ := aM (below_step bl0 hb); clear HO265; clear HO280; clear HB; have HO265 := n0_; have HO280 := n1_; have HO284 := n2_; have HO286 := n3_; have HB := n4_; clear n0_ n1_ n2_ n3_ n4_; (try clear hb); (try clear hb2); (try clear hk); (try clear hi); (try clear ho0); (try clear ho1)))
 go_loopg [9, 10, 11] k (fun kq v9 v10 v11 w' => ∃ (x9_1 : List ByteArray) (x10_1 : List Int) (x11_1 : Int), v11 = .int .i64 x11_1 ∧ Aside0 (hurdleref09_Calls.l0 kq a0 y263 1000000 y278 t282 x9_1 x10_1 x11_1 = some (r1, r2)) ∧ Aside0 (kq ≤ k) ∧ Aside0 (Kd.R Kd.string 9 w' w.heap.size (fun k_ => some k_ ≠ (v9 : Value).ownBlock) v264 y263) ∧ Aside0 (Kd.N (Kd.slice 23 (Kd.int .u32)) 93 w' w.heap.size (fun k_ => some k_ ≠ (v264 : Value).ownBlock ∧ some k_ ≠ (v285 : Value).ownBlock ∧ some k_ ≠ (v9 : Value).ownBlock ∧ some k_ ≠ (v10 : Value).ownBlock) v279 y278) ∧ Aside0 (Kd.R (Kd.int .u32) 23 w' w.heap.size (fun k_ => some k_ ≠ (v10 : Value).ownBlock) v285 t282) ∧ Aside0 (Kd.R Kd.string 9 w' w.heap.size (fun k_ => some k_ ≠ (v264 : Value).ownBlock) v9 x9_1) ∧ Aside0 (Kd.R (Kd.int .u32) 23 w' w.heap.size (fun k_ => some k_ ≠ (v285 : Value).ownBlock) v10 x10_1) ∧ Aside0 (Below w.heap.size w w'))
 case atStart => exact ⟨(([] : List ByteArray)), (([] : List Int)), (0), (by first | rfl | (simp; done) | (simp [*]; done)), H', ⟨Nat.le_refl _⟩, ⟨by refine rdS ?_; exact Kd.R_mono HO265.out (fun _ hk => (by simp [Value.ownBlock]))⟩, ⟨by (with_reducible repeat (first | apply Kd.N_alloc | apply Kd.N_drewN | apply Kd.N_drew)); exact Kd.N_mono HO280.out (fun _ hk => ⟨hk.1.1, ⟨hk.2, ⟨(by simp [Value.ownBlock]), (by simp [Value.ownBlock])⟩⟩⟩)⟩, ⟨by refine rdS ?_; exact Kd.R_mono HO286.out (fun _ hk => (by simp [Value.ownBlock]))⟩, ⟨by first | exact Kd.R_nil _ _ _ _ _ | exact Kd.N_nil _ _ _ _ _ | exact Kd.V_nil _ _ _ _ _ | exact Kd.Q_nil _ _ _ _ _ | exact Kd.S_nil _ _ _ _ _⟩, ⟨by first | exact Kd.R_nil _ _ _ _ _ | exact Kd.N_nil _ _ _ _ _ | exact Kd.V_nil _ _ _ _ _ | exact Kd.Q_nil _ _ _ _ _ | exact Kd.S_nil _ _ _ _ _⟩, ⟨bl0⟩⟩
 case round =>
  clear H'
  try clear p2
  try clear c7
  obtain ⟨x9_1, x10_1, x11_1, rfl, HA, HK1, HO_4, HO_6, HO_8, HO_9, HO_10, HB⟩ := hrel
  cases gk with
  | zero => exact absurd HA.out (by simp [hurdleref09_Calls.l0])
  | succ k1 =>
   have H := HA.out
   clear HA
   simp only [hurdleref09_Calls.l0] at H
   by_cases c20 : x11_1 < 4
   rotate_left
   · rw [if_neg c20] at H
     have c20b0 : decide (x11_1 < 4) = false := decide_eq_false c20
     clear c20
     simp only [Option.some.injEq, Prod.mk.injEq] at H
     obtain ⟨rfl, rfl⟩ := H
     go_wp2
     go_ret2
     exact ⟨_, _, erA, by refine rdS ?_; exact Kd.R_mono HO_9.out (fun _ hk => trivial), by refine rdS ?_; exact Kd.R_mono HO_10.out (fun _ hk => trivial), bl0⟩
   rw [if_pos c20] at H
   have c20b0 : decide (x11_1 < 4) = true := decide_eq_true c20
   clear c20
   have H' := aM H
   clear H
   go_wp2
   go_loopg [9, 10, 12] k1 (fun kq v9 v10 v12 w' => ∃ (x9_2 : List ByteArray) (x10_2 : List Int) (x12_2 : Int), v12 = .int .i64 x12_2 ∧ Aside0 (hurdleref09_Calls.l1 kq a0 y263 1000000 y278 t282 x9_2 x10_2 x11_1 x12_2 = some (r1, r2)) ∧ Aside0 (kq ≤ k1) ∧ Aside0 (Kd.R Kd.string 9 w' w.heap.size (fun k_ => some k_ ≠ (v9 : Value).ownBlock) v264 y263) ∧ Aside0 (Kd.N (Kd.slice 23 (Kd.int .u32)) 93 w' w.heap.size (fun k_ => some k_ ≠ (v264 : Value).ownBlock ∧ some k_ ≠ (v285 : Value).ownBlock ∧ some k_ ≠ (v9 : Value).ownBlock ∧ some k_ ≠ (v10 : Value).ownBlock) v279 y278) ∧ Aside0 (Kd.R (Kd.int .u32) 23 w' w.heap.size (fun k_ => some k_ ≠ (v10 : Value).ownBlock) v285 t282) ∧ Aside0 (Kd.R Kd.string 9 w' w.heap.size (fun k_ => some k_ ≠ (v264 : Value).ownBlock) v9 x9_2) ∧ Aside0 (Kd.R (Kd.int .u32) 23 w' w.heap.size (fun k_ => some k_ ≠ (v285 : Value).ownBlock) v10 x10_2) ∧ Aside0 (Below w.heap.size w w'))
   case atStart => exact ⟨(x9_1), (x10_1), (0), (by first | rfl | (simp; done) | (simp [*]; done)), H', ⟨Nat.le_refl _⟩, ⟨by refine rdS ?_; exact HO_4.out⟩, ⟨by (with_reducible repeat (first | apply Kd.N_alloc | apply Kd.N_drewN | apply Kd.N_drew)); exact HO_6.out⟩, ⟨by refine rdS ?_; exact HO_8.out⟩, ⟨by refine rdS ?_; exact HO_9.out⟩, ⟨by refine rdS ?_; exact HO_10.out⟩, ⟨bl0⟩⟩
   case round =>
    clear H'
    try clear c2
    try clear p2
    try clear c7
    try clear c20
    try clear c20b0
    try clear p2
    obtain ⟨x9_2, x10_2, x12_2, rfl, HA, HK2, HO_4, HO_6, HO_8, HO_9, HO_10, HB⟩ := hrel
    cases gk with
    | zero => exact absurd HA.out (by simp [hurdleref09_Calls.l1])
    | succ k2 =>
     have H := HA.out
     clear HA
     simp only [hurdleref09_Calls.l1] at H
     by_cases c21 : x12_2 < 8
     rotate_left
     · rw [if_neg c21] at H
       have c21b0 : decide (x12_2 < 8) = false := decide_eq_false c21
       clear c21
       have H' := aM H
       clear H
       go_wp2
       go_roundg k2
       case measure => have := HK1.out; have := HK2.out; omega
       case rel => exact ⟨(x9_2), (x10_2), (wrap64 (x11_1 + 1)), (by first | rfl | (simp; done) | (simp [*]; done)), H', ⟨by have := HK1.out; have := HK2.out; omega⟩, ⟨by refine rdS ?_; exact HO_4.out⟩, ⟨by (with_reducible repeat (first | apply Kd.N_alloc | apply Kd.N_drewN | apply Kd.N_drew)); exact HO_6.out⟩, ⟨by refine rdS ?_; exact HO_8.out⟩, ⟨by refine rdS ?_; exact HO_9.out⟩, ⟨by refine rdS ?_; exact HO_10.out⟩, ⟨bl0⟩⟩
     rw [if_pos c21] at H
     have c21b0 : decide (x12_2 < 8) = true := decide_eq_true c21
     clear c21
     by_cases c22 : 0 ≤ x11_1
     rotate_left
     · rw [if_neg c22] at H
       exact absurd H (by simp)
     rw [if_pos c22] at H
     have c22b0 : decide (0 ≤ x11_1) = true := decide_eq_true c22
     clear c22
     by_cases c23 : x11_1 < (t282.length : Int)
     rotate_left
     · rw [if_neg c23] at H
       exact absurd H (by simp)
     rw [if_pos c23] at H
     have c23b0 : decide (x11_1 < (t282.length : Int)) = true := decide_eq_true c23
     clear c23
     by_cases c24 : (rd t282 x11_1) = a0
     rotate_left
     · rw [if_neg c24] at H
       have c24b0 : ((rd t282 x11_1) == a0) = false := beq_eq_false_iff_ne.mpr c24
       have c24b1 : ((rd t282 x11_1) != a0) = true := bne_iff_ne.mpr c24
       have H' := aM H
       clear H
       obtain ⟨Ao39, co39, eo39⟩ := Kd.R_slice HO_8.out
       subst eo39
       have p287 : 0 ≤ (x11_1 : Int) := of_decide_eq_true as_
       have q287 : x11_1 < (t282.length : Int) := of_decide_eq_true as_
       obtain ⟨ad287, e287, hx287_0⟩ := Kd.at_int (Kd.R_reads' HO_8.out).2.2 x11_1 p287 q287
       cases e287
       replace p287 := eq_true p287
       replace q287 := eq_true q287
       go_wp2
       go_roundg k2
       case measure => have := HK1.out; have := HK2.out; omega
       case rel => exact ⟨(x9_2), (x10_2), (wrap64 (x12_2 + 1)), (by first | rfl | (simp; done) | (simp [*]; done)), H', ⟨by have := HK1.out; have := HK2.out; omega⟩, ⟨by refine rdS ?_; exact HO_4.out⟩, ⟨by (with_reducible repeat (first | apply Kd.N_alloc | apply Kd.N_drewN | apply Kd.N_drew)); exact HO_6.out⟩, ⟨by refine rdS ?_; exact HO_8.out⟩, ⟨by refine rdS ?_; exact HO_9.out⟩, ⟨by refine rdS ?_; exact HO_10.out⟩, ⟨bl0⟩⟩
     rw [if_pos c24] at H
     have c24b0 : ((rd t282 x11_1) == a0) = true := beq_iff_eq.mpr c24
     have c24b1 : ((rd t282 x11_1) != a0) = false := bne_eq_false_iff_eq.mpr c24
     clear c24
     by_cases c25 : x11_1 < (y278.length : Int)
     rotate_left
     · rw [if_neg c25] at H
       exact absurd H (by simp)
     rw [if_pos c25] at H
     have c25b0 : decide (x11_1 < (y278.length : Int)) = true := decide_eq_true c25
     clear c25
     by_cases c26 : 0 ≤ x12_2
     rotate_left
     · rw [if_neg c26] at H
       exact absurd H (by simp)
     rw [if_pos c26] at H
     have c26b0 : decide (0 ≤ x12_2) = true := decide_eq_true c26
     clear c26
     by_cases c27 : x12_2 < ((rd_L8 y278 x11_1).length : Int)
     rotate_left
     · rw [if_neg c27] at H
       exact absurd H (by simp)
     rw [if_pos c27] at H
     have c27b0 : decide (x12_2 < ((rd_L8 y278 x11_1).length : Int)) = true := decide_eq_true c27
     clear c27
     by_cases c28 : (rd (rd_L8 y278 x11_1) x12_2) = 1000000
     · rw [if_pos c28] at H
       have c28b0 : ((rd (rd_L8 y278 x11_1) x12_2) == 1000000) = true := beq_iff_eq.mpr c28
       have c28b1 : ((rd (rd_L8 y278 x11_1) x12_2) != 1000000) = false := bne_eq_false_iff_eq.mpr c28
       clear c28
       have H' := aM H
       clear H
       obtain ⟨Ao29, co29, eo29⟩ := Kd.R_slice HO_8.out
       subst eo29
       have p287 : 0 ≤ (x11_1 : Int) := of_decide_eq_true as_
       have q287 : x11_1 < (t282.length : Int) := of_decide_eq_true as_
       obtain ⟨ad287, e287, hx287_0⟩ := Kd.at_int (Kd.R_reads' HO_8.out).2.2 x11_1 p287 q287
       cases e287
       replace p287 := eq_true p287
       replace q287 := eq_true q287
       obtain ⟨Ao30, co30, eo30⟩ := Kd.N_slice HO_6.out
       subst eo30
       have p288 : 0 ≤ (x11_1 : Int) := of_decide_eq_true as_
       have q288 : x11_1 < (y278.length : Int) := of_decide_eq_true as_
       obtain ⟨ad288, A288_0, c288_0, e288, hx288_0, hl288_0, hi288_0⟩ := at_L8 (Kd.N_reads' HO_6.out).2.2 x11_1 p288 q288
       cases e288
       obtain ⟨ce288, hce288, hMe288, hcc288⟩ := Kd.N_get HO_6.out [] x11_1 p288 (by first | exact q288 | exact of_decide_eq_true as_ | (have e_ := (Kd.N_reads' HO_6.out).1; omega))
       obtain ⟨ua288_0, uc288_0, rfl, ul288_0, ge288_0⟩ := Kd.FK_slice_open hMe288
       have hv288_0 := hcc288 0 _ rfl
       rw [Nat.add_zero, show ((Kd.slice 23 (Kd.int .u32))).sz = 1 from rfl, Nat.mul_one] at hv288_0
       replace hv288_0 := Option.some.inj (hv288_0.symm.trans hx288_0)
       injection hv288_0 with hva_ hvn_ hvc_
       rw [hva_] at ge288_0
       rw [hvc_] at ul288_0
       have HL288_0 := aM (show Kd.V (Kd.int .u32) 23 _ w.heap.size _ _ (rd_L8 y278 x11_1) from Kd.V_mk ul288_0 ge288_0)
       clear hva_ hvn_ hvc_ ge288_0 ul288_0
       clear hcc288 hce288
       have HR288_0 := aM hi288_0
       have HC288_0 := aM hl288_0
       clear hi288_0 hl288_0
       replace p288 := eq_true p288
       replace q288 := eq_true q288
       have p289 : 0 ≤ (x12_2 : Int) := of_decide_eq_true as_
       have q289 : x12_2 < ((rd_L8 y278 x11_1).length : Int) := of_decide_eq_true as_
       obtain ⟨ad289, e289, hx289_0⟩ := Kd.at_int (by repeat (first | (with_reducible exact HR288_0.out) | (with_reducible refine Kd.C_alloc ?_ _) | (with_reducible refine Kd.C_drewN ?_ _) | (with_reducible refine Kd.C_drew ?_) | exact HR288_0.out)) x12_2 p289 q289
       cases e289
       replace p289 := eq_true p289
       replace q289 := eq_true q289
       go_wp2
       go_roundg k2
       case measure => have := HK1.out; have := HK2.out; omega
       case rel => exact ⟨(x9_2), (x10_2), (wrap64 (x12_2 + 1)), (by first | rfl | (simp; done) | (simp [*]; done)), H', ⟨by have := HK1.out; have := HK2.out; omega⟩, ⟨by refine rdS ?_; exact HO_4.out⟩, ⟨by (with_reducible repeat (first | apply Kd.N_alloc | apply Kd.N_drewN | apply Kd.N_drew)); exact HO_6.out⟩, ⟨by refine rdS ?_; exact HO_8.out⟩, ⟨by refine rdS ?_; exact HO_9.out⟩, ⟨by refine rdS ?_; exact HO_10.out⟩, ⟨bl0⟩⟩
     rw [if_neg c28] at H
     have c28b0 : ((rd (rd_L8 y278 x11_1) x12_2) == 1000000) = false := beq_eq_false_iff_ne.mpr c28
     have c28b1 : ((rd (rd_L8 y278 x11_1) x12_2) != 1000000) = true := bne_iff_ne.mpr c28
     by_cases c31 : x12_2 < (y263.length : Int)
     rotate_left
     · rw [if_neg c31] at H
       exact absurd H (by simp)
     rw [if_pos c31] at H
     have c31b0 : decide (x12_2 < (y263.length : Int)) = true := decide_eq_true c31
     clear c31
     by_cases c32 : x9_2.length < 8796093022208
     rotate_left
     · rw [if_neg c32] at H
       exact absurd H (by simp)
     rw [if_pos c32] at H
     have LMc32 := aM c32
     clear c32
     obtain ⟨y291, hy291⟩ : ∃ y_ : List ByteArray, y_ = (x9_2 ++ [rdOf ByteArray.empty y263 x12_2]) := ⟨_, rfl⟩
     replace H : (if x10_2.length < 35184372088832 then (hurdleref09_Calls.l1 k2 a0 y263 1000000 y278 t282 y291 (x10_2 ++ [rd (rd_L8 y278 x11_1) x12_2]) x11_1 (wrap64 (x12_2 + 1))) else (none)) = some (r1, r2) := by first | (rw [hy291]; with_reducible exact H) | (have H2_ := (Option.bind_some _ _).symm.trans H; rw [hy291]; with_reducible exact H2_) | (have H2_ := (Option.bind_some _ _).symm.trans H; with_reducible exact H2_) | with_reducible exact H | (rw [hy291]; exact H) | exact H
     have Ny291 := aM hy291
     clear hy291
     by_cases c33 : x10_2.length < 35184372088832
     rotate_left
     · rw [if_neg c33] at H
       exact absurd H (by simp)
     rw [if_pos c33] at H
     have LMc33 := aM c33
     clear c33
     obtain ⟨y296, hy296⟩ : ∃ y_ : List Int, y_ = (x10_2 ++ [rd (rd_L8 y278 x11_1) x12_2]) := ⟨_, rfl⟩
     replace H : (hurdleref09_Calls.l1 k2 a0 y263 1000000 y278 t282 y291 y296 x11_1 (wrap64 (x12_2 + 1))) = some (r1, r2) := by first | (rw [hy296]; with_reducible exact H) | (have H2_ := (Option.bind_some _ _).symm.trans H; rw [hy296]; with_reducible exact H2_) | (have H2_ := (Option.bind_some _ _).symm.trans H; with_reducible exact H2_) | with_reducible exact H | (rw [hy296]; exact H) | exact H
     have Ny296 := aM hy296
     clear hy296
     have H' := aM H
     clear H
     obtain ⟨Ao34, co34, eo34⟩ := Kd.R_slice HO_8.out
     subst eo34
     have p287 : 0 ≤ (x11_1 : Int) := of_decide_eq_true as_
     have q287 : x11_1 < (t282.length : Int) := of_decide_eq_true as_
     obtain ⟨ad287, e287, hx287_0⟩ := Kd.at_int (Kd.R_reads' HO_8.out).2.2 x11_1 p287 q287
     cases e287
     replace p287 := eq_true p287
     replace q287 := eq_true q287
     obtain ⟨Ao35, co35, eo35⟩ := Kd.N_slice HO_6.out
     subst eo35
     have p288 : 0 ≤ (x11_1 : Int) := of_decide_eq_true as_
     have q288 : x11_1 < (y278.length : Int) := of_decide_eq_true as_
     obtain ⟨ad288, A288_0, c288_0, e288, hx288_0, hl288_0, hi288_0⟩ := at_L8 (Kd.N_reads' HO_6.out).2.2 x11_1 p288 q288
     cases e288
     obtain ⟨ce288, hce288, hMe288, hcc288⟩ := Kd.N_get HO_6.out [] x11_1 p288 (by first | exact q288 | exact of_decide_eq_true as_ | (have e_ := (Kd.N_reads' HO_6.out).1; omega))
     obtain ⟨ua288_0, uc288_0, rfl, ul288_0, ge288_0⟩ := Kd.FK_slice_open hMe288
     have hv288_0 := hcc288 0 _ rfl
     rw [Nat.add_zero, show ((Kd.slice 23 (Kd.int .u32))).sz = 1 from rfl, Nat.mul_one] at hv288_0
     replace hv288_0 := Option.some.inj (hv288_0.symm.trans hx288_0)
     injection hv288_0 with hva_ hvn_ hvc_
     rw [hva_] at ge288_0
     rw [hvc_] at ul288_0
     have HL288_0 := aM (show Kd.V (Kd.int .u32) 23 _ w.heap.size _ _ (rd_L8 y278 x11_1) from Kd.V_mk ul288_0 ge288_0)
     clear hva_ hvn_ hvc_ ge288_0 ul288_0
     clear hcc288 hce288
     have HR288_0 := aM hi288_0
     have HC288_0 := aM hl288_0
     clear hi288_0 hl288_0
     replace p288 := eq_true p288
     replace q288 := eq_true q288
     have p289 : 0 ≤ (x12_2 : Int) := of_decide_eq_true as_
     have q289 : x12_2 < ((rd_L8 y278 x11_1).length : Int) := of_decide_eq_true as_
     obtain ⟨ad289, e289, hx289_0⟩ := Kd.at_int (by repeat (first | (with_reducible exact HR288_0.out) | (with_reducible refine Kd.C_alloc ?_ _) | (with_reducible refine Kd.C_drewN ?_ _) | (with_reducible refine Kd.C_drew ?_) | exact HR288_0.out)) x12_2 p289 q289
     cases e289
     replace p289 := eq_true p289
     replace q289 := eq_true q289
     obtain ⟨Ao36, co36, eo36⟩ := Kd.R_slice HO_4.out
     subst eo36
     have p290 : 0 ≤ (x12_2 : Int) := of_decide_eq_true as_
     have q290 : x12_2 < (y263.length : Int) := of_decide_eq_true as_
     obtain ⟨ad290, e290, hx290_0⟩ := Kd.at_string (Kd.R_reads' HO_4.out).2.2 x12_2 p290 q290
     cases e290
     replace p290 := eq_true p290
     replace q290 := eq_true q290
     go_wp2_with (first | ((with_reducible refine gate_builtin (b := .append) (xs := #[.tmp 51, .tmp 56]) rfl ?_); at_builtin; refine Kd.R_append Kd.string (w0 := w) w.heap.size rfl (.tmp 51) (.tmp 56) 70 9 (.string ⟨#[]⟩) 16 rfl Try.underlying70 info9 rfl (by decide) (by omega) u9 x9_2 (rdOf ByteArray.empty y263 x12_2) [.string (rdOf ByteArray.empty y263 x12_2)] (fun k_ => some k_ ≠ (.slice (some ad290) y263.length co36 : Value).ownBlock) (fun _ => False) rfl rfl ?aP (fun _ hk => hk.elim) ?aF ?aO ?aB ?aS ?aL ?_; (case aP => exact rfl); (case aB => exact bl0); (case aF => exact (fun k_ hk => Kd.fresh' (Kd.R_lt (rdS HO_4.out)) k_ hk)); (case aO => exact (rdS HO_9.out)); (case aS => exact (below_size bl0)); (case aL => have := LMc32.out; omega); intro v292 w37 ho hb hg hat; rw [← Ny291.out] at ho; have n0_ := aM (Kd.R_after (ok := (fun _ => True)) (by refine rdS ?_; exact Kd.R_mono HO_4.out (fun _ hk => ⟨trivial, hk⟩)) hg hat); have n1_ := aM (Kd.N_afterv (ok := (fun k_ => some k_ ≠ (.slice (some ad290) y263.length co36 : Value).ownBlock ∧ some k_ ≠ (.slice (some ad287) t282.length co34 : Value).ownBlock ∧ some k_ ≠ (u10 : Value).ownBlock)) (by (with_reducible repeat (first | apply Kd.N_alloc | apply Kd.N_drewN | apply Kd.N_drew)); exact Kd.N_mono HO_6.out (fun _ hk => ⟨⟨hk.1, ⟨hk.2.1, hk.2.2.2⟩⟩, hk.2.2.1⟩)) hg hat); have n2_ := aM (Kd.R_over' (rdS HO_8.out) (Kd.R_typed (rdS HO_9.out)) (by decide) hg); have n3_ := aM (Kd.R_over' (rdS HO_10.out) (Kd.R_typed (rdS HO_9.out)) (by decide) hg); have n4_ := aM (Kd.V_afterv (ok := (fun k_ => some k_ ≠ (.slice (some ad290) y263.length co36 : Value).ownBlock ∧ some k_ ≠ (.slice (some ad288) y278.length co35 : Value).ownBlock ∧ some k_ ≠ (.slice (some ad287) t282.length co34 : Value).ownBlock ∧ some k_ ≠ (u10 : Value).ownBlock)) (by (with_reducible repeat (first | apply Kd.V_alloc | apply Kd.V_drewN | apply Kd.V_drew)); exact Kd.V_mono HL288_0.out (fun _ hk => ⟨⟨hk.1.1, ⟨hk.2, ⟨hk.1.2.1, hk.1.2.2.2⟩⟩⟩, hk.1.2.2.1⟩)) hg hat); have n5_ := aM (hb); have n6_ := aM (ho); clear HO_4; clear HO_6; clear HO_8; clear HO_10; clear HL288_0; clear HB; clear HO_9; have HO_4 := n0_; have HO_6 := n1_; have HO_8 := n2_; have HO_10 := n3_; have HL288_0 := n4_; have HB := n5_; have HO293 := n6_; clear n0_ n1_ n2_ n3_ n4_ n5_ n6_; clear ho hb hg hat; have p294 : 0 ≤ (x11_1 : Int) := of_decide_eq_true as_; have q294 : x11_1 < (y278.length : Int) := of_decide_eq_true as_; obtain ⟨ad294, A294_0, c294_0, e294, hx294_0, hl294_0, hi294_0⟩ := at_L8 (Kd.N_reads' HO_6.out).2.2 x11_1 p294 q294; obtain rfl : ad288 = ad294 := (by injection e294); obtain ⟨ce294, hce294, hMe294, hcc294⟩ := Kd.N_get HO_6.out [] x11_1 p294 (by first | exact q294 | exact of_decide_eq_true as_ | (have e_ := (Kd.N_reads' HO_6.out).1; omega)); obtain ⟨ua294_0, uc294_0, rfl, ul294_0, ge294_0⟩ := Kd.FK_slice_open hMe294; have hv294_0 := hcc294 0 _ rfl; rw [Nat.add_zero, show ((Kd.slice 23 (Kd.int .u32))).sz = 1 from rfl, Nat.mul_one] at hv294_0; replace hv294_0 := Option.some.inj (hv294_0.symm.trans hx294_0); injection hv294_0 with hva_ hvn_ hvc_; rw [hva_] at ge294_0; rw [hvc_] at ul294_0; have HL294_0 := aM (show Kd.V (Kd.int .u32) 23 _ w.heap.size _ _ (rd_L8 y278 x11_1) from Kd.V_mk ul294_0 ge294_0); clear hva_ hvn_ hvc_ ge294_0 ul294_0; clear hcc294 hce294; have HR294_0 := aM hi294_0; have HC294_0 := aM hl294_0; clear hi294_0 hl294_0; replace p294 := eq_true p294; replace q294 := eq_true q294; have p295 : 0 ≤ (x12_2 : Int) := of_decide_eq_true as_; have q295 : x12_2 < ((rd_L8 y278 x11_1).length : Int) := of_decide_eq_true as_; obtain ⟨ad295, e295, hx295_0⟩ := Kd.at_int (by repeat (first | (with_reducible exact HR294_0.out) | (with_reducible refine Kd.C_alloc ?_ _) | (with_reducible refine Kd.C_drewN ?_ _) | (with_reducible refine Kd.C_drew ?_) | exact HR294_0.out)) x12_2 p295 q295; cases e295; replace p295 := eq_true p295; replace q295 := eq_true q295) | ((with_reducible refine gate_builtin (b := .append) (xs := #[.tmp 58, .tmp 66]) rfl ?_); at_builtin; refine Kd.R_append (Kd.int .u32) (w0 := w) w.heap.size rfl (.tmp 58) (.tmp 66) 93 23 (.int .u32 0) 4 rfl Try.underlying93 info23 rfl (by decide) (by omega) u10 x10_2 (rd (rd_L8 y278 x11_1) x12_2) [.int .u32 (rd (rd_L8 y278 x11_1) x12_2)] (fun k_ => some k_ ≠ (.slice (some ad287) t282.length co34 : Value).ownBlock) (fun _ => False) rfl rfl ?aP (fun _ hk => hk.elim) ?aF ?aO ?aB ?aS ?aL ?_; (case aP => exact rfl); (case aB => exact bl0); (case aF => exact (fun k_ hk => Kd.fresh' (Kd.R_lt (rdS HO_8.out)) k_ hk)); (case aO => exact (rdS HO_10.out)); (case aS => exact (below_size bl0)); (case aL => have := LMc33.out; omega); intro v297 w38 ho hb hg hat; rw [← Ny296.out] at ho; have n0_ := aM (Kd.R_over' (rdS HO_4.out) (Kd.R_typed (rdS HO_10.out)) (by decide) hg); have n1_ := aM (Kd.N_afterv (ok := (fun k_ => some k_ ≠ (.slice (some ad290) y263.length co36 : Value).ownBlock ∧ some k_ ≠ (.slice (some ad287) t282.length co34 : Value).ownBlock ∧ some k_ ≠ (v292 : Value).ownBlock)) (by (with_reducible repeat (first | apply Kd.N_alloc | apply Kd.N_drewN | apply Kd.N_drew)); exact Kd.N_mono HO_6.out (fun _ hk => ⟨⟨hk.1.1, ⟨hk.1.2.1, hk.2⟩⟩, hk.1.2.2⟩)) hg hat); have n2_ := aM (Kd.R_after (ok := (fun _ => True)) (by refine rdS ?_; exact Kd.R_mono HO_8.out (fun _ hk => ⟨trivial, hk⟩)) hg hat); have n3_ := aM (Kd.V_afterv (ok := (fun k_ => some k_ ≠ (.slice (some ad290) y263.length co36 : Value).ownBlock ∧ some k_ ≠ (.slice (some ad288) y278.length co35 : Value).ownBlock ∧ some k_ ≠ (.slice (some ad287) t282.length co34 : Value).ownBlock ∧ some k_ ≠ (v292 : Value).ownBlock)) (by (with_reducible repeat (first | apply Kd.V_alloc | apply Kd.V_drewN | apply Kd.V_drew)); exact Kd.V_mono HL288_0.out (fun _ hk => ⟨⟨hk.1.1, ⟨hk.1.2.1, ⟨hk.1.2.2.1, hk.2⟩⟩⟩, hk.1.2.2.2⟩)) hg hat); have n4_ := aM (Kd.R_over' (rdS HO293.out) (Kd.R_typed (rdS HO_10.out)) (by decide) hg); have n5_ := aM (Kd.V_afterv (ok := (fun k_ => some k_ ≠ (.slice (some ad290) y263.length co36 : Value).ownBlock ∧ some k_ ≠ (.slice (some ad288) y278.length co35 : Value).ownBlock ∧ some k_ ≠ (.slice (some ad287) t282.length co34 : Value).ownBlock ∧ some k_ ≠ (v292 : Value).ownBlock)) (by (with_reducible repeat (first | apply Kd.V_alloc | apply Kd.V_drewN | apply Kd.V_drew)); exact Kd.V_mono HL294_0.out (fun _ hk => ⟨⟨hk.1.1.1, ⟨hk.2, ⟨hk.1.1.2.1, hk.1.2⟩⟩⟩, hk.1.1.2.2⟩)) hg hat); have n6_ := aM (hb); have n7_ := aM (ho); clear HO_4; clear HO_6; clear HO_8; clear HL288_0; clear HO293; clear HL294_0; clear HB; clear HO_10; have HO_4 := n0_; have HO_6 := n1_; have HO_8 := n2_; have HL288_0 := n3_; have HO293 := n4_; have HL294_0 := n5_; have HB := n6_; have HO298 := n7_; clear n0_ n1_ n2_ n3_ n4_ n5_ n6_ n7_; clear ho hb hg hat))
     go_roundg k2
     case measure => have := HK1.out; have := HK2.out; omega
     case rel => exact ⟨(y291), (y296), (wrap64 (x12_2 + 1)), (by first | rfl | (simp; done) | (simp [*]; done)), H', ⟨by have := HK1.out; have := HK2.out; omega⟩, ⟨by refine rdS ?_; exact Kd.R_mono HO_4.out (fun _ hk => hk.2)⟩, ⟨by (with_reducible repeat (first | apply Kd.N_alloc | apply Kd.N_drewN | apply Kd.N_drew)); exact Kd.N_mono HO_6.out (fun _ hk => ⟨hk.1.1, ⟨hk.1.2.1, ⟨hk.1.2.2, hk.2⟩⟩⟩)⟩, ⟨by refine rdS ?_; exact Kd.R_mono HO_8.out (fun _ hk => hk.2)⟩, ⟨by refine rdS ?_; exact HO293.out⟩, ⟨by refine rdS ?_; exact HO298.out⟩, ⟨bl0⟩⟩
def hurdleref09_Call.f (k : Nat) (a0 : Int) (a1 : Int) : Option (ByteArray) := (hurdleref09_Calls.f k a0).bind fun bt299 => ((hurdleref09_text.f k bt299.1 bt299.2 a1).bind fun t305 => (some t305))
theorem hurdleref09_Call.mono : ∀ a0 a1 k, LeO (hurdleref09_Call.f k a0 a1) (hurdleref09_Call.f (k + 1) a0 a1) := by
 intro a0 a1 k
 unfold hurdleref09_Call.f
 repeat' first
  | (with_reducible exact hurdleref09_Calls.mono _ _)
  | (with_reducible exact hurdleref09_text.mono _ _ _ _)
  | (with_reducible exact LeO.refl _)
  | (with_reducible exact LeO.none _)
  | (with_reducible refine LeO.ite ?_ ?_)
  | (with_reducible refine LeO.bind ?_ (fun _ => ?_))
  | exact hurdleref09_Calls.mono _ _
  | exact hurdleref09_text.mono _ _ _ _
  | exact LeO.none _
  | refine LeO.ite ?_ ?_
  | refine LeO.bind ?_ (fun _ => ?_)
set_option maxHeartbeats 8000000 in
set_option maxRecDepth 100000 in
theorem hurdleref09_Call.calls (k : Nat) (a0 : Int) (a1 : Int) (r : ByteArray) (w : World) (h : hurdleref09_Call.f k a0 a1 = some r) :
 Calls Try.prog 57 #[.int .u32 a0, .int .u32 a1] w fun e w' => e = .returned (.string r) ∧ Below w.heap.size w w' := by
 have HB := aM (Below.refl w.heap.size w)
 have H : ((hurdleref09_Calls.f k a0).bind fun bt299 => ((hurdleref09_text.f k bt299.1 bt299.2 a1).bind fun t305 => (some t305))) = some r := h
 clear h
 replace H := Option.bind_eq_some_iff.mp H
 obtain ⟨⟨t299, t300⟩, A30, H⟩ := H
 replace H : ((hurdleref09_text.f k t299 t300 a1).bind fun t305 => (some t305)) = some r := H
 have A3 := aM A30
 clear A30
 replace H := Option.bind_eq_some_iff.mp H
 obtain ⟨t305, A40, H⟩ := H
 replace H : (some t305) = some r := H
 have A4 := aM A40
 clear A40
 obtain rfl := Option.some.inj H
 go_enter Try.func57, Try.ntmps57
 go_wp2_with (first | ((with_reducible refine gate_callee (f := 74) rfl ?_); refine goesL_ (some 9) rfl rfl Try.func74 kR rfl #[.int .u32 a0] rfl mpA ?_; (with_reducible refine (hurdleref09_Calls.calls k a0 t299 t300 _ A3.out).mono ?_); rintro e w5 ⟨v301, v303, rfl, ho0, ho1, hb⟩; refine ⟨_, rfl, ?_⟩; have n0_ := aM (Kd.R_lower ho0 (below_size bl0)); have n1_ := aM (Kd.R_lower ho1 (below_size bl0)); have n2_ := aM (below_step bl0 hb); clear HB; have HO302 := n0_; have HO304 := n1_; have HB := n2_; clear n0_ n1_ n2_; (try clear hb); (try clear hb2); (try clear hk); (try clear hi); (try clear ho0); (try clear ho1); obtain ⟨Ao6, co6, eo6⟩ := Kd.R_slice HO302.out; subst eo6; obtain ⟨Ao7, co7, eo7⟩ := Kd.R_slice HO304.out; subst eo7) | ((with_reducible refine gate_callee (f := 73) rfl ?_); refine goesL_ (some 15) rfl rfl Try.func73 kR rfl #[.slice Ao6 t299.length co6, .slice Ao7 t300.length co7, .int .u32 a1] rfl mpA ?_; (with_reducible refine (hurdleref09_text.calls k _ _ t299 _ _ t300 a1 t305 _ ?side1 ?side2 ?side3 ?side4 A4.out).mono ?_); (case side1 => repeat (first | exact (Kd.R_reads' HO302.out).2.2 | (with_reducible refine Kd.C_alloc ?_ _) | (with_reducible refine Kd.C_drewN ?_ _) | (with_reducible refine Kd.C_drew ?_))); (case side2 => exact (Kd.R_reads' HO302.out).2.1); (case side3 => repeat (first | exact (Kd.R_reads' HO304.out).2.2 | (with_reducible refine Kd.C_alloc ?_ _) | (with_reducible refine Kd.C_drewN ?_ _) | (with_reducible refine Kd.C_drew ?_))); (case side4 => exact (Kd.R_reads' HO304.out).2.1); rintro e w8 ⟨rfl, hb⟩; refine ⟨_, rfl, ?_⟩; have n0_ := aM (Kd.R_below (rdS HO302.out) hb); have n1_ := aM (Kd.R_below (rdS HO304.out) hb); have n2_ := aM (below_step bl0 hb); clear HO302; clear HO304; clear HB; have HO302 := n0_; have HO304 := n1_; have HB := n2_; clear n0_ n1_ n2_; (try clear hb); (try clear hb2); (try clear hk); (try clear hi)))
 go_ret
 exact ⟨erA, bl0⟩
def hurdleref08_Words.f  : Option (List ByteArray) := some (([(⟨#[101, 113]⟩ : ByteArray), (⟨#[110, 101]⟩ : ByteArray), (⟨#[108, 116]⟩ : ByteArray), (⟨#[108, 101]⟩ : ByteArray), (⟨#[103, 116]⟩ : ByteArray), (⟨#[103, 101]⟩ : ByteArray)] : List ByteArray))
set_option maxHeartbeats 8000000 in
set_option maxRecDepth 100000 in
theorem hurdleref08_Words.calls  (r : List ByteArray) (w : World) (h : hurdleref08_Words.f  = some r) :
 Calls Try.prog 75 #[] w fun e w' => ∃ v0_ : Value, e = .returned (v0_) ∧ Kd.R Kd.string 9 w' w.heap.size (fun _ => True) v0_ r ∧ Below w.heap.size w w' := by
 have HB := aM (Below.refl w.heap.size w)
 have H : (some (([(⟨#[101, 113]⟩ : ByteArray), (⟨#[110, 101]⟩ : ByteArray), (⟨#[108, 116]⟩ : ByteArray), (⟨#[108, 101]⟩ : ByteArray), (⟨#[103, 116]⟩ : ByteArray), (⟨#[103, 101]⟩ : ByteArray)] : List ByteArray))) = some r := h
 clear h
 obtain ⟨y306, hy306⟩ : ∃ y_ : List ByteArray, y_ = (([(⟨#[101, 113]⟩ : ByteArray), (⟨#[110, 101]⟩ : ByteArray), (⟨#[108, 116]⟩ : ByteArray), (⟨#[108, 101]⟩ : ByteArray), (⟨#[103, 116]⟩ : ByteArray), (⟨#[103, 101]⟩ : ByteArray)] : List ByteArray)) := ⟨_, rfl⟩
 replace H : (some y306) = some r := by first | (rw [hy306]; with_reducible exact H) | (have H2_ := (Option.bind_some _ _).symm.trans H; rw [hy306]; with_reducible exact H2_) | (have H2_ := (Option.bind_some _ _).symm.trans H; with_reducible exact H2_) | with_reducible exact H | (rw [hy306]; exact H) | exact H
 have Ny306 := aM hy306
 clear hy306
 obtain rfl := Option.some.inj H
 go_enter Try.func75, Try.ntmps75
 go_wp2_with (first | ((with_reducible refine gate_dst (N := 1) rfl ?_); refine Kd.R_lit Kd.string _ 9 ?hg (N := 1) ?hd (xs := ([(⟨#[101, 113]⟩ : ByteArray), (⟨#[110, 101]⟩ : ByteArray), (⟨#[108, 116]⟩ : ByteArray), (⟨#[108, 101]⟩ : ByteArray), (⟨#[103, 116]⟩ : ByteArray), (⟨#[103, 101]⟩ : ByteArray)] : List ByteArray)) (inner := [.string (⟨#[101, 113]⟩ : ByteArray), .string (⟨#[110, 101]⟩ : ByteArray), .string (⟨#[108, 116]⟩ : ByteArray), .string (⟨#[108, 101]⟩ : ByteArray), .string (⟨#[103, 116]⟩ : ByteArray), .string (⟨#[103, 101]⟩ : ByteArray)]) (ok := fun _ => True) (okp := fun _ => True) ?hr ?hp (fun _ hk => hk) trivial (Below.refl _ _) (Nat.le_refl _) (by simp) ?_; (case hd => rfl); (case hg => rfl); (case hr => first | (go_simp; done) | (go_simp; rfl)); (case hp => exact (Reps.one (show Kd.M Kd.string _ _ _ (⟨#[101, 113]⟩ : ByteArray) [.string (⟨#[101, 113]⟩ : ByteArray)] from rfl) (Reps.one (show Kd.M Kd.string _ _ _ (⟨#[110, 101]⟩ : ByteArray) [.string (⟨#[110, 101]⟩ : ByteArray)] from rfl) (Reps.one (show Kd.M Kd.string _ _ _ (⟨#[108, 116]⟩ : ByteArray) [.string (⟨#[108, 116]⟩ : ByteArray)] from rfl) (Reps.one (show Kd.M Kd.string _ _ _ (⟨#[108, 101]⟩ : ByteArray) [.string (⟨#[108, 101]⟩ : ByteArray)] from rfl) (Reps.one (show Kd.M Kd.string _ _ _ (⟨#[103, 116]⟩ : ByteArray) [.string (⟨#[103, 116]⟩ : ByteArray)] from rfl) (Reps.one (show Kd.M Kd.string _ _ _ (⟨#[103, 101]⟩ : ByteArray) [.string (⟨#[103, 101]⟩ : ByteArray)] from rfl) (Reps.none _ _)))))))); intro v307 w1 ho2 hb hg_ hnew_; clear hg_ hnew_; (first | rw [← Ny306.out] at ho2 | (simp only [Int.reduceToNat] at ho2; rw [← Ny306.out] at ho2)); have n0_ := aM (Kd.R_lower ho2 (below_size bl0)); have n1_ := aM (below_step bl0 hb); clear HB; have HO308 := n0_; have HB := n1_; clear n0_ n1_; clear hb ho2))
 go_ret
 exact ⟨_, erA, by refine rdS ?_; exact HO308.out, bl0⟩
def hurdleref10_Line.l0 : Nat → ByteArray → Int → Int → Int → List (S61) → Int → Option (ByteArray)
 | 0, _, _, _, _, _, _ => none
 | k + 1, x3, x4, x310000, x310001, x310002, x310003 => if x4 < (x310002.length : Int) then (if x4 = 0 then (if x3.size + 4 ≤ 9223372036854775807 then (if 0 ≤ x4 then ((hurdleref08_Print.f ((rd_T61 x310002 x4).f0) ((rd_T61 x310002 x4).f1) ((rd_T61 x310002 x4).f2) ((rd_T61 x310002 x4).f3)).bind fun t314 => (if (x3 ++ (⟨#[32, 105, 102, 32]⟩ : ByteArray)).size + t314.size ≤ 9223372036854775807 then (hurdleref10_Line.l0 k ((x3 ++ (⟨#[32, 105, 102, 32]⟩ : ByteArray)) ++ t314) (wrap64 (x4 + 1)) x310000 x310001 x310002 x310003) else (none))) else (none)) else (none)) else (if x3.size + 5 ≤ 9223372036854775807 then (if 0 ≤ x4 then ((hurdleref08_Print.f ((rd_T61 x310002 x4).f0) ((rd_T61 x310002 x4).f1) ((rd_T61 x310002 x4).f2) ((rd_T61 x310002 x4).f3)).bind fun t316 => (if (x3 ++ (⟨#[32, 97, 110, 100, 32]⟩ : ByteArray)).size + t316.size ≤ 9223372036854775807 then (hurdleref10_Line.l0 k ((x3 ++ (⟨#[32, 97, 110, 100, 32]⟩ : ByteArray)) ++ t316) (wrap64 (x4 + 1)) x310000 x310001 x310002 x310003) else (none))) else (none)) else (none))) else (some x3)
def hurdleref10_Line.f (k : Nat) (a0_0 : Int) (a0_1 : Int) (l0_2 : List (S61)) (a0_3 : Int) : Option (ByteArray) := (hurdleref09_Machine.f k a0_0).bind fun t310 => (if 3 + t310.size ≤ 9223372036854775807 then (if ((⟨#[111, 110, 32]⟩ : ByteArray) ++ t310).size + 1 ≤ 9223372036854775807 then ((hurdleref09_Call.f k a0_0 a0_1).bind fun t311 => (if (((⟨#[111, 110, 32]⟩ : ByteArray) ++ t310) ++ (⟨#[32]⟩ : ByteArray)).size + t311.size ≤ 9223372036854775807 then (if ((((⟨#[111, 110, 32]⟩ : ByteArray) ++ t310) ++ (⟨#[32]⟩ : ByteArray)) ++ t311).size + 1 ≤ 9223372036854775807 then ((hurdleref09_Action.f k a0_3).bind fun t312 => (if (((((⟨#[111, 110, 32]⟩ : ByteArray) ++ t310) ++ (⟨#[32]⟩ : ByteArray)) ++ t311) ++ (⟨#[32]⟩ : ByteArray)).size + t312.size ≤ 9223372036854775807 then (hurdleref10_Line.l0 k ((((((⟨#[111, 110, 32]⟩ : ByteArray) ++ t310) ++ (⟨#[32]⟩ : ByteArray)) ++ t311) ++ (⟨#[32]⟩ : ByteArray)) ++ t312) 0 a0_0 a0_1 l0_2 a0_3) else (none))) else (none)) else (none))) else (none)) else (none))
def hurdleref10_Line.T1 : Bool × List (List Nat × List Nat) := (true, [([], []), ([0], [0]), ([1], [1]), ([2], [2]), ([3], [3]), ([], []), ([5], [5]), ([], []), ([7], [7]), ([6, 8, 2], [6, 8]), ([4, 9], [4, 9]), ([10], [10]), ([], []), ([12], [12]), ([13, 9], [13]), ([11, 14], [11, 14]), ([15, 14, 0, 1, 2, 3, 4, 5, 6, 7, 8, 9, 10, 11, 12, 13, 14, 15], [15])])
def hurdleref10_Line.B1 : List Nat := [0, 1, 3, 7, 15, 0, 32, 0, 128, 487, 1023, 2047, 0, 4096, 13287, 32767, 65535]
theorem hurdleref10_Line.tab1 : rtab .any (opsOf Try.f36 1) = hurdleref10_Line.T1 := by kernel_rfl
theorem hurdleref10_Line.bits1 : waitsOk hurdleref10_Line.T1.2 hurdleref10_Line.B1 = true := by kernel_rfl
set_option maxHeartbeats 8000000 in
set_option maxRecDepth 100000 in
theorem hurdleref10_Line.calls (k : Nat) (a0_0 : Int) (a0_1 : Int) (A0_2 : Option Addr) (c0_2 : Nat) (l0_2 : List (S61)) (a0_3 : Int) (r : ByteArray) (w : World) (hr0_2 : Kd.C k61 w A0_2 l0_2.length l0_2) (hc0_2 : l0_2.length ≤ c0_2) (h : hurdleref10_Line.f k a0_0 a0_1 l0_2 a0_3 = some r) :
 Calls Try.prog 36 #[.agg #[.int .u32 a0_0, .int .u32 a0_1, .slice A0_2 l0_2.length c0_2, .int .u32 a0_3]] w fun e w' => e = .returned (.string r) ∧ Below w.heap.size w w' := by
 have hu40 := Try.underlying40
 have hu61 := Try.underlying61
 have HR0_2 := aM hr0_2
 have HC0_2 := aM hc0_2
 clear hr0_2 hc0_2
 have HB := aM (Below.refl w.heap.size w)
 have H : ((hurdleref09_Machine.f k a0_0).bind fun t310 => (if 3 + t310.size ≤ 9223372036854775807 then (if ((⟨#[111, 110, 32]⟩ : ByteArray) ++ t310).size + 1 ≤ 9223372036854775807 then ((hurdleref09_Call.f k a0_0 a0_1).bind fun t311 => (if (((⟨#[111, 110, 32]⟩ : ByteArray) ++ t310) ++ (⟨#[32]⟩ : ByteArray)).size + t311.size ≤ 9223372036854775807 then (if ((((⟨#[111, 110, 32]⟩ : ByteArray) ++ t310) ++ (⟨#[32]⟩ : ByteArray)) ++ t311).size + 1 ≤ 9223372036854775807 then ((hurdleref09_Action.f k a0_3).bind fun t312 => (if (((((⟨#[111, 110, 32]⟩ : ByteArray) ++ t310) ++ (⟨#[32]⟩ : ByteArray)) ++ t311) ++ (⟨#[32]⟩ : ByteArray)).size + t312.size ≤ 9223372036854775807 then (hurdleref10_Line.l0 k ((((((⟨#[111, 110, 32]⟩ : ByteArray) ++ t310) ++ (⟨#[32]⟩ : ByteArray)) ++ t311) ++ (⟨#[32]⟩ : ByteArray)) ++ t312) 0 a0_0 a0_1 l0_2 a0_3) else (none))) else (none)) else (none))) else (none)) else (none))) = some r := h
 clear h
 replace H := Option.bind_eq_some_iff.mp H
 obtain ⟨t310, A20, H⟩ := H
 replace H : (if 3 + t310.size ≤ 9223372036854775807 then (if ((⟨#[111, 110, 32]⟩ : ByteArray) ++ t310).size + 1 ≤ 9223372036854775807 then ((hurdleref09_Call.f k a0_0 a0_1).bind fun t311 => (if (((⟨#[111, 110, 32]⟩ : ByteArray) ++ t310) ++ (⟨#[32]⟩ : ByteArray)).size + t311.size ≤ 9223372036854775807 then (if ((((⟨#[111, 110, 32]⟩ : ByteArray) ++ t310) ++ (⟨#[32]⟩ : ByteArray)) ++ t311).size + 1 ≤ 9223372036854775807 then ((hurdleref09_Action.f k a0_3).bind fun t312 => (if (((((⟨#[111, 110, 32]⟩ : ByteArray) ++ t310) ++ (⟨#[32]⟩ : ByteArray)) ++ t311) ++ (⟨#[32]⟩ : ByteArray)).size + t312.size ≤ 9223372036854775807 then (hurdleref10_Line.l0 k ((((((⟨#[111, 110, 32]⟩ : ByteArray) ++ t310) ++ (⟨#[32]⟩ : ByteArray)) ++ t311) ++ (⟨#[32]⟩ : ByteArray)) ++ t312) 0 a0_0 a0_1 l0_2 a0_3) else (none))) else (none)) else (none))) else (none)) else (none)) = some r := H
 have A2 := aM A20
 clear A20
 by_cases c3 : 3 + t310.size ≤ 9223372036854775807
 rotate_left
 · rw [if_neg c3] at H
   exact absurd H (by simp)
 rw [if_pos c3] at H
 have c3b0 := eq_true c3
 have c3b1 : decide (3 + t310.size ≤ 9223372036854775807) = true := decide_eq_true c3
 try have c3b2 : (9223372036854775807 < 3 + t310.size) = False := eq_false (Nat.not_lt.2 c3)
 by_cases c4 : ((⟨#[111, 110, 32]⟩ : ByteArray) ++ t310).size + 1 ≤ 9223372036854775807
 rotate_left
 · rw [if_neg c4] at H
   exact absurd H (by simp)
 rw [if_pos c4] at H
 have c4b0 := eq_true c4
 have c4b1 : decide (((⟨#[111, 110, 32]⟩ : ByteArray) ++ t310).size + 1 ≤ 9223372036854775807) = true := decide_eq_true c4
 try have c4b2 : (9223372036854775807 < ((⟨#[111, 110, 32]⟩ : ByteArray) ++ t310).size + 1) = False := eq_false (Nat.not_lt.2 c4)
 try have c4b3 : (9223372036854775807 < 3 + t310.size + 1) = False := by have h := c4b2; simp only [ByteArray.size_append] at h; exact h
 replace H := Option.bind_eq_some_iff.mp H
 obtain ⟨t311, A50, H⟩ := H
 replace H : (if (((⟨#[111, 110, 32]⟩ : ByteArray) ++ t310) ++ (⟨#[32]⟩ : ByteArray)).size + t311.size ≤ 9223372036854775807 then (if ((((⟨#[111, 110, 32]⟩ : ByteArray) ++ t310) ++ (⟨#[32]⟩ : ByteArray)) ++ t311).size + 1 ≤ 9223372036854775807 then ((hurdleref09_Action.f k a0_3).bind fun t312 => (if (((((⟨#[111, 110, 32]⟩ : ByteArray) ++ t310) ++ (⟨#[32]⟩ : ByteArray)) ++ t311) ++ (⟨#[32]⟩ : ByteArray)).size + t312.size ≤ 9223372036854775807 then (hurdleref10_Line.l0 k ((((((⟨#[111, 110, 32]⟩ : ByteArray) ++ t310) ++ (⟨#[32]⟩ : ByteArray)) ++ t311) ++ (⟨#[32]⟩ : ByteArray)) ++ t312) 0 a0_0 a0_1 l0_2 a0_3) else (none))) else (none)) else (none)) = some r := H
 have A5 := aM A50
 clear A50
 by_cases c6 : (((⟨#[111, 110, 32]⟩ : ByteArray) ++ t310) ++ (⟨#[32]⟩ : ByteArray)).size + t311.size ≤ 9223372036854775807
 rotate_left
 · rw [if_neg c6] at H
   exact absurd H (by simp)
 rw [if_pos c6] at H
 have c6b0 := eq_true c6
 have c6b1 : decide ((((⟨#[111, 110, 32]⟩ : ByteArray) ++ t310) ++ (⟨#[32]⟩ : ByteArray)).size + t311.size ≤ 9223372036854775807) = true := decide_eq_true c6
 try have c6b2 : (9223372036854775807 < (((⟨#[111, 110, 32]⟩ : ByteArray) ++ t310) ++ (⟨#[32]⟩ : ByteArray)).size + t311.size) = False := eq_false (Nat.not_lt.2 c6)
 try have c6b3 : (9223372036854775807 < 3 + t310.size + 1 + t311.size) = False := by have h := c6b2; simp only [ByteArray.size_append] at h; exact h
 by_cases c7 : ((((⟨#[111, 110, 32]⟩ : ByteArray) ++ t310) ++ (⟨#[32]⟩ : ByteArray)) ++ t311).size + 1 ≤ 9223372036854775807
 rotate_left
 · rw [if_neg c7] at H
   exact absurd H (by simp)
 rw [if_pos c7] at H
 have c7b0 := eq_true c7
 have c7b1 : decide (((((⟨#[111, 110, 32]⟩ : ByteArray) ++ t310) ++ (⟨#[32]⟩ : ByteArray)) ++ t311).size + 1 ≤ 9223372036854775807) = true := decide_eq_true c7
 try have c7b2 : (9223372036854775807 < ((((⟨#[111, 110, 32]⟩ : ByteArray) ++ t310) ++ (⟨#[32]⟩ : ByteArray)) ++ t311).size + 1) = False := eq_false (Nat.not_lt.2 c7)
 try have c7b3 : (9223372036854775807 < 3 + t310.size + 1 + t311.size + 1) = False := by have h := c7b2; simp only [ByteArray.size_append] at h; exact h
 replace H := Option.bind_eq_some_iff.mp H
 obtain ⟨t312, A80, H⟩ := H
 replace H : (if (((((⟨#[111, 110, 32]⟩ : ByteArray) ++ t310) ++ (⟨#[32]⟩ : ByteArray)) ++ t311) ++ (⟨#[32]⟩ : ByteArray)).size + t312.size ≤ 9223372036854775807 then (hurdleref10_Line.l0 k ((((((⟨#[111, 110, 32]⟩ : ByteArray) ++ t310) ++ (⟨#[32]⟩ : ByteArray)) ++ t311) ++ (⟨#[32]⟩ : ByteArray)) ++ t312) 0 a0_0 a0_1 l0_2 a0_3) else (none)) = some r := H
 have A8 := aM A80
 clear A80
 by_cases c9 : (((((⟨#[111, 110, 32]⟩ : ByteArray) ++ t310) ++ (⟨#[32]⟩ : ByteArray)) ++ t311) ++ (⟨#[32]⟩ : ByteArray)).size + t312.size ≤ 9223372036854775807
 rotate_left
 · rw [if_neg c9] at H
   exact absurd H (by simp)
 rw [if_pos c9] at H
 have c9b0 := eq_true c9
 have c9b1 : decide ((((((⟨#[111, 110, 32]⟩ : ByteArray) ++ t310) ++ (⟨#[32]⟩ : ByteArray)) ++ t311) ++ (⟨#[32]⟩ : ByteArray)).size + t312.size ≤ 9223372036854775807) = true := decide_eq_true c9
 try have c9b2 : (9223372036854775807 < (((((⟨#[111, 110, 32]⟩ : ByteArray) ++ t310) ++ (⟨#[32]⟩ : ByteArray)) ++ t311) ++ (⟨#[32]⟩ : ByteArray)).size + t312.size) = False := eq_false (Nat.not_lt.2 c9)
 try have c9b3 : (9223372036854775807 < 3 + t310.size + 1 + t311.size + 1 + t312.size) = False := by have h := c9b2; simp only [ByteArray.size_append] at h; exact h
 have H' := aM H
 clear H
 go_enter Try.func36, Try.ntmps36
 try go_wp2_with (first | ((with_reducible refine gate_dst (N := 1) rfl ?_); refine box_event ?hg (N := 1) ?hd (cs := #[.int .u32 a0_0, .int .u32 a0_1, .slice A0_2 l0_2.length c0_2, .int .u32 a0_3]) (t := 40) ?hr ?_; (case hd => rfl); (case hg => rfl); (case hr => first | (go_simp; done) | (go_simp; rfl)); intro gb309 hg w10 hbox hb; have n0_ := aM (below_step bl0 hb); have n1_ := aM (hbox); have n2_ := aM ((by rw [hg]; exact (below_size bl0) : w.heap.size ≤ gb309)); have n3_ := aM ((by rw [hg]; exact (below_size bl0) : w.heap.size ≤ gb309)); clear HB; have HB := n0_; have BK309 := n1_; have GW309 := n2_; have GE309 := n3_; clear n0_ n1_ n2_ n3_; clear hb hbox hg))
 have n0_ := aM (blk_drew BK309.out)
 have n1_ := aM (below_drew1 HB.out)
 clear BK309
 clear HB
 have BK309 := n0_
 have HB := n1_
 clear n0_ n1_
 refine start_ (n := 17) (S := fun w' => w'.cell? ⟨gb309, 0, none⟩ = some (.int .u32 a0_0) ∧ w'.cell? ⟨gb309, 1, none⟩ = some (.int .u32 a0_1) ∧ w'.cell? ⟨gb309, 2, none⟩ = some (.slice A0_2 l0_2.length c0_2) ∧ w'.cell? ⟨gb309, 3, none⟩ = some (.int .u32 a0_3)) (ds := []) #[false, false, false, false, false, false, false, false, false, false, false, false, false, false, false, false, false] kR rfl rfl ⟨(blk_cell BK309.out 0).trans rfl, (blk_cell BK309.out 1).trans rfl, (blk_cell BK309.out 2).trans rfl, (blk_cell BK309.out 3).trans rfl⟩ (fun hHeld => ?_); refine with_tabW hurdleref10_Line.tab1 hurdleref10_Line.bits1 (fun HT_ HW_ => ?_)
 generalize w10.drew = w11 at BK309 HB hHeld ⊢
 refine pure_ (i := 0) (N := some 5) (v := ?_) (a' := ?_) #[true, false, false, false, false, false, false, false, false, false, false, false, false, false, false, false, false] rfl rfl (any_of HT_.out kR) (fun _ _ _ h => h) (Or.inl ⟨by rfl, ?_⟩) ?_ ?_
 rotate_left
 · intro w'
   go_simp
   with_reducible rfl
 rotate_left
 · refine apW ?_
   rfl
 refine pure_ (i := 5) (N := some 10) (v := ?_) (a' := ?_) #[true, false, false, false, false, true, false, false, false, false, false, false, false, false, false, false, false] rfl rfl (any_of HT_.out kR) (fun _ _ _ h => h) (Or.inl ⟨by rfl, ?_⟩) ?_ ?_
 rotate_left
 · intro w'
   go_simp
   with_reducible rfl
 rotate_left
 · refine apW ?_
   rfl
 refine pure_ (i := 7) (N := some 12) (v := ?_) (a' := ?_) #[true, false, false, false, false, true, false, true, false, false, false, false, false, false, false, false, false] rfl rfl (any_of HT_.out kR) (fun _ _ _ h => h) (Or.inl ⟨by rfl, ?_⟩) ?_ ?_
 rotate_left
 · intro w'
   go_simp
   with_reducible rfl
 rotate_left
 · refine apW ?_
   rfl
 refine pure_ (i := 12) (N := some 17) (v := ?_) (a' := ?_) #[true, false, false, false, false, true, false, true, false, false, false, false, true, false, false, false, false] rfl rfl (any_of HT_.out kR) (fun _ _ _ h => h) (Or.inl ⟨by rfl, ?_⟩) ?_ ?_
 rotate_left
 · intro w'
   go_simp
   with_reducible rfl
 rotate_left
 · refine apW ?_
   rfl
 refine take_ (i := 1) (N := some 6) (v := ?_) (a' := ?_) #[true, true, false, false, false, true, false, true, false, false, false, false, true, false, false, false, false] rfl rfl (take_ofW HT_.out HW_.out kR) (fun _ _ _ h => h) (Or.inl ⟨by rfl, ?_⟩) hHeld ?_ ?_
 rotate_left
 · rintro w' ⟨s0, s1, s2, s3⟩
   go_simp
   with_reducible rfl
 rotate_left
 · refine apW ?_
   rfl
 refine take_ (i := 6) (N := some 11) (v := ?_) (a' := ?_) #[true, true, false, false, false, true, true, true, false, false, false, false, true, false, false, false, false] rfl rfl (take_ofW HT_.out HW_.out kR) (fun _ _ _ h => h) (Or.inl ⟨by rfl, ?_⟩) hHeld ?_ ?_
 rotate_left
 · rintro w' ⟨s0, s1, s2, s3⟩
   go_simp
   with_reducible rfl
 rotate_left
 · refine apW ?_
   rfl
 refine take_ (i := 8) (N := some 13) (v := ?_) (a' := ?_) #[true, true, false, false, false, true, true, true, true, false, false, false, true, false, false, false, false] rfl rfl (take_ofW HT_.out HW_.out kR) (fun _ _ _ h => h) (Or.inl ⟨by rfl, ?_⟩) hHeld ?_ ?_
 rotate_left
 · rintro w' ⟨s0, s1, s2, s3⟩
   go_simp
   with_reducible rfl
 rotate_left
 · refine apW ?_
   rfl
 refine take_ (i := 13) (N := some 18) (v := ?_) (a' := ?_) #[true, true, false, false, false, true, true, true, true, false, false, false, true, true, false, false, false] rfl rfl (take_ofW HT_.out HW_.out kR) (fun _ _ _ h => h) (Or.inl ⟨by rfl, ?_⟩) hHeld ?_ ?_
 rotate_left
 · rintro w' ⟨s0, s1, s2, s3⟩
   go_simp
   with_reducible rfl
 rotate_left
 · refine apW ?_
   rfl
 refine one_ (i := 2) (N := some 7) #[true, true, true, false, false, true, true, true, true, false, false, false, true, true, false, false, false] rfl rfl (one_of HT_.out kR) (by decide) (fun K hK => ?_)
 refine goes_ Try.func56 kR rfl #[.int .u32 a0_0] (by rfl) rfl rfl mpA ?_
 with_reducible refine (hurdleref09_Machine.calls k a0_0 t310 _ A2.out).mono ?_
 rintro e w12 ⟨rfl, hb⟩
 refine ⟨_, rfl, ?_⟩
 have n0_ := aM (blk_below (g := gb309) (o := .cells #[.int .u32 a0_0, .int .u32 a0_1, .slice A0_2 l0_2.length c0_2, .int .u32 a0_3] 40 (0, 0)) (bkS BK309.out) hb)
 have n1_ := aM (below_step (bl1 GE309.out) hb)
 clear BK309
 clear HB
 have BK309 := n0_
 have HB := n1_
 clear n0_ n1_
 (try clear hb)
 (try clear hb2)
 (try clear hk)
 (try clear hi)
 refine hK.out _ _ ⟨(blk_cell BK309.out 0).trans rfl, (blk_cell BK309.out 1).trans rfl, (blk_cell BK309.out 2).trans rfl, (blk_cell BK309.out 3).trans rfl⟩ (fun hHeld => ?_)
 clear hK K
 refine norm_ (a' := ?_) ?_ ?_
 rotate_left
 · show Act.put _ (some 7) _ = _
   refine apW ?_
   rfl
 refine pure_ (i := 3) (N := some 8) (v := ?_) (a' := ?_) #[true, true, true, true, false, true, true, true, true, false, false, false, true, true, false, false, false] rfl rfl (any_of HT_.out kR) (fun _ _ _ h => h) (Or.inl ⟨by rfl, ?_⟩) ?_ ?_
 rotate_left
 · intro w'
   go_simp
   with_reducible rfl
 rotate_left
 · refine apW ?_
   rfl
 refine pure_ (i := 4) (N := some 9) (v := ?_) (a' := ?_) #[true, true, true, true, true, true, true, true, true, false, false, false, true, true, false, false, false] rfl rfl (any_of HT_.out kR) (fun _ _ _ h => h) (Or.inl ⟨by rfl, ?_⟩) ?_ ?_
 rotate_left
 · intro w'
   go_simp
   with_reducible rfl
 rotate_left
 · refine apW ?_
   rfl
 refine one_ (i := 9) (N := some 14) #[true, true, true, true, true, true, true, true, true, true, false, false, true, true, false, false, false] rfl rfl (one_of HT_.out kR) (by decide) (fun K hK => ?_)
 refine goes_ Try.func57 kR rfl #[.int .u32 a0_0, .int .u32 a0_1] (by rfl) rfl rfl mpA ?_
 with_reducible refine (hurdleref09_Call.calls k a0_0 a0_1 t311 _ A5.out).mono ?_
 rintro e w13 ⟨rfl, hb⟩
 refine ⟨_, rfl, ?_⟩
 have n0_ := aM (blk_below (g := gb309) (o := .cells #[.int .u32 a0_0, .int .u32 a0_1, .slice A0_2 l0_2.length c0_2, .int .u32 a0_3] 40 (0, 0)) (bkS BK309.out) hb)
 have n1_ := aM (below_step (bl1 GE309.out) hb)
 clear BK309
 clear HB
 have BK309 := n0_
 have HB := n1_
 clear n0_ n1_
 (try clear hb)
 (try clear hb2)
 (try clear hk)
 (try clear hi)
 refine hK.out _ _ ⟨(blk_cell BK309.out 0).trans rfl, (blk_cell BK309.out 1).trans rfl, (blk_cell BK309.out 2).trans rfl, (blk_cell BK309.out 3).trans rfl⟩ (fun hHeld => ?_)
 clear hK K
 refine norm_ (a' := ?_) ?_ ?_
 rotate_left
 · show Act.put _ (some 14) _ = _
   refine apW ?_
   rfl
 refine pure_ (i := 10) (N := some 15) (v := ?_) (a' := ?_) #[true, true, true, true, true, true, true, true, true, true, true, false, true, true, false, false, false] rfl rfl (any_of HT_.out kR) (fun _ _ _ h => h) (Or.inl ⟨by rfl, ?_⟩) ?_ ?_
 rotate_left
 · intro w'
   go_simp
   with_reducible rfl
 rotate_left
 · refine apW ?_
   rfl
 refine pure_ (i := 11) (N := some 16) (v := ?_) (a' := ?_) #[true, true, true, true, true, true, true, true, true, true, true, true, true, true, false, false, false] rfl rfl (any_of HT_.out kR) (fun _ _ _ h => h) (Or.inl ⟨by rfl, ?_⟩) ?_ ?_
 rotate_left
 · intro w'
   go_simp
   with_reducible rfl
 rotate_left
 · refine apW ?_
   rfl
 refine one_ (i := 14) (N := some 19) #[true, true, true, true, true, true, true, true, true, true, true, true, true, true, true, false, false] rfl rfl (one_of HT_.out kR) (by decide) (fun K hK => ?_)
 refine goes_ Try.func33 kR rfl #[.int .u32 a0_3] (by rfl) rfl rfl mpA ?_
 with_reducible refine (hurdleref09_Action.calls k a0_3 t312 _ A8.out).mono ?_
 rintro e w14 ⟨rfl, hb⟩
 refine ⟨_, rfl, ?_⟩
 have n0_ := aM (blk_below (g := gb309) (o := .cells #[.int .u32 a0_0, .int .u32 a0_1, .slice A0_2 l0_2.length c0_2, .int .u32 a0_3] 40 (0, 0)) (bkS BK309.out) hb)
 have n1_ := aM (below_step (bl1 GE309.out) hb)
 clear BK309
 clear HB
 have BK309 := n0_
 have HB := n1_
 clear n0_ n1_
 (try clear hb)
 (try clear hb2)
 (try clear hk)
 (try clear hi)
 refine hK.out _ _ ⟨(blk_cell BK309.out 0).trans rfl, (blk_cell BK309.out 1).trans rfl, (blk_cell BK309.out 2).trans rfl, (blk_cell BK309.out 3).trans rfl⟩ (fun hHeld => ?_)
 clear hK K
 refine norm_ (a' := ?_) ?_ ?_
 rotate_left
 · show Act.put _ (some 19) _ = _
   refine apW ?_
   rfl
 refine pure_ (i := 15) (N := some 20) (v := ?_) (a' := ?_) #[true, true, true, true, true, true, true, true, true, true, true, true, true, true, true, true, false] rfl rfl (any_of HT_.out kR) (fun _ _ _ h => h) (Or.inl ⟨by rfl, ?_⟩) ?_ ?_
 rotate_left
 · intro w'
   go_simp
   with_reducible rfl
 rotate_left
 · refine apW ?_
   rfl
 refine pure_ (i := 16) (N := some 3) (v := ?_) (a' := ?_) #[true, true, true, true, true, true, true, true, true, true, true, true, true, true, true, true, true] rfl rfl (any_of HT_.out kR) (fun _ _ _ h => h) (Or.inl ⟨by rfl, ?_⟩) ?_ ?_
 rotate_left
 · intro w'
   go_simp
   with_reducible rfl
 rotate_left
 · refine apW ?_
   rfl
 refine done_ (done_of HT_.out kR) ?_
 try go_wp2
 go_loopg [3, 4] k (fun kq v3 v4 w' => ∃ (x3_1 : ByteArray) (x4_1 : Int), v3 = .string x3_1 ∧ v4 = .int .i64 x4_1 ∧ Aside0 (hurdleref10_Line.l0 kq x3_1 x4_1 a0_0 a0_1 l0_2 a0_3 = some r) ∧ Aside0 (kq ≤ k) ∧ Aside0 (w'.heap[gb309]? = some (.cells #[.int .u32 a0_0, .int .u32 a0_1, (.slice A0_2 l0_2.length c0_2), .int .u32 a0_3] 40 (0, 0))) ∧ Aside0 (Below w.heap.size w w'))
 case atStart => exact ⟨((((((⟨#[111, 110, 32]⟩ : ByteArray) ++ t310) ++ (⟨#[32]⟩ : ByteArray)) ++ t311) ++ (⟨#[32]⟩ : ByteArray)) ++ t312), (0), (by first | rfl | (simp; done) | (simp [*]; done)), (by first | rfl | (simp; done) | (simp [*]; done)), H', ⟨Nat.le_refl _⟩, ⟨by refine bkS ?_; exact BK309.out⟩, ⟨bl1 GE309.out⟩⟩
 case round =>
  clear H'
  try clear p2
  try clear c3
  try clear c3b0
  try clear c3b1
  try clear c3b2
  try clear c4
  try clear c4b0
  try clear c4b1
  try clear c4b2
  try clear c5
  try clear c6
  try clear c6b0
  try clear c6b1
  try clear c6b2
  try clear c7
  try clear c7b0
  try clear c7b1
  try clear c7b2
  try clear c9
  try clear c9b0
  try clear c9b1
  try clear c9b2
  obtain ⟨x3_1, x4_1, rfl, rfl, HA, HK1, BK309, HB⟩ := hrel
  cases gk with
  | zero => exact absurd HA.out (by simp [hurdleref10_Line.l0])
  | succ k1 =>
   have H := HA.out
   clear HA
   simp only [hurdleref10_Line.l0] at H
   by_cases c15 : x4_1 < (l0_2.length : Int)
   rotate_left
   · rw [if_neg c15] at H
     have c15b0 : decide (x4_1 < (l0_2.length : Int)) = false := decide_eq_false c15
     clear c15
     obtain rfl := Option.some.inj H
     have hcz29_0 : wr.cell? ⟨gb309, 0, none⟩ = some (.int .u32 a0_0) := (blk_cell BK309.out 0).trans rfl
     have hcz29_1 : wr.cell? ⟨gb309, 1, none⟩ = some (.int .u32 a0_1) := (blk_cell BK309.out 1).trans rfl
     have hcz29_2 : wr.cell? ⟨gb309, 2, none⟩ = some (.slice A0_2 l0_2.length c0_2) := (blk_cell BK309.out 2).trans rfl
     have hcz29_3 : wr.cell? ⟨gb309, 3, none⟩ = some (.int .u32 a0_3) := (blk_cell BK309.out 3).trans rfl
     have hfz29_0 := blk_frozen BK309.out 0
     have hfz29_1 := blk_frozen BK309.out 1
     have hfz29_2 := blk_frozen BK309.out 2
     have hfz29_3 := blk_frozen BK309.out 3
     go_wp2
     go_ret
     exact ⟨erA, bl1 GE309.out⟩
   rw [if_pos c15] at H
   have c15b0 : decide (x4_1 < (l0_2.length : Int)) = true := decide_eq_true c15
   clear c15
   by_cases c16 : x4_1 = 0
   rotate_left
   · rw [if_neg c16] at H
     have c16b0 : (x4_1 == 0) = false := beq_eq_false_iff_ne.mpr c16
     have c16b1 : (x4_1 != 0) = true := bne_iff_ne.mpr c16
     by_cases c23 : x3_1.size + 5 ≤ 9223372036854775807
     rotate_left
     · rw [if_neg c23] at H
       exact absurd H (by simp)
     rw [if_pos c23] at H
     have c23b0 := eq_true c23
     have c23b1 : decide (x3_1.size + 5 ≤ 9223372036854775807) = true := decide_eq_true c23
     try have c23b2 : (9223372036854775807 < x3_1.size + 5) = False := eq_false (Nat.not_lt.2 c23)
     by_cases c24 : 0 ≤ x4_1
     rotate_left
     · rw [if_neg c24] at H
       exact absurd H (by simp)
     rw [if_pos c24] at H
     have c24b0 : decide (0 ≤ x4_1) = true := decide_eq_true c24
     clear c24
     replace H := Option.bind_eq_some_iff.mp H
     obtain ⟨t316, A250, H⟩ := H
     replace H : (if (x3_1 ++ (⟨#[32, 97, 110, 100, 32]⟩ : ByteArray)).size + t316.size ≤ 9223372036854775807 then (hurdleref10_Line.l0 k1 ((x3_1 ++ (⟨#[32, 97, 110, 100, 32]⟩ : ByteArray)) ++ t316) (wrap64 (x4_1 + 1)) a0_0 a0_1 l0_2 a0_3) else (none)) = some r := H
     have A25 := aM A250
     clear A250
     by_cases c26 : (x3_1 ++ (⟨#[32, 97, 110, 100, 32]⟩ : ByteArray)).size + t316.size ≤ 9223372036854775807
     rotate_left
     · rw [if_neg c26] at H
       exact absurd H (by simp)
     rw [if_pos c26] at H
     have c26b0 := eq_true c26
     have c26b1 : decide ((x3_1 ++ (⟨#[32, 97, 110, 100, 32]⟩ : ByteArray)).size + t316.size ≤ 9223372036854775807) = true := decide_eq_true c26
     try have c26b2 : (9223372036854775807 < (x3_1 ++ (⟨#[32, 97, 110, 100, 32]⟩ : ByteArray)).size + t316.size) = False := eq_false (Nat.not_lt.2 c26)
     try have c26b3 : (9223372036854775807 < x3_1.size + 5 + t316.size) = False := by have h := c26b2; simp only [ByteArray.size_append] at h; exact h
     have H' := aM H
     clear H
     have hcz27_0 : wr.cell? ⟨gb309, 0, none⟩ = some (.int .u32 a0_0) := (blk_cell BK309.out 0).trans rfl
     have hcz27_1 : wr.cell? ⟨gb309, 1, none⟩ = some (.int .u32 a0_1) := (blk_cell BK309.out 1).trans rfl
     have hcz27_2 : wr.cell? ⟨gb309, 2, none⟩ = some (.slice A0_2 l0_2.length c0_2) := (blk_cell BK309.out 2).trans rfl
     have hcz27_3 : wr.cell? ⟨gb309, 3, none⟩ = some (.int .u32 a0_3) := (blk_cell BK309.out 3).trans rfl
     have hfz27_0 := blk_frozen BK309.out 0
     have hfz27_1 := blk_frozen BK309.out 1
     have hfz27_2 := blk_frozen BK309.out 2
     have hfz27_3 := blk_frozen BK309.out 3
     have p315 : 0 ≤ (x4_1 : Int) := of_decide_eq_true as_
     have q315 : x4_1 < (l0_2.length : Int) := of_decide_eq_true as_
     obtain ⟨ad315, e315, hx315_0, hx315_1, hx315_2, hx315_3⟩ := at_T61 HR0_2.out x4_1 p315 q315
     cases e315
     replace hx315_0 := (HB.out.cell (World.block_lt_of_cell? w _ hx315_0)).trans hx315_0
     replace hx315_1 := (HB.out.cell (World.block_lt_of_cell? w _ hx315_1)).trans hx315_1
     replace hx315_2 := (HB.out.cell (World.block_lt_of_cell? w _ hx315_2)).trans hx315_2
     replace hx315_3 := (HB.out.cell (World.block_lt_of_cell? w _ hx315_3)).trans hx315_3
     replace p315 := eq_true p315
     replace q315 := eq_true q315
     go_wp2_with (first | ((with_reducible refine gate_callee (f := 58) rfl ?_); refine goesL_ (some 46) rfl rfl Try.func58 kR rfl #[.agg #[.int .i64 ((rd_T61 l0_2 x4_1).f0), .int .i64 ((rd_T61 l0_2 x4_1).f1), .int .u64 ((rd_T61 l0_2 x4_1).f2), .int .u64 ((rd_T61 l0_2 x4_1).f3)]] rfl mpA ?_; (with_reducible refine (hurdleref08_Print.calls ((rd_T61 l0_2 x4_1).f0) ((rd_T61 l0_2 x4_1).f1) ((rd_T61 l0_2 x4_1).f2) ((rd_T61 l0_2 x4_1).f3) t316 _ A25.out).mono ?_); rintro e w28 ⟨rfl, hb⟩; refine ⟨_, rfl, ?_⟩; have n0_ := aM (blk_below (g := gb309) (o := .cells #[.int .u32 a0_0, .int .u32 a0_1, .slice (some ad315) l0_2.length c0_2, .int .u32 a0_3] 40 (0, 0)) (bkS BK309.out) hb); have n1_ := aM (below_step (bl1 GE309.out) hb); clear BK309; clear HB; have BK309 := n0_; have HB := n1_; clear n0_ n1_; (try clear hb); (try clear hb2); (try clear hk); (try clear hi)))
     go_roundg k1
     case measure => have := HK1.out; omega
     case rel => exact ⟨((x3_1 ++ (⟨#[32, 97, 110, 100, 32]⟩ : ByteArray)) ++ t316), (wrap64 (x4_1 + 1)), (by first | rfl | (simp; done) | (simp [*]; done)), (by first | rfl | (simp; done) | (simp [*]; done)), H', ⟨by have := HK1.out; omega⟩, ⟨by refine bkS ?_; exact BK309.out⟩, ⟨bl1 GE309.out⟩⟩
   rw [if_pos c16] at H
   have c16b0 : (x4_1 == 0) = true := beq_iff_eq.mpr c16
   have c16b1 : (x4_1 != 0) = false := bne_eq_false_iff_eq.mpr c16
   clear c16
   by_cases c17 : x3_1.size + 4 ≤ 9223372036854775807
   rotate_left
   · rw [if_neg c17] at H
     exact absurd H (by simp)
   rw [if_pos c17] at H
   have c17b0 := eq_true c17
   have c17b1 : decide (x3_1.size + 4 ≤ 9223372036854775807) = true := decide_eq_true c17
   try have c17b2 : (9223372036854775807 < x3_1.size + 4) = False := eq_false (Nat.not_lt.2 c17)
   by_cases c18 : 0 ≤ x4_1
   rotate_left
   · rw [if_neg c18] at H
     exact absurd H (by simp)
   rw [if_pos c18] at H
   have c18b0 : decide (0 ≤ x4_1) = true := decide_eq_true c18
   clear c18
   replace H := Option.bind_eq_some_iff.mp H
   obtain ⟨t314, A190, H⟩ := H
   replace H : (if (x3_1 ++ (⟨#[32, 105, 102, 32]⟩ : ByteArray)).size + t314.size ≤ 9223372036854775807 then (hurdleref10_Line.l0 k1 ((x3_1 ++ (⟨#[32, 105, 102, 32]⟩ : ByteArray)) ++ t314) (wrap64 (x4_1 + 1)) a0_0 a0_1 l0_2 a0_3) else (none)) = some r := H
   have A19 := aM A190
   clear A190
   by_cases c20 : (x3_1 ++ (⟨#[32, 105, 102, 32]⟩ : ByteArray)).size + t314.size ≤ 9223372036854775807
   rotate_left
   · rw [if_neg c20] at H
     exact absurd H (by simp)
   rw [if_pos c20] at H
   have c20b0 := eq_true c20
   have c20b1 : decide ((x3_1 ++ (⟨#[32, 105, 102, 32]⟩ : ByteArray)).size + t314.size ≤ 9223372036854775807) = true := decide_eq_true c20
   try have c20b2 : (9223372036854775807 < (x3_1 ++ (⟨#[32, 105, 102, 32]⟩ : ByteArray)).size + t314.size) = False := eq_false (Nat.not_lt.2 c20)
   try have c20b3 : (9223372036854775807 < x3_1.size + 4 + t314.size) = False := by have h := c20b2; simp only [ByteArray.size_append] at h; exact h
   have H' := aM H
   clear H
   have hcz21_0 : wr.cell? ⟨gb309, 0, none⟩ = some (.int .u32 a0_0) := (blk_cell BK309.out 0).trans rfl
   have hcz21_1 : wr.cell? ⟨gb309, 1, none⟩ = some (.int .u32 a0_1) := (blk_cell BK309.out 1).trans rfl
   have hcz21_2 : wr.cell? ⟨gb309, 2, none⟩ = some (.slice A0_2 l0_2.length c0_2) := (blk_cell BK309.out 2).trans rfl
   have hcz21_3 : wr.cell? ⟨gb309, 3, none⟩ = some (.int .u32 a0_3) := (blk_cell BK309.out 3).trans rfl
   have hfz21_0 := blk_frozen BK309.out 0
   have hfz21_1 := blk_frozen BK309.out 1
   have hfz21_2 := blk_frozen BK309.out 2
   have hfz21_3 := blk_frozen BK309.out 3
   have p313 : 0 ≤ (x4_1 : Int) := of_decide_eq_true as_
   have q313 : x4_1 < (l0_2.length : Int) := of_decide_eq_true as_
   obtain ⟨ad313, e313, hx313_0, hx313_1, hx313_2, hx313_3⟩ := at_T61 HR0_2.out x4_1 p313 q313
   cases e313
   replace hx313_0 := (HB.out.cell (World.block_lt_of_cell? w _ hx313_0)).trans hx313_0
   replace hx313_1 := (HB.out.cell (World.block_lt_of_cell? w _ hx313_1)).trans hx313_1
   replace hx313_2 := (HB.out.cell (World.block_lt_of_cell? w _ hx313_2)).trans hx313_2
   replace hx313_3 := (HB.out.cell (World.block_lt_of_cell? w _ hx313_3)).trans hx313_3
   replace p313 := eq_true p313
   replace q313 := eq_true q313
   go_wp2_with (first | ((with_reducible refine gate_callee (f := 58) rfl ?_); refine goesL_ (some 37) rfl rfl Try.func58 kR rfl #[.agg #[.int .i64 ((rd_T61 l0_2 x4_1).f0), .int .i64 ((rd_T61 l0_2 x4_1).f1), .int .u64 ((rd_T61 l0_2 x4_1).f2), .int .u64 ((rd_T61 l0_2 x4_1).f3)]] rfl mpA ?_; (with_reducible refine (hurdleref08_Print.calls ((rd_T61 l0_2 x4_1).f0) ((rd_T61 l0_2 x4_1).f1) ((rd_T61 l0_2 x4_1).f2) ((rd_T61 l0_2 x4_1).f3) t314 _ A19.out).mono ?_); rintro e w22 ⟨rfl, hb⟩; refine ⟨_, rfl, ?_⟩; have n0_ := aM (blk_below (g := gb309) (o := .cells #[.int .u32 a0_0, .int .u32 a0_1, .slice (some ad313) l0_2.length c0_2, .int .u32 a0_3] 40 (0, 0)) (bkS BK309.out) hb); have n1_ := aM (below_step (bl1 GE309.out) hb); clear BK309; clear HB; have BK309 := n0_; have HB := n1_; clear n0_ n1_; (try clear hb); (try clear hb2); (try clear hk); (try clear hi)))
   go_roundg k1
   case measure => have := HK1.out; omega
   case rel => exact ⟨((x3_1 ++ (⟨#[32, 105, 102, 32]⟩ : ByteArray)) ++ t314), (wrap64 (x4_1 + 1)), (by first | rfl | (simp; done) | (simp [*]; done)), (by first | rfl | (simp; done) | (simp [*]; done)), H', ⟨by have := HK1.out; omega⟩, ⟨by refine bkS ?_; exact BK309.out⟩, ⟨bl1 GE309.out⟩⟩
end Go.Proofs.Ytekpbgmmogpbdaa.P
namespace Go.Proofs.Ytekpbgmmogpbdaa.P
open Go.RowKit Go.Proofs.Ytekpbgmmogpbdaa.H Go.Proofs.YtekpbgmmogpbdaaW.PrintWords Go.Proofs.YtekpbgmmogpbdaaW.PrintLast Go.Proofs.YtekpbgmmogpbdaaW.PrintMore
attribute [local go_sem] max2_int min2_int max_two min_two max_three min_three max_four min_four
def hurdleref02_Cut.l0 : Nat → ByteArray → Int → List ByteArray → ByteArray → Int → Option (List ByteArray)
 | 0, _, _, _, _, _ => none
 | k + 1, x0, x1, x5, x6, x7 => if x7 < (x0.size : Int) then (if 0 ≤ x7 then (if (bt x0 x7) = x1 then (if x5.length < 8796093022208 then (hurdleref02_Cut.l0 k x0 x1 (x5 ++ [x6]) (⟨#[]⟩ : ByteArray) (wrap64 (x7 + 1))) else (none)) else (if x7 ≤ (wrap64 (x7 + 1)) then (if (wrap64 (x7 + 1)) ≤ (x0.size : Int) then (if x6.size + (x0.extract (x7 : Int).toNat ((wrap64 (x7 + 1)) : Int).toNat).size ≤ 9223372036854775807 then (hurdleref02_Cut.l0 k x0 x1 x5 (x6 ++ (x0.extract (x7 : Int).toNat ((wrap64 (x7 + 1)) : Int).toNat)) (wrap64 (x7 + 1))) else (none)) else (none)) else (none))) else (none)) else (if x5.length < 8796093022208 then (some (x5 ++ [x6])) else (none))
def hurdleref02_Cut.f (k : Nat) (a0 : ByteArray) (a1 : Int) : Option (List ByteArray) := hurdleref02_Cut.l0 k a0 a1 ([] : List ByteArray) (⟨#[]⟩ : ByteArray) 0
set_option maxHeartbeats 8000000 in
set_option maxRecDepth 100000 in
theorem hurdleref02_Cut.calls (k : Nat) (a0 : ByteArray) (a1 : Int) (r : List ByteArray) (w : World) (h : hurdleref02_Cut.f k a0 a1 = some r) :
 Calls Try.prog 41 #[.string a0, .int .u8 a1] w fun e w' => ∃ v0_ : Value, e = .returned (v0_) ∧ Kd.R Kd.string 9 w' w.heap.size (fun _ => True) v0_ r ∧ Below w.heap.size w w' := by
 have HB := aM (Below.refl w.heap.size w)
 have H : (hurdleref02_Cut.l0 k a0 a1 ([] : List ByteArray) (⟨#[]⟩ : ByteArray) 0) = some r := h
 clear h
 have H' := aM H
 clear H
 go_enter Try.func41, Try.ntmps41
 go_wp2
 go_loopg [5, 6, 7] k (fun kq v5 v6 v7 w' => ∃ (x5_1 : List ByteArray) (x6_1 : ByteArray) (x7_1 : Int), v6 = .string x6_1 ∧ v7 = .int .i64 x7_1 ∧ Aside0 (hurdleref02_Cut.l0 kq a0 a1 x5_1 x6_1 x7_1 = some r) ∧ Aside0 (kq ≤ k) ∧ Aside0 (Kd.R Kd.string 9 w' w.heap.size (fun _ => True) v5 x5_1) ∧ Aside0 (Below w.heap.size w w'))
 case atStart => exact ⟨(([] : List ByteArray)), ((⟨#[]⟩ : ByteArray)), (0), (by first | rfl | (simp; done) | (simp [*]; done)), (by first | rfl | (simp; done) | (simp [*]; done)), H', ⟨Nat.le_refl _⟩, ⟨by first | exact Kd.R_nil _ _ _ _ _ | exact Kd.N_nil _ _ _ _ _ | exact Kd.V_nil _ _ _ _ _ | exact Kd.Q_nil _ _ _ _ _ | exact Kd.S_nil _ _ _ _ _⟩, ⟨bl0⟩⟩
 case round =>
  clear H'
  try clear p2
  obtain ⟨x5_1, x6_1, x7_1, rfl, rfl, HA, HK1, HO_5, HB⟩ := hrel
  cases gk with
  | zero => exact absurd HA.out (by simp [hurdleref02_Cut.l0])
  | succ k1 =>
   have H := HA.out
   clear HA
   simp only [hurdleref02_Cut.l0] at H
   by_cases c3 : x7_1 < (a0.size : Int)
   rotate_left
   · rw [if_neg c3] at H
     have c3b0 : decide (x7_1 < (a0.size : Int)) = false := decide_eq_false c3
     clear c3
     by_cases c13 : x5_1.length < 8796093022208
     rotate_left
     · rw [if_neg c13] at H
       exact absurd H (by simp)
     rw [if_pos c13] at H
     have LMc13 := aM c13
     clear c13
     obtain ⟨y334, hy334⟩ : ∃ y_ : List ByteArray, y_ = (x5_1 ++ [x6_1]) := ⟨_, rfl⟩
     replace H : (some y334) = some r := by first | (rw [hy334]; with_reducible exact H) | (have H2_ := (Option.bind_some _ _).symm.trans H; rw [hy334]; with_reducible exact H2_) | (have H2_ := (Option.bind_some _ _).symm.trans H; with_reducible exact H2_) | with_reducible exact H | (rw [hy334]; exact H) | exact H
     have Ny334 := aM hy334
     clear hy334
     obtain rfl := Option.some.inj H
     go_wp2_with (first | ((with_reducible refine gate_builtin (b := .append) (xs := #[.tmp 30, .tmp 32]) rfl ?_); at_builtin; refine Kd.R_append Kd.string (w0 := w) w.heap.size rfl (.tmp 30) (.tmp 32) 70 9 (.string ⟨#[]⟩) 16 rfl Try.underlying70 info9 rfl (by decide) (by omega) u5 x5_1 x6_1 [.string x6_1] (fun _ => True) (fun _ => False) rfl rfl ?aP (fun _ hk => hk.elim) ?aF ?aO ?aB ?aS ?aL ?_; (case aP => exact rfl); (case aB => exact bl0); (case aF => exact (fun _ _ => trivial)); (case aO => exact (rdS HO_5.out)); (case aS => exact (below_size bl0)); (case aL => have := LMc13.out; omega); intro v335 w14 ho hb hg hat; rw [← Ny334.out] at ho; have n0_ := aM (hb); have n1_ := aM (ho); clear HB; clear HO_5; have HB := n0_; have HO336 := n1_; clear n0_ n1_; clear ho hb hg hat))
     go_ret
     exact ⟨_, erA, by refine rdS ?_; exact HO336.out, bl0⟩
   rw [if_pos c3] at H
   have c3b0 : decide (x7_1 < (a0.size : Int)) = true := decide_eq_true c3
   clear c3
   by_cases c4 : 0 ≤ x7_1
   rotate_left
   · rw [if_neg c4] at H
     exact absurd H (by simp)
   rw [if_pos c4] at H
   have c4b0 : decide (0 ≤ x7_1) = true := decide_eq_true c4
   clear c4
   by_cases c6 : (bt a0 x7_1) = a1
   · rw [if_pos c6] at H
     have c6b0 : ((bt a0 x7_1) == a1) = true := beq_iff_eq.mpr c6
     have c6b1 : ((bt a0 x7_1) != a1) = false := bne_eq_false_iff_eq.mpr c6
     clear c6
     by_cases c7 : x5_1.length < 8796093022208
     rotate_left
     · rw [if_neg c7] at H
       exact absurd H (by simp)
     rw [if_pos c7] at H
     have LMc7 := aM c7
     clear c7
     obtain ⟨y331, hy331⟩ : ∃ y_ : List ByteArray, y_ = (x5_1 ++ [x6_1]) := ⟨_, rfl⟩
     replace H : (hurdleref02_Cut.l0 k1 a0 a1 y331 (⟨#[]⟩ : ByteArray) (wrap64 (x7_1 + 1))) = some r := by first | (rw [hy331]; with_reducible exact H) | (have H2_ := (Option.bind_some _ _).symm.trans H; rw [hy331]; with_reducible exact H2_) | (have H2_ := (Option.bind_some _ _).symm.trans H; with_reducible exact H2_) | with_reducible exact H | (rw [hy331]; exact H) | exact H
     have Ny331 := aM hy331
     clear hy331
     have H' := aM H
     clear H
     have p5 : 0 ≤ (x7_1 : Int) := of_decide_eq_true as_
     have q5 : x7_1 < (a0.size : Int) := of_decide_eq_true as_
     have hx5 := bt_at a0 x7_1
     replace p5 := eq_true p5
     replace q5 := eq_true q5
     go_wp2_with (first | ((with_reducible refine gate_builtin (b := .append) (xs := #[.tmp 19, .tmp 21]) rfl ?_); at_builtin; refine Kd.R_append Kd.string (w0 := w) w.heap.size rfl (.tmp 19) (.tmp 21) 70 9 (.string ⟨#[]⟩) 16 rfl Try.underlying70 info9 rfl (by decide) (by omega) u5 x5_1 x6_1 [.string x6_1] (fun _ => True) (fun _ => False) rfl rfl ?aP (fun _ hk => hk.elim) ?aF ?aO ?aB ?aS ?aL ?_; (case aP => exact rfl); (case aB => exact bl0); (case aF => exact (fun _ _ => trivial)); (case aO => exact (rdS HO_5.out)); (case aS => exact (below_size bl0)); (case aL => have := LMc7.out; omega); intro v332 w8 ho hb hg hat; rw [← Ny331.out] at ho; have n0_ := aM (hb); have n1_ := aM (ho); clear HB; clear HO_5; have HB := n0_; have HO333 := n1_; clear n0_ n1_; clear ho hb hg hat))
     go_roundg k1
     case measure => have := HK1.out; omega
     case rel => exact ⟨(y331), ((⟨#[]⟩ : ByteArray)), (wrap64 (x7_1 + 1)), (by first | rfl | (simp; done) | (simp [*]; done)), (by first | rfl | (simp; done) | (simp [*]; done)), H', ⟨by have := HK1.out; omega⟩, ⟨by refine rdS ?_; exact HO333.out⟩, ⟨bl0⟩⟩
   rw [if_neg c6] at H
   have c6b0 : ((bt a0 x7_1) == a1) = false := beq_eq_false_iff_ne.mpr c6
   have c6b1 : ((bt a0 x7_1) != a1) = true := bne_iff_ne.mpr c6
   have c9b0 := eq_true (of_decide_eq_true as_ : 0 ≤ x7_1)
   by_cases c10 : x7_1 ≤ (wrap64 (x7_1 + 1))
   rotate_left
   · rw [if_neg c10] at H
     exact absurd H (by simp)
   rw [if_pos c10] at H
   have c10b0 := eq_true c10
   have c10b1 : decide (x7_1 ≤ (wrap64 (x7_1 + 1))) = true := decide_eq_true c10
   by_cases c11 : (wrap64 (x7_1 + 1)) ≤ (a0.size : Int)
   rotate_left
   · rw [if_neg c11] at H
     exact absurd H (by simp)
   rw [if_pos c11] at H
   have c11b0 := eq_true c11
   have c11b1 : decide ((wrap64 (x7_1 + 1)) ≤ (a0.size : Int)) = true := decide_eq_true c11
   by_cases c12 : x6_1.size + (a0.extract (x7_1 : Int).toNat ((wrap64 (x7_1 + 1)) : Int).toNat).size ≤ 9223372036854775807
   rotate_left
   · rw [if_neg c12] at H
     exact absurd H (by simp)
   rw [if_pos c12] at H
   have c12b0 := eq_true c12
   have c12b1 : decide (x6_1.size + (a0.extract (x7_1 : Int).toNat ((wrap64 (x7_1 + 1)) : Int).toNat).size ≤ 9223372036854775807) = true := decide_eq_true c12
   try have c12b2 : (9223372036854775807 < x6_1.size + (a0.extract (x7_1 : Int).toNat ((wrap64 (x7_1 + 1)) : Int).toNat).size) = False := eq_false (Nat.not_lt.2 c12)
   have H' := aM H
   clear H
   have p5 : 0 ≤ (x7_1 : Int) := of_decide_eq_true as_
   have q5 : x7_1 < (a0.size : Int) := of_decide_eq_true as_
   have hx5 := bt_at a0 x7_1
   replace p5 := eq_true p5
   replace q5 := eq_true q5
   go_wp2
   go_roundg k1
   case measure => have := HK1.out; omega
   case rel => exact ⟨(x5_1), (x6_1 ++ (a0.extract (x7_1 : Int).toNat ((wrap64 (x7_1 + 1)) : Int).toNat)), (wrap64 (x7_1 + 1)), (by first | rfl | (simp; done) | (simp [*]; done)), (by first | rfl | (simp; done) | (simp [*]; done)), H', ⟨by have := HK1.out; omega⟩, ⟨by refine rdS ?_; exact HO_5.out⟩, ⟨bl0⟩⟩
mutual
def hurdleref09_ReadAction.l0 : Nat → ByteArray → List Int → Int → Option (Int × Bool)
 | 0, _, _, _ => none
 | k + 1, x0, x4, x5 => if x5 < 4 then (if 0 ≤ x5 then (if x5 < (x4.length : Int) then ((hurdleref09_Action.f k (rd x4 x5)).bind fun t341 => (if t341.toList = x0.toList then (some (rd x4 x5, true)) else (hurdleref09_ReadAction.l0 k x0 x4 (wrap64 (x5 + 1))))) else (none)) else (none)) else (hurdleref09_ReadAction.l1 k x0 0)
def hurdleref09_ReadAction.l1 : Nat → ByteArray → Int → Option (Int × Bool)
 | 0, _, _ => none
 | k + 1, x0, x6 => if x6 < 4096 then (if (x0.size : Int) > 6 then ((hurdleref09_Action.f k ((327680 + x6) % 4294967296)).bind fun t343 => (if t343.toList = x0.toList then (some ((327680 + x6) % 4294967296, true)) else (hurdleref09_ReadAction.l1 k x0 ((x6 + 1) % 4294967296)))) else (hurdleref09_ReadAction.l1 k x0 ((x6 + 1) % 4294967296))) else (some (0, false))
end
def hurdleref09_ReadAction.f (k : Nat) (a0 : ByteArray) : Option (Int × Bool) := hurdleref09_ReadAction.l0 k a0 (([0, 196608, 2147221504, 2147418112] : List Int)) 0
theorem hurdleref09_ReadAction.mono_l : ∀ k, (∀ y0 y1 y2, LeO (hurdleref09_ReadAction.l0 k y0 y1 y2) (hurdleref09_ReadAction.l0 (k + 1) y0 y1 y2)) ∧ (∀ y0 y1, LeO (hurdleref09_ReadAction.l1 k y0 y1) (hurdleref09_ReadAction.l1 (k + 1) y0 y1))
 | 0 => ⟨fun _ _ _ r h => by simp [hurdleref09_ReadAction.l0] at h, fun _ _ r h => by simp [hurdleref09_ReadAction.l1] at h⟩
 | k + 1 => by
  obtain ⟨ih0, ih1⟩ := hurdleref09_ReadAction.mono_l k
  refine ⟨?_, ?_⟩
  · intro y0 y1 y2
    unfold hurdleref09_ReadAction.l0
    repeat' first
    | (with_reducible exact ih0 _ _ _)
    | (with_reducible exact ih1 _ _)
    | (with_reducible exact hurdleref09_Action.mono _ _)
    | (with_reducible exact LeO.refl _)
    | (with_reducible exact LeO.none _)
    | (with_reducible refine LeO.ite ?_ ?_)
    | (with_reducible refine LeO.bind ?_ (fun _ => ?_))
    | exact ih0 _ _ _
    | exact ih1 _ _
    | exact hurdleref09_Action.mono _ _
    | exact LeO.none _
    | refine LeO.ite ?_ ?_
    | refine LeO.bind ?_ (fun _ => ?_)
  · intro y0 y1
    unfold hurdleref09_ReadAction.l1
    repeat' first
    | (with_reducible exact ih0 _ _ _)
    | (with_reducible exact ih1 _ _)
    | (with_reducible exact hurdleref09_Action.mono _ _)
    | (with_reducible exact LeO.refl _)
    | (with_reducible exact LeO.none _)
    | (with_reducible refine LeO.ite ?_ ?_)
    | (with_reducible refine LeO.bind ?_ (fun _ => ?_))
    | exact ih0 _ _ _
    | exact ih1 _ _
    | exact hurdleref09_Action.mono _ _
    | exact LeO.none _
    | refine LeO.ite ?_ ?_
    | refine LeO.bind ?_ (fun _ => ?_)
theorem hurdleref09_ReadAction.mono : ∀ a0 k, LeO (hurdleref09_ReadAction.f k a0) (hurdleref09_ReadAction.f (k + 1) a0) := by
 intro a0 k
 obtain ⟨ih0, ih1⟩ := hurdleref09_ReadAction.mono_l k
 unfold hurdleref09_ReadAction.f
 repeat' first
  | (with_reducible exact ih0 _ _ _)
  | (with_reducible exact ih1 _ _)
  | (with_reducible exact hurdleref09_Action.mono _ _)
  | (with_reducible exact LeO.refl _)
  | (with_reducible exact LeO.none _)
  | (with_reducible refine LeO.ite ?_ ?_)
  | (with_reducible refine LeO.bind ?_ (fun _ => ?_))
  | exact ih0 _ _ _
  | exact ih1 _ _
  | exact hurdleref09_Action.mono _ _
  | exact LeO.none _
  | refine LeO.ite ?_ ?_
  | refine LeO.bind ?_ (fun _ => ?_)
set_option maxHeartbeats 8000000 in
set_option maxRecDepth 100000 in
theorem hurdleref09_ReadAction.calls (k : Nat) (a0 : ByteArray) (r1 : Int) (r2 : Bool) (w : World) (h : hurdleref09_ReadAction.f k a0 = some (r1, r2)) :
 Calls Try.prog 43 #[.string a0] w fun e w' => e = .returned (.tuple #[.int .u32 r1, .bool r2]) ∧ Below w.heap.size w w' := by
 have HB := aM (Below.refl w.heap.size w)
 have H : (hurdleref09_ReadAction.l0 k a0 (([0, 196608, 2147221504, 2147418112] : List Int)) 0) = some (r1, r2) := h
 clear h
 obtain ⟨y337, hy337⟩ : ∃ y_ : List Int, y_ = (([0, 196608, 2147221504, 2147418112] : List Int)) := ⟨_, rfl⟩
 replace H : (hurdleref09_ReadAction.l0 k a0 y337 0) = some (r1, r2) := by first | (rw [hy337]; with_reducible exact H) | (have H2_ := (Option.bind_some _ _).symm.trans H; rw [hy337]; with_reducible exact H2_) | (have H2_ := (Option.bind_some _ _).symm.trans H; with_reducible exact H2_) | with_reducible exact H | (rw [hy337]; exact H) | exact H
 have Ny337 := aM hy337
 clear hy337
 have H' := aM H
 clear H
 go_enter Try.func43, Try.ntmps43
 go_wp2_with (first | ((with_reducible refine gate_dst (N := 7) rfl ?_); refine Kd.R_lit (Kd.int .u32) _ 23 ?hg (N := 7) ?hd (xs := ([0, 196608, 2147221504, 2147418112] : List Int)) (inner := [.int .u32 0, .int .u32 196608, .int .u32 2147221504, .int .u32 2147418112]) (ok := fun _ => True) (okp := fun _ => True) ?hr ?hp (fun _ hk => hk) trivial (Below.refl _ _) (Nat.le_refl _) (by simp) ?_; (case hd => rfl); (case hg => rfl); (case hr => first | (go_simp; done) | (go_simp; rfl)); (case hp => exact (Reps.one (show Kd.M (Kd.int .u32) _ _ _ 0 [.int .u32 0] from rfl) (Reps.one (show Kd.M (Kd.int .u32) _ _ _ 196608 [.int .u32 196608] from rfl) (Reps.one (show Kd.M (Kd.int .u32) _ _ _ 2147221504 [.int .u32 2147221504] from rfl) (Reps.one (show Kd.M (Kd.int .u32) _ _ _ 2147418112 [.int .u32 2147418112] from rfl) (Reps.none _ _)))))); intro v338 w2 ho3 hb hg_ hnew_; clear hg_ hnew_; (first | rw [← Ny337.out] at ho3 | (simp only [Int.reduceToNat] at ho3; rw [← Ny337.out] at ho3)); have n0_ := aM (Kd.R_lower ho3 (below_size bl0)); have n1_ := aM (below_step bl0 hb); clear HB; have HO339 := n0_; have HB := n1_; clear n0_ n1_; clear hb ho3))
 go_loopg [5] k (fun kq v5 w' => ∃ (x5_1 : Int), v5 = .int .i64 x5_1 ∧ Aside0 (hurdleref09_ReadAction.l0 kq a0 y337 x5_1 = some (r1, r2)) ∧ Aside0 (kq ≤ k) ∧ Aside0 (Kd.R (Kd.int .u32) 23 w' w.heap.size (fun _ => True) v338 y337) ∧ Aside0 (Below w.heap.size w w'))
 case atStart => exact ⟨(0), (by first | rfl | (simp; done) | (simp [*]; done)), H', ⟨Nat.le_refl _⟩, ⟨by refine rdS ?_; exact HO339.out⟩, ⟨bl0⟩⟩
 case round =>
  clear H'
  try clear p2
  obtain ⟨x5_1, rfl, HA, HK1, HO_4, HB⟩ := hrel
  cases gk with
  | zero => exact absurd HA.out (by simp [hurdleref09_ReadAction.l0])
  | succ k1 =>
   have H := HA.out
   clear HA
   simp only [hurdleref09_ReadAction.l0] at H
   by_cases c4 : x5_1 < 4
   · rw [if_pos c4] at H
     have c4b0 : decide (x5_1 < 4) = true := decide_eq_true c4
     clear c4
     by_cases c5 : 0 ≤ x5_1
     rotate_left
     · rw [if_neg c5] at H
       exact absurd H (by simp)
     rw [if_pos c5] at H
     have c5b0 : decide (0 ≤ x5_1) = true := decide_eq_true c5
     clear c5
     by_cases c6 : x5_1 < (y337.length : Int)
     rotate_left
     · rw [if_neg c6] at H
       exact absurd H (by simp)
     rw [if_pos c6] at H
     have c6b0 : decide (x5_1 < (y337.length : Int)) = true := decide_eq_true c6
     clear c6
     replace H := Option.bind_eq_some_iff.mp H
     obtain ⟨t341, A70, H⟩ := H
     replace H : (if t341.toList = a0.toList then (some (rd y337 x5_1, true)) else (hurdleref09_ReadAction.l0 k1 a0 y337 (wrap64 (x5_1 + 1)))) = some (r1, r2) := H
     have A7 := aM A70
     clear A70
     by_cases c8 : t341.toList = a0.toList
     · rw [if_pos c8] at H
       have c8b0 : (t341.toList == a0.toList) = true := beq_iff_eq.mpr c8
       have c8b1 : (t341.toList != a0.toList) = false := bne_eq_false_iff_eq.mpr c8
       clear c8
       simp only [Option.some.injEq, Prod.mk.injEq] at H
       obtain ⟨rfl, rfl⟩ := H
       obtain ⟨Ao9, co9, eo9⟩ := Kd.R_slice HO_4.out
       subst eo9
       have p340 : 0 ≤ (x5_1 : Int) := of_decide_eq_true as_
       have q340 : x5_1 < (y337.length : Int) := of_decide_eq_true as_
       obtain ⟨ad340, e340, hx340_0⟩ := Kd.at_int (Kd.R_reads' HO_4.out).2.2 x5_1 p340 q340
       cases e340
       replace p340 := eq_true p340
       replace q340 := eq_true q340
       go_wp2_with (first | ((with_reducible refine gate_callee (f := 33) rfl ?_); refine goesL_ (some 16) rfl rfl Try.func33 kR rfl #[.int .u32 (rd y337 x5_1)] rfl mpA ?_; (with_reducible refine (hurdleref09_Action.calls k1 (rd y337 x5_1) t341 _ A7.out).mono ?_); rintro e w10 ⟨rfl, hb⟩; refine ⟨_, rfl, ?_⟩; have n0_ := aM (Kd.R_below (rdS HO_4.out) hb); have n1_ := aM (below_step bl0 hb); clear HO_4; clear HB; have HO_4 := n0_; have HB := n1_; clear n0_ n1_; (try clear hb); (try clear hb2); (try clear hk); (try clear hi); have p342 : 0 ≤ (x5_1 : Int) := of_decide_eq_true as_; have q342 : x5_1 < (y337.length : Int) := of_decide_eq_true as_; obtain ⟨ad342, e342, hx342_0⟩ := Kd.at_int (Kd.R_reads' HO_4.out).2.2 x5_1 p342 q342; obtain rfl : ad340 = ad342 := (by injection e342); replace p342 := eq_true p342; replace q342 := eq_true q342))
       go_ret2
       exact ⟨erA, bl0⟩
     rw [if_neg c8] at H
     have c8b0 : (t341.toList == a0.toList) = false := beq_eq_false_iff_ne.mpr c8
     have c8b1 : (t341.toList != a0.toList) = true := bne_iff_ne.mpr c8
     have H' := aM H
     clear H
     obtain ⟨Ao11, co11, eo11⟩ := Kd.R_slice HO_4.out
     subst eo11
     have p340 : 0 ≤ (x5_1 : Int) := of_decide_eq_true as_
     have q340 : x5_1 < (y337.length : Int) := of_decide_eq_true as_
     obtain ⟨ad340, e340, hx340_0⟩ := Kd.at_int (Kd.R_reads' HO_4.out).2.2 x5_1 p340 q340
     cases e340
     replace p340 := eq_true p340
     replace q340 := eq_true q340
     go_wp2_with (first | ((with_reducible refine gate_callee (f := 33) rfl ?_); refine goesL_ (some 16) rfl rfl Try.func33 kR rfl #[.int .u32 (rd y337 x5_1)] rfl mpA ?_; (with_reducible refine (hurdleref09_Action.calls k1 (rd y337 x5_1) t341 _ A7.out).mono ?_); rintro e w12 ⟨rfl, hb⟩; refine ⟨_, rfl, ?_⟩; have n0_ := aM (Kd.R_below (rdS HO_4.out) hb); have n1_ := aM (below_step bl0 hb); clear HO_4; clear HB; have HO_4 := n0_; have HB := n1_; clear n0_ n1_; (try clear hb); (try clear hb2); (try clear hk); (try clear hi)))
     go_roundg k1
     case measure => have := HK1.out; omega
     case rel => exact ⟨(wrap64 (x5_1 + 1)), (by first | rfl | (simp; done) | (simp [*]; done)), H', ⟨by have := HK1.out; omega⟩, ⟨by refine rdS ?_; exact HO_4.out⟩, ⟨bl0⟩⟩
   rw [if_neg c4] at H
   have c4b0 : decide (x5_1 < 4) = false := decide_eq_false c4
   clear c4
   have H' := aM H
   clear H
   go_wp2
   go_loopg [6] k1 (fun kq v6 w' => ∃ (x6_2 : Int), v6 = .int .u32 x6_2 ∧ Aside0 (hurdleref09_ReadAction.l1 kq a0 x6_2 = some (r1, r2)) ∧ Aside0 (kq ≤ k1) ∧ Aside0 (Below w.heap.size w w'))
   case atStart => exact ⟨(0), (by first | rfl | (simp; done) | (simp [*]; done)), H', ⟨Nat.le_refl _⟩, ⟨bl0⟩⟩
   case round =>
    clear H'
    try clear p2
    try clear c3
    try clear p3
    try clear q3
    try clear hx3
    try clear c4
    try clear c4b0
    try clear c5
    try clear c5b0
    try clear c6
    try clear c6b0
    try clear p6
    try clear c8
    try clear c8b0
    try clear c8b1
    try clear hx340_0
    try clear hx342_0
    try clear p2
    try clear p340
    try clear p342
    try clear q340
    try clear q342
    obtain ⟨x6_2, rfl, HA, HK2, HB⟩ := hrel
    cases gk with
    | zero => exact absurd HA.out (by simp [hurdleref09_ReadAction.l1])
    | succ k2 =>
     have H := HA.out
     clear HA
     simp only [hurdleref09_ReadAction.l1] at H
     by_cases c13 : x6_2 < 4096
     rotate_left
     · rw [if_neg c13] at H
       have c13b0 : decide (x6_2 < 4096) = false := decide_eq_false c13
       clear c13
       simp only [Option.some.injEq, Prod.mk.injEq] at H
       obtain ⟨rfl, rfl⟩ := H
       go_wp2
       go_ret2
       exact ⟨erA, bl0⟩
     rw [if_pos c13] at H
     have c13b0 : decide (x6_2 < 4096) = true := decide_eq_true c13
     clear c13
     by_cases c14 : (a0.size : Int) > 6
     rotate_left
     · rw [if_neg c14] at H
       have c14b0 : decide (6 < (a0.size : Int)) = false := decide_eq_false c14
       have c14b1 : decide (6 < a0.size) = false := decide_eq_false (by omega)
       clear c14
       have H' := aM H
       clear H
       go_wp2
       go_roundg k2
       case measure => have := HK1.out; have := HK2.out; omega
       case rel => exact ⟨((x6_2 + 1) % 4294967296), (by first | rfl | (simp; done) | (simp [*]; done)), H', ⟨by have := HK1.out; have := HK2.out; omega⟩, ⟨bl0⟩⟩
     rw [if_pos c14] at H
     have c14b0 : decide (6 < (a0.size : Int)) = true := decide_eq_true c14
     have c14b1 : decide (6 < a0.size) = true := decide_eq_true (by omega)
     clear c14
     replace H := Option.bind_eq_some_iff.mp H
     obtain ⟨t343, A150, H⟩ := H
     replace H : (if t343.toList = a0.toList then (some ((327680 + x6_2) % 4294967296, true)) else (hurdleref09_ReadAction.l1 k2 a0 ((x6_2 + 1) % 4294967296))) = some (r1, r2) := H
     have A15 := aM A150
     clear A150
     by_cases c16 : t343.toList = a0.toList
     · rw [if_pos c16] at H
       have c16b0 : (t343.toList == a0.toList) = true := beq_iff_eq.mpr c16
       have c16b1 : (t343.toList != a0.toList) = false := bne_eq_false_iff_eq.mpr c16
       clear c16
       simp only [Option.some.injEq, Prod.mk.injEq] at H
       obtain ⟨rfl, rfl⟩ := H
       go_wp2_with (first | (go_at_call 33; (with_reducible refine (hurdleref09_Action.calls k2 ((327680 + x6_2) % 4294967296) t343 _ A15.out).mono ?_); rintro e w17 ⟨rfl, hb⟩; have n0_ := aM (below_step bl0 hb); clear HB; have HB := n0_; clear n0_; (try clear hb); (try clear hb2); (try clear hk); (try clear hi)))
       go_ret2
       exact ⟨erA, bl0⟩
     rw [if_neg c16] at H
     have c16b0 : (t343.toList == a0.toList) = false := beq_eq_false_iff_ne.mpr c16
     have c16b1 : (t343.toList != a0.toList) = true := bne_iff_ne.mpr c16
     have H' := aM H
     clear H
     go_wp2_with (first | (go_at_call 33; (with_reducible refine (hurdleref09_Action.calls k2 ((327680 + x6_2) % 4294967296) t343 _ A15.out).mono ?_); rintro e w18 ⟨rfl, hb⟩; have n0_ := aM (below_step bl0 hb); clear HB; have HB := n0_; clear n0_; (try clear hb); (try clear hb2); (try clear hk); (try clear hi)))
     go_roundg k2
     case measure => have := HK1.out; have := HK2.out; omega
     case rel => exact ⟨((x6_2 + 1) % 4294967296), (by first | rfl | (simp; done) | (simp [*]; done)), H', ⟨by have := HK1.out; have := HK2.out; omega⟩, ⟨bl0⟩⟩
end Go.Proofs.Ytekpbgmmogpbdaa.P
