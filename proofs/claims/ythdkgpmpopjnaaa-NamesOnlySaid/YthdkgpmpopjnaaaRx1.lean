-- Written by hprint.py, a program of this seat's own, over hand-proved callees.
import Derived.Test.YthdkgpmpopjnaaaRx0
namespace Go.Proofs.Ythdkgpmpopjnaaa.R
open Go.RowKit Go.Proofs.Ythdkgpmpopjnaaa.H Go.Proofs.YthdkgpmpopjnaaaW.PrintWords Go.Proofs.YthdkgpmpopjnaaaW.PrintLast Go.Proofs.YthdkgpmpopjnaaaW.PrintMore
attribute [local go_sem] max2_int min2_int max_two min_two max_three min_three max_four min_four   -- for this text's walks alone
set_option linter.unusedVariables false
set_option linter.unusedSimpArgs false

/-! ### hurdleref09_Machines: function 50 -/
def hurdleref09_Machines.f  : Option (List ByteArray × List Int) := some ((([(⟨#[120, 54, 52]⟩ : ByteArray), (⟨#[120, 56, 54]⟩ : ByteArray), (⟨#[97, 54, 52]⟩ : ByteArray), (⟨#[97, 114, 109]⟩ : ByteArray)] : List ByteArray)), (([3221225534, 1073741827, 3221225655, 1073741864] : List Int)))
set_option maxHeartbeats 8000000 in
set_option maxRecDepth 100000 in
theorem hurdleref09_Machines.calls  (r1 : List ByteArray) (r2 : List Int) (w : World) (h : hurdleref09_Machines.f  = some (r1, r2)) :
    Calls Try.prog 50 #[] w fun e w' => ∃ v0_ v1_ : Value, e = .returned (.tuple #[v0_, v1_]) ∧ Kd.R Kd.string 9 w' w.heap.size (fun _ => True) v0_ r1 ∧ Kd.R (Kd.int .u32) 25 w' w.heap.size (fun _ => True) v1_ r2 ∧ Below w.heap.size w w' := by
  have HB := Aside0.mk (Below.refl w.heap.size w)
  have H : (some ((([(⟨#[120, 54, 52]⟩ : ByteArray), (⟨#[120, 56, 54]⟩ : ByteArray), (⟨#[97, 54, 52]⟩ : ByteArray), (⟨#[97, 114, 109]⟩ : ByteArray)] : List ByteArray)), (([3221225534, 1073741827, 3221225655, 1073741864] : List Int)))) = some (r1, r2) := h
  clear h
  obtain ⟨y101, hy101⟩ : ∃ y_ : List ByteArray, y_ = (([(⟨#[120, 54, 52]⟩ : ByteArray), (⟨#[120, 56, 54]⟩ : ByteArray), (⟨#[97, 54, 52]⟩ : ByteArray), (⟨#[97, 114, 109]⟩ : ByteArray)] : List ByteArray)) := ⟨_, rfl⟩
  replace H : (some (y101, (([3221225534, 1073741827, 3221225655, 1073741864] : List Int)))) = some (r1, r2) := by first | (rw [hy101]; with_reducible exact H) | (have H2_ := (Option.bind_some _ _).symm.trans H; rw [hy101]; with_reducible exact H2_) | (have H2_ := (Option.bind_some _ _).symm.trans H; with_reducible exact H2_) | with_reducible exact H | (rw [hy101]; exact H) | exact H
  have Ny101 := Aside0.mk hy101
  clear hy101
  obtain ⟨y104, hy104⟩ : ∃ y_ : List Int, y_ = (([3221225534, 1073741827, 3221225655, 1073741864] : List Int)) := ⟨_, rfl⟩
  replace H : (some (y101, y104)) = some (r1, r2) := by first | (rw [hy104]; with_reducible exact H) | (have H2_ := (Option.bind_some _ _).symm.trans H; rw [hy104]; with_reducible exact H2_) | (have H2_ := (Option.bind_some _ _).symm.trans H; with_reducible exact H2_) | with_reducible exact H | (rw [hy104]; exact H) | exact H
  have Ny104 := Aside0.mk hy104
  clear hy104
  simp only [Option.some.injEq, Prod.mk.injEq] at H
  obtain ⟨rfl, rfl⟩ := H
  go_enter Try.func50, Try.ntmps50
  go_wp2_with (first | ((with_reducible refine gate_dst (N := 2) rfl ?_); refine Kd.R_lit Kd.string _ 9 ?hg (N := 2) ?hd (xs := ([(⟨#[120, 54, 52]⟩ : ByteArray), (⟨#[120, 56, 54]⟩ : ByteArray), (⟨#[97, 54, 52]⟩ : ByteArray), (⟨#[97, 114, 109]⟩ : ByteArray)] : List ByteArray)) (inner := [.string (⟨#[120, 54, 52]⟩ : ByteArray), .string (⟨#[120, 56, 54]⟩ : ByteArray), .string (⟨#[97, 54, 52]⟩ : ByteArray), .string (⟨#[97, 114, 109]⟩ : ByteArray)]) (ok := fun _ => True) (okp := fun _ => True) ?hr ?hp (fun _ hk => hk) trivial (Below.refl _ _) (Nat.le_refl _) (by simp) ?_; (case hd => rfl); (case hg => rfl); (case hr => first | (go_simp; done) | (go_simp; rfl)); (case hp => exact (Reps.one (show Kd.M Kd.string _ _ _ (⟨#[120, 54, 52]⟩ : ByteArray) [.string (⟨#[120, 54, 52]⟩ : ByteArray)] from rfl) (Reps.one (show Kd.M Kd.string _ _ _ (⟨#[120, 56, 54]⟩ : ByteArray) [.string (⟨#[120, 56, 54]⟩ : ByteArray)] from rfl) (Reps.one (show Kd.M Kd.string _ _ _ (⟨#[97, 54, 52]⟩ : ByteArray) [.string (⟨#[97, 54, 52]⟩ : ByteArray)] from rfl) (Reps.one (show Kd.M Kd.string _ _ _ (⟨#[97, 114, 109]⟩ : ByteArray) [.string (⟨#[97, 114, 109]⟩ : ByteArray)] from rfl) (Reps.none _ _)))))); intro v102 w1 ho2 hb hg_ hnew_; clear hg_ hnew_; (first | rw [← Ny101.out] at ho2 | (simp only [Int.reduceToNat] at ho2; rw [← Ny101.out] at ho2)); have n0_ := Aside0.mk (Kd.R_lower ho2 (below_size (by repeat (first | (with_reducible first | exact HB.out | apply below_alloc | apply pw_below_drewN | apply below_drew1) | exact HB.out)))); have n1_ := Aside0.mk (below_step (by repeat (first | (with_reducible first | exact HB.out | apply below_alloc | apply pw_below_drewN | apply below_drew1) | exact HB.out)) hb); clear HB; have HO103 := n0_; have HB := n1_; clear n0_ n1_; clear hb ho2) | ((with_reducible refine gate_dst (N := 3) rfl ?_); refine Kd.R_lit (Kd.int .u32) _ 25 ?hg (N := 3) ?hd (xs := ([3221225534, 1073741827, 3221225655, 1073741864] : List Int)) (inner := [.int .u32 3221225534, .int .u32 1073741827, .int .u32 3221225655, .int .u32 1073741864]) (ok := fun _ => True) (okp := fun _ => True) ?hr ?hp (fun _ hk => hk) trivial (Below.refl _ _) (Nat.le_refl _) (by simp) ?_; (case hd => rfl); (case hg => rfl); (case hr => first | (go_simp; done) | (go_simp; rfl)); (case hp => exact (Reps.one (show Kd.M (Kd.int .u32) _ _ _ 3221225534 [.int .u32 3221225534] from rfl) (Reps.one (show Kd.M (Kd.int .u32) _ _ _ 1073741827 [.int .u32 1073741827] from rfl) (Reps.one (show Kd.M (Kd.int .u32) _ _ _ 3221225655 [.int .u32 3221225655] from rfl) (Reps.one (show Kd.M (Kd.int .u32) _ _ _ 1073741864 [.int .u32 1073741864] from rfl) (Reps.none _ _)))))); intro v105 w3 ho4 hb hg_ hnew_; clear hg_ hnew_; (first | rw [← Ny104.out] at ho4 | (simp only [Int.reduceToNat] at ho4; rw [← Ny104.out] at ho4)); have n0_ := Aside0.mk (Kd.R_below (by (with_reducible repeat (first | apply Kd.R_alloc | apply Kd.R_drewN | apply Kd.R_drew)); exact HO103.out) hb); have n1_ := Aside0.mk (Kd.R_lower ho4 (below_size (by repeat (first | (with_reducible first | exact HB.out | apply below_alloc | apply pw_below_drewN | apply below_drew1) | exact HB.out)))); have n2_ := Aside0.mk (below_step (by repeat (first | (with_reducible first | exact HB.out | apply below_alloc | apply pw_below_drewN | apply below_drew1) | exact HB.out)) hb); clear HO103; clear HB; have HO103 := n0_; have HO106 := n1_; have HB := n2_; clear n0_ n1_ n2_; clear hb ho4))
  go_ret2
  exact ⟨_, _, by first | rfl | (simp [errW_none, errW_some] <;> rfl) | (simp [*, errW_none, errW_some] <;> rfl), by (with_reducible repeat (first | apply Kd.R_alloc | apply Kd.R_drewN | apply Kd.R_drew)); exact HO103.out, by (with_reducible repeat (first | apply Kd.R_alloc | apply Kd.R_drewN | apply Kd.R_drew)); exact HO106.out, by repeat (first | (with_reducible first | exact HB.out | apply below_alloc | apply pw_below_drewN | apply below_drew1) | exact HB.out)⟩

/-! ### hurdleref01_digits: function 62 -/
def hurdleref01_digits.f : Nat → Int → Option (ByteArray)
  | 0, _ => none
  | k + 1, a0 => (some (([(IntKind.u64.wrap (48 + (Int.tmod a0 16))) % 256] : List Int) : List Int)).bind fun y107 => (if (Int.tmod a0 16) > 9 then ((some (([(IntKind.u64.wrap (87 + (Int.tmod a0 16))) % 256] : List Int) : List Int)).bind fun y110 => (if a0 < 16 then (some (strOfNums y110)) else ((hurdleref01_digits.f k (IntKind.u64.wrap (Int.tdiv a0 16))).bind fun t113 => (if t113.size + (strOfNums y110).size ≤ 9223372036854775807 then (some (t113 ++ (strOfNums y110))) else (none))))) else (if a0 < 16 then (some (strOfNums y107)) else ((hurdleref01_digits.f k (IntKind.u64.wrap (Int.tdiv a0 16))).bind fun t114 => (if t114.size + (strOfNums y107).size ≤ 9223372036854775807 then (some (t114 ++ (strOfNums y107))) else (none)))))
theorem hurdleref01_digits.mono_l : ∀ k, (∀ y0, LeO (hurdleref01_digits.f k y0) (hurdleref01_digits.f (k + 1) y0))
  | 0 => fun _ r h => by simp [hurdleref01_digits.f] at h
  | k + 1 => by
    have ih0 := hurdleref01_digits.mono_l k
    · intro y0
      unfold hurdleref01_digits.f
      repeat' first
      | (with_reducible exact ih0 _)
      | (with_reducible exact LeO.refl _)
      | (with_reducible exact LeO.none _)
      | (with_reducible refine LeO.ite ?_ ?_)
      | (with_reducible refine LeO.bind ?_ (fun _ => ?_))
      | exact ih0 _
      | exact LeO.none _
      | refine LeO.ite ?_ ?_
      | refine LeO.bind ?_ (fun _ => ?_)
theorem hurdleref01_digits.mono : ∀ a0 k, LeO (hurdleref01_digits.f k a0) (hurdleref01_digits.f (k + 1) a0) := by
  intro a0 k
  have ih0 := hurdleref01_digits.mono_l k
  exact ih0 a0
set_option maxHeartbeats 8000000 in
set_option maxRecDepth 100000 in
theorem hurdleref01_digits.calls (k : Nat) : ∀ (a0 : Int) (r : ByteArray) (w : World) (h : hurdleref01_digits.f k a0 = some r),
    Calls Try.prog 62 #[.int .u64 a0] w fun e w' => e = .returned (.string r) ∧ Below w.heap.size w w' := by
  induction k using Nat.strongRecOn with
  | _ k ih =>
  intro a0 r w h
  cases k with
  | zero => exact absurd h (by simp [hurdleref01_digits.f])
  | succ k =>
  simp only [hurdleref01_digits.f] at h
  have HB := Aside0.mk (Below.refl w.heap.size w)
  have H : ((some (([(IntKind.u64.wrap (48 + (Int.tmod a0 16))) % 256] : List Int) : List Int)).bind fun y107 => (if (Int.tmod a0 16) > 9 then ((some (([(IntKind.u64.wrap (87 + (Int.tmod a0 16))) % 256] : List Int) : List Int)).bind fun y110 => (if a0 < 16 then (some (strOfNums y110)) else ((hurdleref01_digits.f k (IntKind.u64.wrap (Int.tdiv a0 16))).bind fun t113 => (if t113.size + (strOfNums y110).size ≤ 9223372036854775807 then (some (t113 ++ (strOfNums y110))) else (none))))) else (if a0 < 16 then (some (strOfNums y107)) else ((hurdleref01_digits.f k (IntKind.u64.wrap (Int.tdiv a0 16))).bind fun t114 => (if t114.size + (strOfNums y107).size ≤ 9223372036854775807 then (some (t114 ++ (strOfNums y107))) else (none)))))) = some r := h
  clear h
  obtain ⟨y107, hy107⟩ : ∃ y_ : List Int, y_ = (([(IntKind.u64.wrap (48 + (Int.tmod a0 16))) % 256] : List Int)) := ⟨_, rfl⟩
  replace H : (if (Int.tmod a0 16) > 9 then ((some (([(IntKind.u64.wrap (87 + (Int.tmod a0 16))) % 256] : List Int) : List Int)).bind fun y110 => (if a0 < 16 then (some (strOfNums y110)) else ((hurdleref01_digits.f k (IntKind.u64.wrap (Int.tdiv a0 16))).bind fun t113 => (if t113.size + (strOfNums y110).size ≤ 9223372036854775807 then (some (t113 ++ (strOfNums y110))) else (none))))) else (if a0 < 16 then (some (strOfNums y107)) else ((hurdleref01_digits.f k (IntKind.u64.wrap (Int.tdiv a0 16))).bind fun t114 => (if t114.size + (strOfNums y107).size ≤ 9223372036854775807 then (some (t114 ++ (strOfNums y107))) else (none))))) = some r := by first | (rw [hy107]; with_reducible exact H) | (have H2_ := (Option.bind_some _ _).symm.trans H; rw [hy107]; with_reducible exact H2_) | (have H2_ := (Option.bind_some _ _).symm.trans H; with_reducible exact H2_) | with_reducible exact H | (rw [hy107]; exact H) | exact H
  have Ny107 := Aside0.mk hy107
  clear hy107
  by_cases c2 : (Int.tmod a0 16) > 9
  · rw [if_pos c2] at H
    have c2b0 : decide (9 < (Int.tmod a0 16)) = true := decide_eq_true c2
    clear c2
    obtain ⟨y110, hy110⟩ : ∃ y_ : List Int, y_ = (([(IntKind.u64.wrap (87 + (Int.tmod a0 16))) % 256] : List Int)) := ⟨_, rfl⟩
    replace H : (if a0 < 16 then (some (strOfNums y110)) else ((hurdleref01_digits.f k (IntKind.u64.wrap (Int.tdiv a0 16))).bind fun t113 => (if t113.size + (strOfNums y110).size ≤ 9223372036854775807 then (some (t113 ++ (strOfNums y110))) else (none)))) = some r := by first | (rw [hy110]; with_reducible exact H) | (have H2_ := (Option.bind_some _ _).symm.trans H; rw [hy110]; with_reducible exact H2_) | (have H2_ := (Option.bind_some _ _).symm.trans H; with_reducible exact H2_) | with_reducible exact H | (rw [hy110]; exact H) | exact H
    have Ny110 := Aside0.mk hy110
    clear hy110
    by_cases c3 : a0 < 16
    · rw [if_pos c3] at H
      have c3b0 : decide (a0 < 16) = true := decide_eq_true c3
      clear c3
      obtain rfl := Option.some.inj H
      go_enter Try.func62, Try.ntmps62
      go_wp2_with (first | ((with_reducible refine gate_dst (N := 10) rfl ?_); refine Kd.R_lit (Kd.int .u8) _ 5 ?hg (N := 10) ?hd (xs := ([(IntKind.u64.wrap (48 + (Int.tmod a0 16))) % 256] : List Int)) (inner := [.int .u8 ((IntKind.u64.wrap (48 + (Int.tmod a0 16))) % 256)]) (ok := fun _ => True) (okp := fun _ => True) ?hr ?hp (fun _ hk => hk) trivial (Below.refl _ _) (Nat.le_refl _) (by simp) ?_; (case hd => rfl); (case hg => rfl); (case hr => first | (go_simp; done) | (go_simp; rfl)); (case hp => exact (Reps.one (show Kd.M (Kd.int .u8) _ _ _ ((IntKind.u64.wrap (48 + (Int.tmod a0 16))) % 256) [.int .u8 ((IntKind.u64.wrap (48 + (Int.tmod a0 16))) % 256)] from rfl) (Reps.none _ _))); intro v108 w4 ho5 hb hg_ hnew_; clear hg_ hnew_; (first | rw [← Ny107.out] at ho5 | (simp only [Int.reduceToNat] at ho5; rw [← Ny107.out] at ho5)); have n0_ := Aside0.mk (Kd.R_lower ho5 (below_size (by repeat (first | (with_reducible first | exact HB.out | apply below_alloc | apply pw_below_drewN | apply below_drew1) | exact HB.out)))); have n1_ := Aside0.mk (below_step (by repeat (first | (with_reducible first | exact HB.out | apply below_alloc | apply pw_below_drewN | apply below_drew1) | exact HB.out)) hb); clear HB; have HO109 := n0_; have HB := n1_; clear n0_ n1_; clear hb ho5; have hcv6 := own_string (P := Try.prog) Try.underlying84 Try.underlying5 Try.underlying9 (Kd.own_of_R HO109.out)) | ((with_reducible refine gate_dst (N := 17) rfl ?_); refine Kd.R_lit (Kd.int .u8) _ 5 ?hg (N := 17) ?hd (xs := ([(IntKind.u64.wrap (87 + (Int.tmod a0 16))) % 256] : List Int)) (inner := [.int .u8 ((IntKind.u64.wrap (87 + (Int.tmod a0 16))) % 256)]) (ok := fun _ => True) (okp := fun _ => True) ?hr ?hp (fun _ hk => hk) trivial (Below.refl _ _) (Nat.le_refl _) (by simp) ?_; (case hd => rfl); (case hg => rfl); (case hr => first | (go_simp; done) | (go_simp; rfl)); (case hp => exact (Reps.one (show Kd.M (Kd.int .u8) _ _ _ ((IntKind.u64.wrap (87 + (Int.tmod a0 16))) % 256) [.int .u8 ((IntKind.u64.wrap (87 + (Int.tmod a0 16))) % 256)] from rfl) (Reps.none _ _))); intro v111 w7 ho8 hb hg_ hnew_; clear hg_ hnew_; (first | rw [← Ny110.out] at ho8 | (simp only [Int.reduceToNat] at ho8; rw [← Ny110.out] at ho8)); have n0_ := Aside0.mk (Kd.R_elder' (by (with_reducible repeat (first | apply Kd.R_alloc | apply Kd.R_drewN | apply Kd.R_drew)); exact HO109.out) (Kd.R_base ho8) hb); have n1_ := Aside0.mk (Kd.R_lower (Kd.R_new' ho8 (Kd.R_lt (by (with_reducible repeat (first | apply Kd.R_alloc | apply Kd.R_drewN | apply Kd.R_drew)); exact HO109.out))) (below_size (by repeat (first | (with_reducible first | exact HB.out | apply below_alloc | apply pw_below_drewN | apply below_drew1) | exact HB.out)))); have n2_ := Aside0.mk (below_step (by repeat (first | (with_reducible first | exact HB.out | apply below_alloc | apply pw_below_drewN | apply below_drew1) | exact HB.out)) hb); clear HO109; clear HB; have HO109 := n0_; have HO112 := n1_; have HB := n2_; clear n0_ n1_ n2_; clear hb ho8; have hcv9 := own_string (P := Try.prog) Try.underlying84 Try.underlying5 Try.underlying9 (Kd.own_of_R HO112.out)))
      go_ret
      exact ⟨by first | rfl | (simp [errW_none, errW_some] <;> rfl) | (simp [*, errW_none, errW_some] <;> rfl), by repeat (first | (with_reducible first | exact HB.out | apply below_alloc | apply pw_below_drewN | apply below_drew1) | exact HB.out)⟩
    · rw [if_neg c3] at H
      have c3b0 : decide (a0 < 16) = false := decide_eq_false c3
      clear c3
      replace H := Option.bind_eq_some_iff.mp H
      obtain ⟨t113, A100, H⟩ := H
      replace H : (if t113.size + (strOfNums y110).size ≤ 9223372036854775807 then (some (t113 ++ (strOfNums y110))) else (none)) = some r := H
      have A10 := Aside0.mk A100
      clear A100
      by_cases c11 : t113.size + (strOfNums y110).size ≤ 9223372036854775807
      · rw [if_pos c11] at H
        have c11b0 := eq_true c11
        have c11b1 : decide (t113.size + (strOfNums y110).size ≤ 9223372036854775807) = true := decide_eq_true c11
        try have c11b2 : (9223372036854775807 < t113.size + (strOfNums y110).size) = False := eq_false (Nat.not_lt.2 c11)
        obtain rfl := Option.some.inj H
        go_enter Try.func62, Try.ntmps62
        go_wp2_with (first | ((with_reducible refine gate_dst (N := 10) rfl ?_); refine Kd.R_lit (Kd.int .u8) _ 5 ?hg (N := 10) ?hd (xs := ([(IntKind.u64.wrap (48 + (Int.tmod a0 16))) % 256] : List Int)) (inner := [.int .u8 ((IntKind.u64.wrap (48 + (Int.tmod a0 16))) % 256)]) (ok := fun _ => True) (okp := fun _ => True) ?hr ?hp (fun _ hk => hk) trivial (Below.refl _ _) (Nat.le_refl _) (by simp) ?_; (case hd => rfl); (case hg => rfl); (case hr => first | (go_simp; done) | (go_simp; rfl)); (case hp => exact (Reps.one (show Kd.M (Kd.int .u8) _ _ _ ((IntKind.u64.wrap (48 + (Int.tmod a0 16))) % 256) [.int .u8 ((IntKind.u64.wrap (48 + (Int.tmod a0 16))) % 256)] from rfl) (Reps.none _ _))); intro v108 w12 ho13 hb hg_ hnew_; clear hg_ hnew_; (first | rw [← Ny107.out] at ho13 | (simp only [Int.reduceToNat] at ho13; rw [← Ny107.out] at ho13)); have n0_ := Aside0.mk (Kd.R_lower ho13 (below_size (by repeat (first | (with_reducible first | exact HB.out | apply below_alloc | apply pw_below_drewN | apply below_drew1) | exact HB.out)))); have n1_ := Aside0.mk (below_step (by repeat (first | (with_reducible first | exact HB.out | apply below_alloc | apply pw_below_drewN | apply below_drew1) | exact HB.out)) hb); clear HB; have HO109 := n0_; have HB := n1_; clear n0_ n1_; clear hb ho13; have hcv14 := own_string (P := Try.prog) Try.underlying84 Try.underlying5 Try.underlying9 (Kd.own_of_R HO109.out)) | ((with_reducible refine gate_dst (N := 17) rfl ?_); refine Kd.R_lit (Kd.int .u8) _ 5 ?hg (N := 17) ?hd (xs := ([(IntKind.u64.wrap (87 + (Int.tmod a0 16))) % 256] : List Int)) (inner := [.int .u8 ((IntKind.u64.wrap (87 + (Int.tmod a0 16))) % 256)]) (ok := fun _ => True) (okp := fun _ => True) ?hr ?hp (fun _ hk => hk) trivial (Below.refl _ _) (Nat.le_refl _) (by simp) ?_; (case hd => rfl); (case hg => rfl); (case hr => first | (go_simp; done) | (go_simp; rfl)); (case hp => exact (Reps.one (show Kd.M (Kd.int .u8) _ _ _ ((IntKind.u64.wrap (87 + (Int.tmod a0 16))) % 256) [.int .u8 ((IntKind.u64.wrap (87 + (Int.tmod a0 16))) % 256)] from rfl) (Reps.none _ _))); intro v111 w15 ho16 hb hg_ hnew_; clear hg_ hnew_; (first | rw [← Ny110.out] at ho16 | (simp only [Int.reduceToNat] at ho16; rw [← Ny110.out] at ho16)); have n0_ := Aside0.mk (Kd.R_elder' (by (with_reducible repeat (first | apply Kd.R_alloc | apply Kd.R_drewN | apply Kd.R_drew)); exact HO109.out) (Kd.R_base ho16) hb); have n1_ := Aside0.mk (Kd.R_lower (Kd.R_new' ho16 (Kd.R_lt (by (with_reducible repeat (first | apply Kd.R_alloc | apply Kd.R_drewN | apply Kd.R_drew)); exact HO109.out))) (below_size (by repeat (first | (with_reducible first | exact HB.out | apply below_alloc | apply pw_below_drewN | apply below_drew1) | exact HB.out)))); have n2_ := Aside0.mk (below_step (by repeat (first | (with_reducible first | exact HB.out | apply below_alloc | apply pw_below_drewN | apply below_drew1) | exact HB.out)) hb); clear HO109; clear HB; have HO109 := n0_; have HO112 := n1_; have HB := n2_; clear n0_ n1_ n2_; clear hb ho16; have hcv17 := own_string (P := Try.prog) Try.underlying84 Try.underlying5 Try.underlying9 (Kd.own_of_R HO112.out)) | ((with_reducible refine gate_callee (f := 62) rfl ?_); refine goesL_ (some 24) rfl rfl Try.func62 (by kernel_rfl) rfl #[.int .u64 (IntKind.u64.wrap (Int.tdiv a0 16))] rfl (by (try simp only [List.map_toArray, List.map_cons, List.map_nil]); first | done | rfl | (simp only [List.length_drop, List.length_take]; rfl)) ?_; (with_reducible refine (ih k (by omega) (IntKind.u64.wrap (Int.tdiv a0 16)) t113 _ A10.out).mono ?_); rintro e w18 ⟨rfl, hb⟩; refine ⟨_, rfl, ?_⟩; have n0_ := Aside0.mk (Kd.R_below (by (with_reducible repeat (first | apply Kd.R_alloc | apply Kd.R_drewN | apply Kd.R_drew)); exact HO109.out) hb); have n1_ := Aside0.mk (Kd.R_below (by (with_reducible repeat (first | apply Kd.R_alloc | apply Kd.R_drewN | apply Kd.R_drew)); exact HO112.out) hb); have n2_ := Aside0.mk (below_step (by repeat (first | (with_reducible first | exact HB.out | apply below_alloc | apply pw_below_drewN | apply below_drew1) | exact HB.out)) hb); clear HO109; clear HO112; clear HB; have HO109 := n0_; have HO112 := n1_; have HB := n2_; clear n0_ n1_ n2_; (try clear hb); (try clear hb2); (try clear hk); (try clear hi)))
        go_ret
        exact ⟨by first | rfl | (simp [errW_none, errW_some] <;> rfl) | (simp [*, errW_none, errW_some] <;> rfl), by repeat (first | (with_reducible first | exact HB.out | apply below_alloc | apply pw_below_drewN | apply below_drew1) | exact HB.out)⟩
      · rw [if_neg c11] at H
        exact absurd H (by simp)
  · rw [if_neg c2] at H
    have c2b0 : decide (9 < (Int.tmod a0 16)) = false := decide_eq_false c2
    clear c2
    by_cases c19 : a0 < 16
    · rw [if_pos c19] at H
      have c19b0 : decide (a0 < 16) = true := decide_eq_true c19
      clear c19
      obtain rfl := Option.some.inj H
      go_enter Try.func62, Try.ntmps62
      go_wp2_with (first | ((with_reducible refine gate_dst (N := 10) rfl ?_); refine Kd.R_lit (Kd.int .u8) _ 5 ?hg (N := 10) ?hd (xs := ([(IntKind.u64.wrap (48 + (Int.tmod a0 16))) % 256] : List Int)) (inner := [.int .u8 ((IntKind.u64.wrap (48 + (Int.tmod a0 16))) % 256)]) (ok := fun _ => True) (okp := fun _ => True) ?hr ?hp (fun _ hk => hk) trivial (Below.refl _ _) (Nat.le_refl _) (by simp) ?_; (case hd => rfl); (case hg => rfl); (case hr => first | (go_simp; done) | (go_simp; rfl)); (case hp => exact (Reps.one (show Kd.M (Kd.int .u8) _ _ _ ((IntKind.u64.wrap (48 + (Int.tmod a0 16))) % 256) [.int .u8 ((IntKind.u64.wrap (48 + (Int.tmod a0 16))) % 256)] from rfl) (Reps.none _ _))); intro v108 w20 ho21 hb hg_ hnew_; clear hg_ hnew_; (first | rw [← Ny107.out] at ho21 | (simp only [Int.reduceToNat] at ho21; rw [← Ny107.out] at ho21)); have n0_ := Aside0.mk (Kd.R_lower ho21 (below_size (by repeat (first | (with_reducible first | exact HB.out | apply below_alloc | apply pw_below_drewN | apply below_drew1) | exact HB.out)))); have n1_ := Aside0.mk (below_step (by repeat (first | (with_reducible first | exact HB.out | apply below_alloc | apply pw_below_drewN | apply below_drew1) | exact HB.out)) hb); clear HB; have HO109 := n0_; have HB := n1_; clear n0_ n1_; clear hb ho21; have hcv22 := own_string (P := Try.prog) Try.underlying84 Try.underlying5 Try.underlying9 (Kd.own_of_R HO109.out)))
      go_ret
      exact ⟨by first | rfl | (simp [errW_none, errW_some] <;> rfl) | (simp [*, errW_none, errW_some] <;> rfl), by repeat (first | (with_reducible first | exact HB.out | apply below_alloc | apply pw_below_drewN | apply below_drew1) | exact HB.out)⟩
    · rw [if_neg c19] at H
      have c19b0 : decide (a0 < 16) = false := decide_eq_false c19
      clear c19
      replace H := Option.bind_eq_some_iff.mp H
      obtain ⟨t114, A230, H⟩ := H
      replace H : (if t114.size + (strOfNums y107).size ≤ 9223372036854775807 then (some (t114 ++ (strOfNums y107))) else (none)) = some r := H
      have A23 := Aside0.mk A230
      clear A230
      by_cases c24 : t114.size + (strOfNums y107).size ≤ 9223372036854775807
      · rw [if_pos c24] at H
        have c24b0 := eq_true c24
        have c24b1 : decide (t114.size + (strOfNums y107).size ≤ 9223372036854775807) = true := decide_eq_true c24
        try have c24b2 : (9223372036854775807 < t114.size + (strOfNums y107).size) = False := eq_false (Nat.not_lt.2 c24)
        obtain rfl := Option.some.inj H
        go_enter Try.func62, Try.ntmps62
        go_wp2_with (first | ((with_reducible refine gate_dst (N := 10) rfl ?_); refine Kd.R_lit (Kd.int .u8) _ 5 ?hg (N := 10) ?hd (xs := ([(IntKind.u64.wrap (48 + (Int.tmod a0 16))) % 256] : List Int)) (inner := [.int .u8 ((IntKind.u64.wrap (48 + (Int.tmod a0 16))) % 256)]) (ok := fun _ => True) (okp := fun _ => True) ?hr ?hp (fun _ hk => hk) trivial (Below.refl _ _) (Nat.le_refl _) (by simp) ?_; (case hd => rfl); (case hg => rfl); (case hr => first | (go_simp; done) | (go_simp; rfl)); (case hp => exact (Reps.one (show Kd.M (Kd.int .u8) _ _ _ ((IntKind.u64.wrap (48 + (Int.tmod a0 16))) % 256) [.int .u8 ((IntKind.u64.wrap (48 + (Int.tmod a0 16))) % 256)] from rfl) (Reps.none _ _))); intro v108 w25 ho26 hb hg_ hnew_; clear hg_ hnew_; (first | rw [← Ny107.out] at ho26 | (simp only [Int.reduceToNat] at ho26; rw [← Ny107.out] at ho26)); have n0_ := Aside0.mk (Kd.R_lower ho26 (below_size (by repeat (first | (with_reducible first | exact HB.out | apply below_alloc | apply pw_below_drewN | apply below_drew1) | exact HB.out)))); have n1_ := Aside0.mk (below_step (by repeat (first | (with_reducible first | exact HB.out | apply below_alloc | apply pw_below_drewN | apply below_drew1) | exact HB.out)) hb); clear HB; have HO109 := n0_; have HB := n1_; clear n0_ n1_; clear hb ho26; have hcv27 := own_string (P := Try.prog) Try.underlying84 Try.underlying5 Try.underlying9 (Kd.own_of_R HO109.out)) | ((with_reducible refine gate_callee (f := 62) rfl ?_); refine goesL_ (some 24) rfl rfl Try.func62 (by kernel_rfl) rfl #[.int .u64 (IntKind.u64.wrap (Int.tdiv a0 16))] rfl (by (try simp only [List.map_toArray, List.map_cons, List.map_nil]); first | done | rfl | (simp only [List.length_drop, List.length_take]; rfl)) ?_; (with_reducible refine (ih k (by omega) (IntKind.u64.wrap (Int.tdiv a0 16)) t114 _ A23.out).mono ?_); rintro e w28 ⟨rfl, hb⟩; refine ⟨_, rfl, ?_⟩; have n0_ := Aside0.mk (Kd.R_below (by (with_reducible repeat (first | apply Kd.R_alloc | apply Kd.R_drewN | apply Kd.R_drew)); exact HO109.out) hb); have n1_ := Aside0.mk (below_step (by repeat (first | (with_reducible first | exact HB.out | apply below_alloc | apply pw_below_drewN | apply below_drew1) | exact HB.out)) hb); clear HO109; clear HB; have HO109 := n0_; have HB := n1_; clear n0_ n1_; (try clear hb); (try clear hb2); (try clear hk); (try clear hi)))
        go_ret
        exact ⟨by first | rfl | (simp [errW_none, errW_some] <;> rfl) | (simp [*, errW_none, errW_some] <;> rfl), by repeat (first | (with_reducible first | exact HB.out | apply below_alloc | apply pw_below_drewN | apply below_drew1) | exact HB.out)⟩
      · rw [if_neg c24] at H
        exact absurd H (by simp)

/-! ### hurdleref01_Text: function 45 -/
def hurdleref01_Text.f (k : Nat) (a0 : Int) : Option (ByteArray) := (hurdleref01_digits.f k a0).bind fun t115 => (if 2 + t115.size ≤ 9223372036854775807 then (some ((⟨#[48, 120]⟩ : ByteArray) ++ t115)) else (none))
theorem hurdleref01_Text.mono : ∀ a0 k, LeO (hurdleref01_Text.f k a0) (hurdleref01_Text.f (k + 1) a0) := by
  intro a0 k
  unfold hurdleref01_Text.f
  repeat' first
      | (with_reducible exact hurdleref01_digits.mono _ _)
      | (with_reducible exact LeO.refl _)
      | (with_reducible exact LeO.none _)
      | (with_reducible refine LeO.ite ?_ ?_)
      | (with_reducible refine LeO.bind ?_ (fun _ => ?_))
      | exact hurdleref01_digits.mono _ _
      | exact LeO.none _
      | refine LeO.ite ?_ ?_
      | refine LeO.bind ?_ (fun _ => ?_)
set_option maxHeartbeats 8000000 in
set_option maxRecDepth 100000 in
theorem hurdleref01_Text.calls (k : Nat) (a0 : Int) (r : ByteArray) (w : World) (h : hurdleref01_Text.f k a0 = some r) :
    Calls Try.prog 45 #[.int .u64 a0] w fun e w' => e = .returned (.string r) ∧ Below w.heap.size w w' := by
  have HB := Aside0.mk (Below.refl w.heap.size w)
  have H : ((hurdleref01_digits.f k a0).bind fun t115 => (if 2 + t115.size ≤ 9223372036854775807 then (some ((⟨#[48, 120]⟩ : ByteArray) ++ t115)) else (none))) = some r := h
  clear h
  replace H := Option.bind_eq_some_iff.mp H
  obtain ⟨t115, A20, H⟩ := H
  replace H : (if 2 + t115.size ≤ 9223372036854775807 then (some ((⟨#[48, 120]⟩ : ByteArray) ++ t115)) else (none)) = some r := H
  have A2 := Aside0.mk A20
  clear A20
  by_cases c3 : 2 + t115.size ≤ 9223372036854775807
  · rw [if_pos c3] at H
    have c3b0 := eq_true c3
    have c3b1 : decide (2 + t115.size ≤ 9223372036854775807) = true := decide_eq_true c3
    try have c3b2 : (9223372036854775807 < 2 + t115.size) = False := eq_false (Nat.not_lt.2 c3)
    obtain rfl := Option.some.inj H
    go_enter Try.func45, Try.ntmps45
    go_wp2_with (first | ((with_reducible refine gate_callee (f := 62) rfl ?_); refine goesL_ (some 4) rfl rfl Try.func62 (by kernel_rfl) rfl #[.int .u64 a0] rfl (by (try simp only [List.map_toArray, List.map_cons, List.map_nil]); first | done | rfl | (simp only [List.length_drop, List.length_take]; rfl)) ?_; (with_reducible refine (hurdleref01_digits.calls k a0 t115 _ A2.out).mono ?_); rintro e w4 ⟨rfl, hb⟩; refine ⟨_, rfl, ?_⟩; have n0_ := Aside0.mk (below_step (by repeat (first | (with_reducible first | exact HB.out | apply below_alloc | apply pw_below_drewN | apply below_drew1) | exact HB.out)) hb); clear HB; have HB := n0_; clear n0_; (try clear hb); (try clear hb2); (try clear hk); (try clear hi)))
    go_ret
    exact ⟨by first | rfl | (simp [errW_none, errW_some] <;> rfl) | (simp [*, errW_none, errW_some] <;> rfl), by repeat (first | (with_reducible first | exact HB.out | apply below_alloc | apply pw_below_drewN | apply below_drew1) | exact HB.out)⟩
  · rw [if_neg c3] at H
    exact absurd H (by simp)

/-! ### hurdleref09_text: function 51 -/
def hurdleref09_text.l0 : Nat → List ByteArray → List Int → Int → Int → Option (ByteArray)
  | 0, _, _, _, _ => none
  | k + 1, x0, x1, x2, x7 => if x7 < (x0.length : Int) then (if 0 ≤ x7 then (if x7 < (x1.length : Int) then (if (rd x1 x7) = x2 then (some (rdOf ByteArray.empty x0 x7)) else (hurdleref09_text.l0 k x0 x1 x2 (wrap64 (x7 + 1)))) else (none)) else (none)) else ((hurdleref01_Text.f k (IntKind.u64.wrap (x2))).bind fun t118 => (some t118))
def hurdleref09_text.f (k : Nat) (l0 : List ByteArray) (l1 : List Int) (a2 : Int) : Option (ByteArray) := hurdleref09_text.l0 k l0 l1 a2 0
theorem hurdleref09_text.mono_l : ∀ k, (∀ y0 y1 y2 y3, LeO (hurdleref09_text.l0 k y0 y1 y2 y3) (hurdleref09_text.l0 (k + 1) y0 y1 y2 y3))
  | 0 => fun _ _ _ _ r h => by simp [hurdleref09_text.l0] at h
  | k + 1 => by
    have ih0 := hurdleref09_text.mono_l k
    · intro y0 y1 y2 y3
      unfold hurdleref09_text.l0
      repeat' first
      | (with_reducible exact ih0 _ _ _ _)
      | (with_reducible exact hurdleref01_Text.mono _ _)
      | (with_reducible exact LeO.refl _)
      | (with_reducible exact LeO.none _)
      | (with_reducible refine LeO.ite ?_ ?_)
      | (with_reducible refine LeO.bind ?_ (fun _ => ?_))
      | exact ih0 _ _ _ _
      | exact hurdleref01_Text.mono _ _
      | exact LeO.none _
      | refine LeO.ite ?_ ?_
      | refine LeO.bind ?_ (fun _ => ?_)
theorem hurdleref09_text.mono : ∀ a0 a1 a2 k, LeO (hurdleref09_text.f k a0 a1 a2) (hurdleref09_text.f (k + 1) a0 a1 a2) := by
  intro a0 a1 a2 k
  have ih0 := hurdleref09_text.mono_l k
  unfold hurdleref09_text.f
  repeat' first
      | (with_reducible exact ih0 _ _ _ _)
      | (with_reducible exact hurdleref01_Text.mono _ _)
      | (with_reducible exact LeO.refl _)
      | (with_reducible exact LeO.none _)
      | (with_reducible refine LeO.ite ?_ ?_)
      | (with_reducible refine LeO.bind ?_ (fun _ => ?_))
      | exact ih0 _ _ _ _
      | exact hurdleref01_Text.mono _ _
      | exact LeO.none _
      | refine LeO.ite ?_ ?_
      | refine LeO.bind ?_ (fun _ => ?_)
set_option maxHeartbeats 8000000 in
set_option maxRecDepth 100000 in
theorem hurdleref09_text.calls (k : Nat) (A0 : Option Addr) (c0 : Nat) (l0 : List ByteArray) (A1 : Option Addr) (c1 : Nat) (l1 : List Int) (a2 : Int) (r : ByteArray) (w : World) (hr0 : Kd.C Kd.string w A0 l0.length l0) (hc0 : l0.length ≤ c0) (hr1 : Kd.C (Kd.int .u32) w A1 l1.length l1) (hc1 : l1.length ≤ c1) (h : hurdleref09_text.f k l0 l1 a2 = some r) :
    Calls Try.prog 51 #[.slice A0 l0.length c0, .slice A1 l1.length c1, .int .u32 a2] w fun e w' => e = .returned (.string r) ∧ Below w.heap.size w w' := by
  have HR0 := Aside0.mk hr0
  have HC0 := Aside0.mk hc0
  clear hr0 hc0
  have HR1 := Aside0.mk hr1
  have HC1 := Aside0.mk hc1
  clear hr1 hc1
  have HB := Aside0.mk (Below.refl w.heap.size w)
  have H : (hurdleref09_text.l0 k l0 l1 a2 0) = some r := h
  clear h
  have H' := Aside0.mk H
  clear H
  go_enter Try.func51, Try.ntmps51
  go_wp2
  go_loopg [7] k (fun kq v7 w' => ∃ (x7_1 : Int), v7 = .int .i64 x7_1 ∧ Aside0 (hurdleref09_text.l0 kq l0 l1 a2 x7_1 = some r) ∧ Aside0 (kq ≤ k) ∧ Aside0 (Below w.heap.size w w'))
  case atStart => exact ⟨(0), (by first | rfl | (simp; done) | (simp [*]; done)), H', ⟨Nat.le_refl _⟩, ⟨by repeat (first | (with_reducible first | exact HB.out | apply below_alloc | apply pw_below_drewN | apply below_drew1) | exact HB.out)⟩⟩
  case round =>
    clear H'
    try clear c1
    try clear p2
    obtain ⟨x7_1, rfl, HA, HK1, HB⟩ := hrel
    cases gk with
    | zero => exact absurd HA.out (by simp [hurdleref09_text.l0])
    | succ k1 =>
      have H := HA.out
      clear HA
      simp only [hurdleref09_text.l0] at H
      by_cases c4 : x7_1 < (l0.length : Int)
      · rw [if_pos c4] at H
        have c4b0 : decide (x7_1 < (l0.length : Int)) = true := decide_eq_true c4
        clear c4
        by_cases c5 : 0 ≤ x7_1
        · rw [if_pos c5] at H
          have c5b0 : decide (0 ≤ x7_1) = true := decide_eq_true c5
          clear c5
          by_cases c6 : x7_1 < (l1.length : Int)
          · rw [if_pos c6] at H
            have c6b0 : decide (x7_1 < (l1.length : Int)) = true := decide_eq_true c6
            clear c6
            by_cases c7 : (rd l1 x7_1) = a2
            · rw [if_pos c7] at H
              have c7b0 : ((rd l1 x7_1) == a2) = true := beq_iff_eq.mpr c7
              have c7b1 : ((rd l1 x7_1) != a2) = false := bne_eq_false_iff_eq.mpr c7
              clear c7
              obtain rfl := Option.some.inj H
              have p116 : 0 ≤ (x7_1 : Int) := of_decide_eq_true (by first | (with_reducible assumption) | assumption)
              have q116 : x7_1 < (l1.length : Int) := of_decide_eq_true (by first | (with_reducible assumption) | assumption)
              obtain ⟨ad116, e116, hx116_0⟩ := Kd.at_int HR1.out x7_1 p116 q116
              cases e116
              replace hx116_0 := (HB.out.cell (World.block_lt_of_cell? w _ hx116_0)).trans hx116_0
              replace p116 := eq_true p116
              replace q116 := eq_true q116
              have p117 : 0 ≤ (x7_1 : Int) := of_decide_eq_true (by first | (with_reducible assumption) | assumption)
              have q117 : x7_1 < (l0.length : Int) := of_decide_eq_true (by first | (with_reducible assumption) | assumption)
              obtain ⟨ad117, e117, hx117_0⟩ := Kd.at_string HR0.out x7_1 p117 q117
              cases e117
              replace hx117_0 := (HB.out.cell (World.block_lt_of_cell? w _ hx117_0)).trans hx117_0
              replace p117 := eq_true p117
              replace q117 := eq_true q117
              go_wp2
              go_ret
              exact ⟨by first | rfl | (simp [errW_none, errW_some] <;> rfl) | (simp [*, errW_none, errW_some] <;> rfl), by repeat (first | (with_reducible first | exact HB.out | apply below_alloc | apply pw_below_drewN | apply below_drew1) | exact HB.out)⟩
            · rw [if_neg c7] at H
              have c7b0 : ((rd l1 x7_1) == a2) = false := beq_eq_false_iff_ne.mpr c7
              have c7b1 : ((rd l1 x7_1) != a2) = true := bne_iff_ne.mpr c7
              have H' := Aside0.mk H
              clear H
              have p116 : 0 ≤ (x7_1 : Int) := of_decide_eq_true (by first | (with_reducible assumption) | assumption)
              have q116 : x7_1 < (l1.length : Int) := of_decide_eq_true (by first | (with_reducible assumption) | assumption)
              obtain ⟨ad116, e116, hx116_0⟩ := Kd.at_int HR1.out x7_1 p116 q116
              cases e116
              replace hx116_0 := (HB.out.cell (World.block_lt_of_cell? w _ hx116_0)).trans hx116_0
              replace p116 := eq_true p116
              replace q116 := eq_true q116
              go_wp2
              go_roundg k1
              case measure => have := HK1.out; omega
              case rel => exact ⟨(wrap64 (x7_1 + 1)), (by first | rfl | (simp; done) | (simp [*]; done)), H', ⟨by have := HK1.out; omega⟩, ⟨by repeat (first | (with_reducible first | exact HB.out | apply below_alloc | apply pw_below_drewN | apply below_drew1) | exact HB.out)⟩⟩
          · rw [if_neg c6] at H
            exact absurd H (by simp)
        · rw [if_neg c5] at H
          exact absurd H (by simp)
      · rw [if_neg c4] at H
        have c4b0 : decide (x7_1 < (l0.length : Int)) = false := decide_eq_false c4
        clear c4
        replace H := Option.bind_eq_some_iff.mp H
        obtain ⟨t118, A80, H⟩ := H
        replace H : (some t118) = some r := H
        have A8 := Aside0.mk A80
        clear A80
        obtain rfl := Option.some.inj H
        go_wp2_with (first | ((with_reducible refine gate_callee (f := 45) rfl ?_); refine goesL_ (some 26) rfl rfl Try.func45 (by kernel_rfl) rfl #[.int .u64 (IntKind.u64.wrap (a2))] rfl (by (try simp only [List.map_toArray, List.map_cons, List.map_nil]); first | done | rfl | (simp only [List.length_drop, List.length_take]; rfl)) ?_; (with_reducible refine (hurdleref01_Text.calls k1 (IntKind.u64.wrap (a2)) t118 _ A8.out).mono ?_); rintro e w9 ⟨rfl, hb⟩; refine ⟨_, rfl, ?_⟩; have n0_ := Aside0.mk (below_step (by repeat (first | (with_reducible first | exact HB.out | apply below_alloc | apply pw_below_drewN | apply below_drew1) | exact HB.out)) hb); clear HB; have HB := n0_; clear n0_; (try clear hb); (try clear hb2); (try clear hk); (try clear hi)))
        go_ret
        exact ⟨by first | rfl | (simp [errW_none, errW_some] <;> rfl) | (simp [*, errW_none, errW_some] <;> rfl), by repeat (first | (with_reducible first | exact HB.out | apply below_alloc | apply pw_below_drewN | apply below_drew1) | exact HB.out)⟩

/-! ### hurdleref09_Machine: function 27 -/
def hurdleref09_Machine.f (k : Nat) (a0 : Int) : Option (ByteArray) := (hurdleref09_Machines.f).bind fun bt119 => ((hurdleref09_text.f k bt119.1 bt119.2 a0).bind fun t125 => (some t125))
theorem hurdleref09_Machine.mono : ∀ a0 k, LeO (hurdleref09_Machine.f k a0) (hurdleref09_Machine.f (k + 1) a0) := by
  intro a0 k
  unfold hurdleref09_Machine.f
  repeat' first
      | (with_reducible exact hurdleref09_text.mono _ _ _ _)
      | (with_reducible exact LeO.refl _)
      | (with_reducible exact LeO.none _)
      | (with_reducible refine LeO.ite ?_ ?_)
      | (with_reducible refine LeO.bind ?_ (fun _ => ?_))
      | exact hurdleref09_text.mono _ _ _ _
      | exact LeO.none _
      | refine LeO.ite ?_ ?_
      | refine LeO.bind ?_ (fun _ => ?_)
set_option maxHeartbeats 8000000 in
set_option maxRecDepth 100000 in
theorem hurdleref09_Machine.calls (k : Nat) (a0 : Int) (r : ByteArray) (w : World) (h : hurdleref09_Machine.f k a0 = some r) :
    Calls Try.prog 27 #[.int .u32 a0] w fun e w' => e = .returned (.string r) ∧ Below w.heap.size w w' := by
  have HB := Aside0.mk (Below.refl w.heap.size w)
  have H : ((hurdleref09_Machines.f).bind fun bt119 => ((hurdleref09_text.f k bt119.1 bt119.2 a0).bind fun t125 => (some t125))) = some r := h
  clear h
  replace H := Option.bind_eq_some_iff.mp H
  obtain ⟨⟨t119, t120⟩, A20, H⟩ := H
  replace H : ((hurdleref09_text.f k t119 t120 a0).bind fun t125 => (some t125)) = some r := H
  have A2 := Aside0.mk A20
  clear A20
  replace H := Option.bind_eq_some_iff.mp H
  obtain ⟨t125, A30, H⟩ := H
  replace H : (some t125) = some r := H
  have A3 := Aside0.mk A30
  clear A30
  obtain rfl := Option.some.inj H
  go_enter Try.func27, Try.ntmps27
  go_wp2_with (first | ((with_reducible refine gate_callee (f := 50) rfl ?_); refine goesL_ (some 6) rfl rfl Try.func50 (by kernel_rfl) rfl #[] rfl (by (try simp only [List.map_toArray, List.map_cons, List.map_nil]); first | done | rfl | (simp only [List.length_drop, List.length_take]; rfl)) ?_; (with_reducible refine (hurdleref09_Machines.calls  t119 t120 _ A2.out).mono ?_); rintro e w4 ⟨v121, v123, rfl, ho0, ho1, hb⟩; refine ⟨_, rfl, ?_⟩; have n0_ := Aside0.mk (Kd.R_lower ho0 (below_size (by repeat (first | (with_reducible first | exact HB.out | apply below_alloc | apply pw_below_drewN | apply below_drew1) | exact HB.out)))); have n1_ := Aside0.mk (Kd.R_lower ho1 (below_size (by repeat (first | (with_reducible first | exact HB.out | apply below_alloc | apply pw_below_drewN | apply below_drew1) | exact HB.out)))); have n2_ := Aside0.mk (below_step (by repeat (first | (with_reducible first | exact HB.out | apply below_alloc | apply pw_below_drewN | apply below_drew1) | exact HB.out)) hb); clear HB; have HO122 := n0_; have HO124 := n1_; have HB := n2_; clear n0_ n1_ n2_; (try clear hb); (try clear hb2); (try clear hk); (try clear hi); (try clear ho0); (try clear ho1); obtain ⟨Ao5, co5, eo5⟩ := Kd.R_slice HO122.out; subst eo5; obtain ⟨Ao6, co6, eo6⟩ := Kd.R_slice HO124.out; subst eo6) | ((with_reducible refine gate_callee (f := 51) rfl ?_); refine goesL_ (some 12) rfl rfl Try.func51 (by kernel_rfl) rfl #[.slice Ao5 t119.length co5, .slice Ao6 t120.length co6, .int .u32 a0] rfl (by (try simp only [List.map_toArray, List.map_cons, List.map_nil]); first | done | rfl | (simp only [List.length_drop, List.length_take]; rfl)) ?_; (with_reducible refine (hurdleref09_text.calls k _ _ t119 _ _ t120 a0 t125 _ ?side1 ?side2 ?side3 ?side4 A3.out).mono ?_); (case side1 => repeat (first | exact (Kd.R_reads' HO122.out).2.2 | (with_reducible refine Kd.C_alloc ?_ _) | (with_reducible refine Kd.C_drewN ?_ _) | (with_reducible refine Kd.C_drew ?_))); (case side2 => exact (Kd.R_reads' HO122.out).2.1); (case side3 => repeat (first | exact (Kd.R_reads' HO124.out).2.2 | (with_reducible refine Kd.C_alloc ?_ _) | (with_reducible refine Kd.C_drewN ?_ _) | (with_reducible refine Kd.C_drew ?_))); (case side4 => exact (Kd.R_reads' HO124.out).2.1); rintro e w7 ⟨rfl, hb⟩; refine ⟨_, rfl, ?_⟩; have n0_ := Aside0.mk (Kd.R_below (by (with_reducible repeat (first | apply Kd.R_alloc | apply Kd.R_drewN | apply Kd.R_drew)); exact HO122.out) hb); have n1_ := Aside0.mk (Kd.R_below (by (with_reducible repeat (first | apply Kd.R_alloc | apply Kd.R_drewN | apply Kd.R_drew)); exact HO124.out) hb); have n2_ := Aside0.mk (below_step (by repeat (first | (with_reducible first | exact HB.out | apply below_alloc | apply pw_below_drewN | apply below_drew1) | exact HB.out)) hb); clear HO122; clear HO124; clear HB; have HO122 := n0_; have HO124 := n1_; have HB := n2_; clear n0_ n1_ n2_; (try clear hb); (try clear hb2); (try clear hk); (try clear hi)))
  go_ret
  exact ⟨by first | rfl | (simp [errW_none, errW_some] <;> rfl) | (simp [*, errW_none, errW_some] <;> rfl), by repeat (first | (with_reducible first | exact HB.out | apply below_alloc | apply pw_below_drewN | apply below_drew1) | exact HB.out)⟩

/-! ### hurdleref09_Calls: function 53 -/
mutual
def hurdleref09_Calls.l0 : Nat → Int → List ByteArray → Int → List (List Int) → List Int → List ByteArray → List Int → Int → Option (List ByteArray × List Int)
  | 0, _, _, _, _, _, _, _, _ => none
  | k + 1, x0, x4, x5, x6, x8, x9, x10, x11 => if x11 < 4 then (hurdleref09_Calls.l1 k x0 x4 x5 x6 x8 x9 x10 x11 0) else (some (x9, x10))
def hurdleref09_Calls.l1 : Nat → Int → List ByteArray → Int → List (List Int) → List Int → List ByteArray → List Int → Int → Int → Option (List ByteArray × List Int)
  | 0, _, _, _, _, _, _, _, _, _ => none
  | k + 1, x0, x4, x5, x6, x8, x9, x10, x11, x12 => if x12 < 8 then (if 0 ≤ x11 then (if x11 < (x8.length : Int) then (if (rd x8 x11) = x0 then (if x11 < (x6.length : Int) then (if 0 ≤ x12 then (if x12 < ((rd_L3 x6 x11).length : Int) then (if (rd (rd_L3 x6 x11) x12) = x5 then (hurdleref09_Calls.l1 k x0 x4 x5 x6 x8 x9 x10 x11 (wrap64 (x12 + 1))) else (if x12 < (x4.length : Int) then (if x9.length < 8796093022208 then (if x10.length < 35184372088832 then (hurdleref09_Calls.l1 k x0 x4 x5 x6 x8 (x9 ++ [rdOf ByteArray.empty x4 x12]) (x10 ++ [rd (rd_L3 x6 x11) x12]) x11 (wrap64 (x12 + 1))) else (none)) else (none)) else (none))) else (none)) else (none)) else (none)) else (hurdleref09_Calls.l1 k x0 x4 x5 x6 x8 x9 x10 x11 (wrap64 (x12 + 1)))) else (none)) else (none)) else (hurdleref09_Calls.l0 k x0 x4 x5 x6 x8 x9 x10 (wrap64 (x11 + 1)))
end
def hurdleref09_Calls.f (k : Nat) (a0 : Int) : Option (List ByteArray × List Int) := (hurdleref09_Machines.f).bind fun bt144 => (hurdleref09_Calls.l0 k a0 (([(⟨#[114, 101, 97, 100]⟩ : ByteArray), (⟨#[119, 114, 105, 116, 101]⟩ : ByteArray), (⟨#[111, 112, 101, 110]⟩ : ByteArray), (⟨#[99, 108, 111, 115, 101]⟩ : ByteArray), (⟨#[101, 120, 105, 116]⟩ : ByteArray), (⟨#[102, 111, 114, 107]⟩ : ByteArray), (⟨#[107, 105, 108, 108]⟩ : ByteArray), (⟨#[109, 109, 97, 112]⟩ : ByteArray)] : List ByteArray)) 1000000 (([(([0, 1, 2, 3, 60, 57, 62, 9] : List Int)), (([3, 4, 5, 6, 1, 2, 37, 90] : List Int)), (([63, 64, 1000000, 57, 93, 1000000, 129, 222] : List Int)), (([3, 4, 5, 6, 1, 2, 37, 1000000] : List Int))] : List (List Int))) bt144.2 ([] : List ByteArray) ([] : List Int) 0)
theorem hurdleref09_Calls.mono_l : ∀ k, (∀ y0 y1 y2 y3 y4 y5 y6 y7, LeO (hurdleref09_Calls.l0 k y0 y1 y2 y3 y4 y5 y6 y7) (hurdleref09_Calls.l0 (k + 1) y0 y1 y2 y3 y4 y5 y6 y7)) ∧ (∀ y0 y1 y2 y3 y4 y5 y6 y7 y8, LeO (hurdleref09_Calls.l1 k y0 y1 y2 y3 y4 y5 y6 y7 y8) (hurdleref09_Calls.l1 (k + 1) y0 y1 y2 y3 y4 y5 y6 y7 y8))
  | 0 => ⟨fun _ _ _ _ _ _ _ _ r h => by simp [hurdleref09_Calls.l0] at h, fun _ _ _ _ _ _ _ _ _ r h => by simp [hurdleref09_Calls.l1] at h⟩
  | k + 1 => by
    obtain ⟨ih0, ih1⟩ := hurdleref09_Calls.mono_l k
    refine ⟨?_, ?_⟩
    · intro y0 y1 y2 y3 y4 y5 y6 y7
      unfold hurdleref09_Calls.l0
      repeat' first
      | (with_reducible exact ih0 _ _ _ _ _ _ _ _)
      | (with_reducible exact ih1 _ _ _ _ _ _ _ _ _)
      | (with_reducible exact LeO.refl _)
      | (with_reducible exact LeO.none _)
      | (with_reducible refine LeO.ite ?_ ?_)
      | (with_reducible refine LeO.bind ?_ (fun _ => ?_))
      | exact ih0 _ _ _ _ _ _ _ _
      | exact ih1 _ _ _ _ _ _ _ _ _
      | exact LeO.none _
      | refine LeO.ite ?_ ?_
      | refine LeO.bind ?_ (fun _ => ?_)
    · intro y0 y1 y2 y3 y4 y5 y6 y7 y8
      unfold hurdleref09_Calls.l1
      repeat' first
      | (with_reducible exact ih0 _ _ _ _ _ _ _ _)
      | (with_reducible exact ih1 _ _ _ _ _ _ _ _ _)
      | (with_reducible exact LeO.refl _)
      | (with_reducible exact LeO.none _)
      | (with_reducible refine LeO.ite ?_ ?_)
      | (with_reducible refine LeO.bind ?_ (fun _ => ?_))
      | exact ih0 _ _ _ _ _ _ _ _
      | exact ih1 _ _ _ _ _ _ _ _ _
      | exact LeO.none _
      | refine LeO.ite ?_ ?_
      | refine LeO.bind ?_ (fun _ => ?_)
theorem hurdleref09_Calls.mono : ∀ a0 k, LeO (hurdleref09_Calls.f k a0) (hurdleref09_Calls.f (k + 1) a0) := by
  intro a0 k
  obtain ⟨ih0, ih1⟩ := hurdleref09_Calls.mono_l k
  unfold hurdleref09_Calls.f
  repeat' first
      | (with_reducible exact ih0 _ _ _ _ _ _ _ _)
      | (with_reducible exact ih1 _ _ _ _ _ _ _ _ _)
      | (with_reducible exact LeO.refl _)
      | (with_reducible exact LeO.none _)
      | (with_reducible refine LeO.ite ?_ ?_)
      | (with_reducible refine LeO.bind ?_ (fun _ => ?_))
      | exact ih0 _ _ _ _ _ _ _ _
      | exact ih1 _ _ _ _ _ _ _ _ _
      | exact LeO.none _
      | refine LeO.ite ?_ ?_
      | refine LeO.bind ?_ (fun _ => ?_)
set_option maxHeartbeats 8000000 in
set_option maxRecDepth 100000 in
theorem hurdleref09_Calls.calls (k : Nat) (a0 : Int) (r1 : List ByteArray) (r2 : List Int) (w : World) (h : hurdleref09_Calls.f k a0 = some (r1, r2)) :
    Calls Try.prog 53 #[.int .u32 a0] w fun e w' => ∃ v0_ v1_ : Value, e = .returned (.tuple #[v0_, v1_]) ∧ Kd.R Kd.string 9 w' w.heap.size (fun _ => True) v0_ r1 ∧ Kd.R (Kd.int .u32) 25 w' w.heap.size (fun _ => True) v1_ r2 ∧ Below w.heap.size w w' := by
  have HB := Aside0.mk (Below.refl w.heap.size w)
  have H : ((hurdleref09_Machines.f).bind fun bt144 => (hurdleref09_Calls.l0 k a0 (([(⟨#[114, 101, 97, 100]⟩ : ByteArray), (⟨#[119, 114, 105, 116, 101]⟩ : ByteArray), (⟨#[111, 112, 101, 110]⟩ : ByteArray), (⟨#[99, 108, 111, 115, 101]⟩ : ByteArray), (⟨#[101, 120, 105, 116]⟩ : ByteArray), (⟨#[102, 111, 114, 107]⟩ : ByteArray), (⟨#[107, 105, 108, 108]⟩ : ByteArray), (⟨#[109, 109, 97, 112]⟩ : ByteArray)] : List ByteArray)) 1000000 (([(([0, 1, 2, 3, 60, 57, 62, 9] : List Int)), (([3, 4, 5, 6, 1, 2, 37, 90] : List Int)), (([63, 64, 1000000, 57, 93, 1000000, 129, 222] : List Int)), (([3, 4, 5, 6, 1, 2, 37, 1000000] : List Int))] : List (List Int))) bt144.2 ([] : List ByteArray) ([] : List Int) 0)) = some (r1, r2) := h
  clear h
  obtain ⟨y126, hy126⟩ : ∃ y_ : List ByteArray, y_ = (([(⟨#[114, 101, 97, 100]⟩ : ByteArray), (⟨#[119, 114, 105, 116, 101]⟩ : ByteArray), (⟨#[111, 112, 101, 110]⟩ : ByteArray), (⟨#[99, 108, 111, 115, 101]⟩ : ByteArray), (⟨#[101, 120, 105, 116]⟩ : ByteArray), (⟨#[102, 111, 114, 107]⟩ : ByteArray), (⟨#[107, 105, 108, 108]⟩ : ByteArray), (⟨#[109, 109, 97, 112]⟩ : ByteArray)] : List ByteArray)) := ⟨_, rfl⟩
  replace H : ((hurdleref09_Machines.f).bind fun bt144 => (hurdleref09_Calls.l0 k a0 y126 1000000 (([(([0, 1, 2, 3, 60, 57, 62, 9] : List Int)), (([3, 4, 5, 6, 1, 2, 37, 90] : List Int)), (([63, 64, 1000000, 57, 93, 1000000, 129, 222] : List Int)), (([3, 4, 5, 6, 1, 2, 37, 1000000] : List Int))] : List (List Int))) bt144.2 ([] : List ByteArray) ([] : List Int) 0)) = some (r1, r2) := by first | (rw [hy126]; with_reducible exact H) | (have H2_ := (Option.bind_some _ _).symm.trans H; rw [hy126]; with_reducible exact H2_) | (have H2_ := (Option.bind_some _ _).symm.trans H; with_reducible exact H2_) | with_reducible exact H | (rw [hy126]; exact H) | exact H
  have Ny126 := Aside0.mk hy126
  clear hy126
  obtain ⟨y129, hy129⟩ : ∃ y_ : List Int, y_ = (([0, 1, 2, 3, 60, 57, 62, 9] : List Int)) := ⟨_, rfl⟩
  replace H : ((hurdleref09_Machines.f).bind fun bt144 => (hurdleref09_Calls.l0 k a0 y126 1000000 (([y129, (([3, 4, 5, 6, 1, 2, 37, 90] : List Int)), (([63, 64, 1000000, 57, 93, 1000000, 129, 222] : List Int)), (([3, 4, 5, 6, 1, 2, 37, 1000000] : List Int))] : List (List Int))) bt144.2 ([] : List ByteArray) ([] : List Int) 0)) = some (r1, r2) := by first | (rw [hy129]; with_reducible exact H) | (have H2_ := (Option.bind_some _ _).symm.trans H; rw [hy129]; with_reducible exact H2_) | (have H2_ := (Option.bind_some _ _).symm.trans H; with_reducible exact H2_) | with_reducible exact H | (rw [hy129]; exact H) | exact H
  have Ny129 := Aside0.mk hy129
  clear hy129
  obtain ⟨y132, hy132⟩ : ∃ y_ : List Int, y_ = (([3, 4, 5, 6, 1, 2, 37, 90] : List Int)) := ⟨_, rfl⟩
  replace H : ((hurdleref09_Machines.f).bind fun bt144 => (hurdleref09_Calls.l0 k a0 y126 1000000 (([y129, y132, (([63, 64, 1000000, 57, 93, 1000000, 129, 222] : List Int)), (([3, 4, 5, 6, 1, 2, 37, 1000000] : List Int))] : List (List Int))) bt144.2 ([] : List ByteArray) ([] : List Int) 0)) = some (r1, r2) := by first | (rw [hy132]; with_reducible exact H) | (have H2_ := (Option.bind_some _ _).symm.trans H; rw [hy132]; with_reducible exact H2_) | (have H2_ := (Option.bind_some _ _).symm.trans H; with_reducible exact H2_) | with_reducible exact H | (rw [hy132]; exact H) | exact H
  have Ny132 := Aside0.mk hy132
  clear hy132
  obtain ⟨y135, hy135⟩ : ∃ y_ : List Int, y_ = (([63, 64, 1000000, 57, 93, 1000000, 129, 222] : List Int)) := ⟨_, rfl⟩
  replace H : ((hurdleref09_Machines.f).bind fun bt144 => (hurdleref09_Calls.l0 k a0 y126 1000000 (([y129, y132, y135, (([3, 4, 5, 6, 1, 2, 37, 1000000] : List Int))] : List (List Int))) bt144.2 ([] : List ByteArray) ([] : List Int) 0)) = some (r1, r2) := by first | (rw [hy135]; with_reducible exact H) | (have H2_ := (Option.bind_some _ _).symm.trans H; rw [hy135]; with_reducible exact H2_) | (have H2_ := (Option.bind_some _ _).symm.trans H; with_reducible exact H2_) | with_reducible exact H | (rw [hy135]; exact H) | exact H
  have Ny135 := Aside0.mk hy135
  clear hy135
  obtain ⟨y138, hy138⟩ : ∃ y_ : List Int, y_ = (([3, 4, 5, 6, 1, 2, 37, 1000000] : List Int)) := ⟨_, rfl⟩
  replace H : ((hurdleref09_Machines.f).bind fun bt144 => (hurdleref09_Calls.l0 k a0 y126 1000000 (([y129, y132, y135, y138] : List (List Int))) bt144.2 ([] : List ByteArray) ([] : List Int) 0)) = some (r1, r2) := by first | (rw [hy138]; with_reducible exact H) | (have H2_ := (Option.bind_some _ _).symm.trans H; rw [hy138]; with_reducible exact H2_) | (have H2_ := (Option.bind_some _ _).symm.trans H; with_reducible exact H2_) | with_reducible exact H | (rw [hy138]; exact H) | exact H
  have Ny138 := Aside0.mk hy138
  clear hy138
  obtain ⟨y141, hy141⟩ : ∃ y_ : List (List Int), y_ = (([y129, y132, y135, y138] : List (List Int))) := ⟨_, rfl⟩
  replace H : ((hurdleref09_Machines.f).bind fun bt144 => (hurdleref09_Calls.l0 k a0 y126 1000000 y141 bt144.2 ([] : List ByteArray) ([] : List Int) 0)) = some (r1, r2) := by first | (rw [hy141]; with_reducible exact H) | (have H2_ := (Option.bind_some _ _).symm.trans H; rw [hy141]; with_reducible exact H2_) | (have H2_ := (Option.bind_some _ _).symm.trans H; with_reducible exact H2_) | with_reducible exact H | (rw [hy141]; exact H) | exact H
  have Ny141 := Aside0.mk hy141
  clear hy141
  replace H := Option.bind_eq_some_iff.mp H
  obtain ⟨⟨t144, t145⟩, A20, H⟩ := H
  replace H : (hurdleref09_Calls.l0 k a0 y126 1000000 y141 t145 ([] : List ByteArray) ([] : List Int) 0) = some (r1, r2) := H
  have A2 := Aside0.mk A20
  clear A20
  have H' := Aside0.mk H
  clear H
  go_enter Try.func53, Try.ntmps53
  go_wp2_with (first | ((with_reducible refine gate_dst (N := 13) rfl ?_); refine Kd.R_lit Kd.string _ 9 ?hg (N := 13) ?hd (xs := ([(⟨#[114, 101, 97, 100]⟩ : ByteArray), (⟨#[119, 114, 105, 116, 101]⟩ : ByteArray), (⟨#[111, 112, 101, 110]⟩ : ByteArray), (⟨#[99, 108, 111, 115, 101]⟩ : ByteArray), (⟨#[101, 120, 105, 116]⟩ : ByteArray), (⟨#[102, 111, 114, 107]⟩ : ByteArray), (⟨#[107, 105, 108, 108]⟩ : ByteArray), (⟨#[109, 109, 97, 112]⟩ : ByteArray)] : List ByteArray)) (inner := [.string (⟨#[114, 101, 97, 100]⟩ : ByteArray), .string (⟨#[119, 114, 105, 116, 101]⟩ : ByteArray), .string (⟨#[111, 112, 101, 110]⟩ : ByteArray), .string (⟨#[99, 108, 111, 115, 101]⟩ : ByteArray), .string (⟨#[101, 120, 105, 116]⟩ : ByteArray), .string (⟨#[102, 111, 114, 107]⟩ : ByteArray), .string (⟨#[107, 105, 108, 108]⟩ : ByteArray), .string (⟨#[109, 109, 97, 112]⟩ : ByteArray)]) (ok := fun _ => True) (okp := fun _ => True) ?hr ?hp (fun _ hk => hk) trivial (Below.refl _ _) (Nat.le_refl _) (by simp) ?_; (case hd => rfl); (case hg => rfl); (case hr => first | (go_simp; done) | (go_simp; rfl)); (case hp => exact (Reps.one (show Kd.M Kd.string _ _ _ (⟨#[114, 101, 97, 100]⟩ : ByteArray) [.string (⟨#[114, 101, 97, 100]⟩ : ByteArray)] from rfl) (Reps.one (show Kd.M Kd.string _ _ _ (⟨#[119, 114, 105, 116, 101]⟩ : ByteArray) [.string (⟨#[119, 114, 105, 116, 101]⟩ : ByteArray)] from rfl) (Reps.one (show Kd.M Kd.string _ _ _ (⟨#[111, 112, 101, 110]⟩ : ByteArray) [.string (⟨#[111, 112, 101, 110]⟩ : ByteArray)] from rfl) (Reps.one (show Kd.M Kd.string _ _ _ (⟨#[99, 108, 111, 115, 101]⟩ : ByteArray) [.string (⟨#[99, 108, 111, 115, 101]⟩ : ByteArray)] from rfl) (Reps.one (show Kd.M Kd.string _ _ _ (⟨#[101, 120, 105, 116]⟩ : ByteArray) [.string (⟨#[101, 120, 105, 116]⟩ : ByteArray)] from rfl) (Reps.one (show Kd.M Kd.string _ _ _ (⟨#[102, 111, 114, 107]⟩ : ByteArray) [.string (⟨#[102, 111, 114, 107]⟩ : ByteArray)] from rfl) (Reps.one (show Kd.M Kd.string _ _ _ (⟨#[107, 105, 108, 108]⟩ : ByteArray) [.string (⟨#[107, 105, 108, 108]⟩ : ByteArray)] from rfl) (Reps.one (show Kd.M Kd.string _ _ _ (⟨#[109, 109, 97, 112]⟩ : ByteArray) [.string (⟨#[109, 109, 97, 112]⟩ : ByteArray)] from rfl) (Reps.none _ _)))))))))); intro v127 w3 ho4 hb hg_ hnew_; clear hg_ hnew_; (first | rw [← Ny126.out] at ho4 | (simp only [Int.reduceToNat] at ho4; rw [← Ny126.out] at ho4)); have n0_ := Aside0.mk (Kd.R_lower ho4 (below_size (by repeat (first | (with_reducible first | exact HB.out | apply below_alloc | apply pw_below_drewN | apply below_drew1) | exact HB.out)))); have n1_ := Aside0.mk (below_step (by repeat (first | (with_reducible first | exact HB.out | apply below_alloc | apply pw_below_drewN | apply below_drew1) | exact HB.out)) hb); clear HB; have HO128 := n0_; have HB := n1_; clear n0_ n1_; clear hb ho4) | ((with_reducible refine gate_dst (N := 14) rfl ?_); refine Kd.R_lit (Kd.int .u32) _ 25 ?hg (N := 14) ?hd (xs := ([0, 1, 2, 3, 60, 57, 62, 9] : List Int)) (inner := [.int .u32 0, .int .u32 1, .int .u32 2, .int .u32 3, .int .u32 60, .int .u32 57, .int .u32 62, .int .u32 9]) (ok := fun _ => True) (okp := fun _ => True) ?hr ?hp (fun _ hk => hk) trivial (Below.refl _ _) (Nat.le_refl _) (by simp) ?_; (case hd => rfl); (case hg => rfl); (case hr => first | (go_simp; done) | (go_simp; rfl)); (case hp => exact (Reps.one (show Kd.M (Kd.int .u32) _ _ _ 0 [.int .u32 0] from rfl) (Reps.one (show Kd.M (Kd.int .u32) _ _ _ 1 [.int .u32 1] from rfl) (Reps.one (show Kd.M (Kd.int .u32) _ _ _ 2 [.int .u32 2] from rfl) (Reps.one (show Kd.M (Kd.int .u32) _ _ _ 3 [.int .u32 3] from rfl) (Reps.one (show Kd.M (Kd.int .u32) _ _ _ 60 [.int .u32 60] from rfl) (Reps.one (show Kd.M (Kd.int .u32) _ _ _ 57 [.int .u32 57] from rfl) (Reps.one (show Kd.M (Kd.int .u32) _ _ _ 62 [.int .u32 62] from rfl) (Reps.one (show Kd.M (Kd.int .u32) _ _ _ 9 [.int .u32 9] from rfl) (Reps.none _ _)))))))))); intro v130 w5 ho6 hb hg_ hnew_; clear hg_ hnew_; (first | rw [← Ny129.out] at ho6 | (simp only [Int.reduceToNat] at ho6; rw [← Ny129.out] at ho6)); have n0_ := Aside0.mk (Kd.R_below (by (with_reducible repeat (first | apply Kd.R_alloc | apply Kd.R_drewN | apply Kd.R_drew)); exact HO128.out) hb); have n1_ := Aside0.mk (Kd.R_lower ho6 (below_size (by repeat (first | (with_reducible first | exact HB.out | apply below_alloc | apply pw_below_drewN | apply below_drew1) | exact HB.out)))); have n2_ := Aside0.mk (below_step (by repeat (first | (with_reducible first | exact HB.out | apply below_alloc | apply pw_below_drewN | apply below_drew1) | exact HB.out)) hb); clear HO128; clear HB; have HO128 := n0_; have HO131 := n1_; have HB := n2_; clear n0_ n1_ n2_; clear hb ho6) | ((with_reducible refine gate_dst (N := 15) rfl ?_); refine Kd.R_lit (Kd.int .u32) _ 25 ?hg (N := 15) ?hd (xs := ([3, 4, 5, 6, 1, 2, 37, 90] : List Int)) (inner := [.int .u32 3, .int .u32 4, .int .u32 5, .int .u32 6, .int .u32 1, .int .u32 2, .int .u32 37, .int .u32 90]) (ok := fun _ => True) (okp := fun _ => True) ?hr ?hp (fun _ hk => hk) trivial (Below.refl _ _) (Nat.le_refl _) (by simp) ?_; (case hd => rfl); (case hg => rfl); (case hr => first | (go_simp; done) | (go_simp; rfl)); (case hp => exact (Reps.one (show Kd.M (Kd.int .u32) _ _ _ 3 [.int .u32 3] from rfl) (Reps.one (show Kd.M (Kd.int .u32) _ _ _ 4 [.int .u32 4] from rfl) (Reps.one (show Kd.M (Kd.int .u32) _ _ _ 5 [.int .u32 5] from rfl) (Reps.one (show Kd.M (Kd.int .u32) _ _ _ 6 [.int .u32 6] from rfl) (Reps.one (show Kd.M (Kd.int .u32) _ _ _ 1 [.int .u32 1] from rfl) (Reps.one (show Kd.M (Kd.int .u32) _ _ _ 2 [.int .u32 2] from rfl) (Reps.one (show Kd.M (Kd.int .u32) _ _ _ 37 [.int .u32 37] from rfl) (Reps.one (show Kd.M (Kd.int .u32) _ _ _ 90 [.int .u32 90] from rfl) (Reps.none _ _)))))))))); intro v133 w7 ho8 hb hg_ hnew_; clear hg_ hnew_; (first | rw [← Ny132.out] at ho8 | (simp only [Int.reduceToNat] at ho8; rw [← Ny132.out] at ho8)); have n0_ := Aside0.mk (Kd.R_below (by (with_reducible repeat (first | apply Kd.R_alloc | apply Kd.R_drewN | apply Kd.R_drew)); exact HO128.out) hb); have n1_ := Aside0.mk (Kd.R_elder' (by (with_reducible repeat (first | apply Kd.R_alloc | apply Kd.R_drewN | apply Kd.R_drew)); exact HO131.out) (Kd.R_base ho8) hb); have n2_ := Aside0.mk (Kd.R_lower (Kd.R_new' ho8 (Kd.R_lt (by (with_reducible repeat (first | apply Kd.R_alloc | apply Kd.R_drewN | apply Kd.R_drew)); exact HO131.out))) (below_size (by repeat (first | (with_reducible first | exact HB.out | apply below_alloc | apply pw_below_drewN | apply below_drew1) | exact HB.out)))); have n3_ := Aside0.mk (below_step (by repeat (first | (with_reducible first | exact HB.out | apply below_alloc | apply pw_below_drewN | apply below_drew1) | exact HB.out)) hb); clear HO128; clear HO131; clear HB; have HO128 := n0_; have HO131 := n1_; have HO134 := n2_; have HB := n3_; clear n0_ n1_ n2_ n3_; clear hb ho8) | ((with_reducible refine gate_dst (N := 18) rfl ?_); refine Kd.R_lit (Kd.int .u32) _ 25 ?hg (N := 18) ?hd (xs := ([63, 64, 1000000, 57, 93, 1000000, 129, 222] : List Int)) (inner := [.int .u32 63, .int .u32 64, .int .u32 1000000, .int .u32 57, .int .u32 93, .int .u32 1000000, .int .u32 129, .int .u32 222]) (ok := fun _ => True) (okp := fun _ => True) ?hr ?hp (fun _ hk => hk) trivial (Below.refl _ _) (Nat.le_refl _) (by simp) ?_; (case hd => rfl); (case hg => rfl); (case hr => first | (go_simp; done) | (go_simp; rfl)); (case hp => exact (Reps.one (show Kd.M (Kd.int .u32) _ _ _ 63 [.int .u32 63] from rfl) (Reps.one (show Kd.M (Kd.int .u32) _ _ _ 64 [.int .u32 64] from rfl) (Reps.one (show Kd.M (Kd.int .u32) _ _ _ 1000000 [.int .u32 1000000] from rfl) (Reps.one (show Kd.M (Kd.int .u32) _ _ _ 57 [.int .u32 57] from rfl) (Reps.one (show Kd.M (Kd.int .u32) _ _ _ 93 [.int .u32 93] from rfl) (Reps.one (show Kd.M (Kd.int .u32) _ _ _ 1000000 [.int .u32 1000000] from rfl) (Reps.one (show Kd.M (Kd.int .u32) _ _ _ 129 [.int .u32 129] from rfl) (Reps.one (show Kd.M (Kd.int .u32) _ _ _ 222 [.int .u32 222] from rfl) (Reps.none _ _)))))))))); intro v136 w9 ho10 hb hg_ hnew_; clear hg_ hnew_; (first | rw [← Ny135.out] at ho10 | (simp only [Int.reduceToNat] at ho10; rw [← Ny135.out] at ho10)); have n0_ := Aside0.mk (Kd.R_below (by (with_reducible repeat (first | apply Kd.R_alloc | apply Kd.R_drewN | apply Kd.R_drew)); exact HO128.out) hb); have n1_ := Aside0.mk (Kd.R_elder' (by (with_reducible repeat (first | apply Kd.R_alloc | apply Kd.R_drewN | apply Kd.R_drew)); exact HO131.out) (Kd.R_base ho10) hb); have n2_ := Aside0.mk (Kd.R_elder' (by (with_reducible repeat (first | apply Kd.R_alloc | apply Kd.R_drewN | apply Kd.R_drew)); exact HO134.out) (Kd.R_base ho10) hb); have n3_ := Aside0.mk (Kd.R_lower (Kd.R_new' (Kd.R_new' ho10 (Kd.R_lt (by (with_reducible repeat (first | apply Kd.R_alloc | apply Kd.R_drewN | apply Kd.R_drew)); exact HO131.out))) (Kd.R_lt (by (with_reducible repeat (first | apply Kd.R_alloc | apply Kd.R_drewN | apply Kd.R_drew)); exact HO134.out))) (below_size (by repeat (first | (with_reducible first | exact HB.out | apply below_alloc | apply pw_below_drewN | apply below_drew1) | exact HB.out)))); have n4_ := Aside0.mk (below_step (by repeat (first | (with_reducible first | exact HB.out | apply below_alloc | apply pw_below_drewN | apply below_drew1) | exact HB.out)) hb); clear HO128; clear HO131; clear HO134; clear HB; have HO128 := n0_; have HO131 := n1_; have HO134 := n2_; have HO137 := n3_; have HB := n4_; clear n0_ n1_ n2_ n3_ n4_; clear hb ho10) | ((with_reducible refine gate_dst (N := 20) rfl ?_); refine Kd.R_lit (Kd.int .u32) _ 25 ?hg (N := 20) ?hd (xs := ([3, 4, 5, 6, 1, 2, 37, 1000000] : List Int)) (inner := [.int .u32 3, .int .u32 4, .int .u32 5, .int .u32 6, .int .u32 1, .int .u32 2, .int .u32 37, .int .u32 1000000]) (ok := fun _ => True) (okp := fun _ => True) ?hr ?hp (fun _ hk => hk) trivial (Below.refl _ _) (Nat.le_refl _) (by simp) ?_; (case hd => rfl); (case hg => rfl); (case hr => first | (go_simp; done) | (go_simp; rfl)); (case hp => exact (Reps.one (show Kd.M (Kd.int .u32) _ _ _ 3 [.int .u32 3] from rfl) (Reps.one (show Kd.M (Kd.int .u32) _ _ _ 4 [.int .u32 4] from rfl) (Reps.one (show Kd.M (Kd.int .u32) _ _ _ 5 [.int .u32 5] from rfl) (Reps.one (show Kd.M (Kd.int .u32) _ _ _ 6 [.int .u32 6] from rfl) (Reps.one (show Kd.M (Kd.int .u32) _ _ _ 1 [.int .u32 1] from rfl) (Reps.one (show Kd.M (Kd.int .u32) _ _ _ 2 [.int .u32 2] from rfl) (Reps.one (show Kd.M (Kd.int .u32) _ _ _ 37 [.int .u32 37] from rfl) (Reps.one (show Kd.M (Kd.int .u32) _ _ _ 1000000 [.int .u32 1000000] from rfl) (Reps.none _ _)))))))))); intro v139 w11 ho12 hb hg_ hnew_; clear hg_ hnew_; (first | rw [← Ny138.out] at ho12 | (simp only [Int.reduceToNat] at ho12; rw [← Ny138.out] at ho12)); have n0_ := Aside0.mk (Kd.R_below (by (with_reducible repeat (first | apply Kd.R_alloc | apply Kd.R_drewN | apply Kd.R_drew)); exact HO128.out) hb); have n1_ := Aside0.mk (Kd.R_elder' (by (with_reducible repeat (first | apply Kd.R_alloc | apply Kd.R_drewN | apply Kd.R_drew)); exact HO131.out) (Kd.R_base ho12) hb); have n2_ := Aside0.mk (Kd.R_elder' (by (with_reducible repeat (first | apply Kd.R_alloc | apply Kd.R_drewN | apply Kd.R_drew)); exact HO134.out) (Kd.R_base ho12) hb); have n3_ := Aside0.mk (Kd.R_elder' (by (with_reducible repeat (first | apply Kd.R_alloc | apply Kd.R_drewN | apply Kd.R_drew)); exact HO137.out) (Kd.R_base ho12) hb); have n4_ := Aside0.mk (Kd.R_lower (Kd.R_new' (Kd.R_new' (Kd.R_new' ho12 (Kd.R_lt (by (with_reducible repeat (first | apply Kd.R_alloc | apply Kd.R_drewN | apply Kd.R_drew)); exact HO131.out))) (Kd.R_lt (by (with_reducible repeat (first | apply Kd.R_alloc | apply Kd.R_drewN | apply Kd.R_drew)); exact HO134.out))) (Kd.R_lt (by (with_reducible repeat (first | apply Kd.R_alloc | apply Kd.R_drewN | apply Kd.R_drew)); exact HO137.out))) (below_size (by repeat (first | (with_reducible first | exact HB.out | apply below_alloc | apply pw_below_drewN | apply below_drew1) | exact HB.out)))); have n5_ := Aside0.mk (below_step (by repeat (first | (with_reducible first | exact HB.out | apply below_alloc | apply pw_below_drewN | apply below_drew1) | exact HB.out)) hb); clear HO128; clear HO131; clear HO134; clear HO137; clear HB; have HO128 := n0_; have HO131 := n1_; have HO134 := n2_; have HO137 := n3_; have HO140 := n4_; have HB := n5_; clear n0_ n1_ n2_ n3_ n4_ n5_; clear hb ho12; obtain ⟨Ao13, co13, eo13⟩ := Kd.R_slice HO131.out; subst eo13; obtain ⟨Ao14, co14, eo14⟩ := Kd.R_slice HO134.out; subst eo14; obtain ⟨Ao15, co15, eo15⟩ := Kd.R_slice HO137.out; subst eo15; obtain ⟨Ao16, co16, eo16⟩ := Kd.R_slice HO140.out; subst eo16) | ((with_reducible refine gate_dst (N := 21) rfl ?_); refine Kd.N_lit (Kd.slice 25 (Kd.int .u32)) _ 76 ?hg (N' := 21) ?hd (xs := ([y129, y132, y135, y138] : List (List Int))) (inner := [.slice Ao13 y129.length co13, .slice Ao14 y132.length co14, .slice Ao15 y135.length co15, .slice Ao16 y138.length co16]) (ok := (fun k_ => some k_ ≠ (v127 : Value).ownBlock)) (okp := (fun k_ => some k_ ≠ (v127 : Value).ownBlock)) ?hr ?hp (fun _ hk => hk) ((show ∀ k_, w11.heap.size ≤ k_ → (fun k_ => some k_ ≠ (v127 : Value).ownBlock) k_ from fun k_ hk => Kd.fresh' (Kd.R_lt (by (with_reducible repeat (first | apply Kd.R_alloc | apply Kd.R_drewN | apply Kd.R_drew)); exact HO128.out)) k_ hk) _ (Nat.le_refl _)) (Below.refl _ _) (Nat.le_refl _) (by simp) ?_; (case hd => rfl); (case hg => rfl); (case hr => first | (go_simp; done) | (go_simp; rfl)); (case hp => exact (Reps.one (show Kd.FK (Kd.slice 25 (Kd.int .u32)) _ _ y129 [.slice Ao13 y129.length co13] from (Kd.FK_slice_mk (Kd.R_reads' (Kd.R_mono (ok' := (fun k_ => some k_ ≠ (v127 : Value).ownBlock)) (Kd.R_apart' (HO131.out) (Kd.R_typed HO128.out) (by decide)) (fun k_ hk => hk.2))).2.1 (Kd.R_F (Kd.R_mono (ok' := (fun k_ => some k_ ≠ (v127 : Value).ownBlock)) (Kd.R_apart' (HO131.out) (Kd.R_typed HO128.out) (by decide)) (fun k_ hk => hk.2))))) (Reps.one (show Kd.FK (Kd.slice 25 (Kd.int .u32)) _ _ y132 [.slice Ao14 y132.length co14] from (Kd.FK_slice_mk (Kd.R_reads' (Kd.R_mono (ok' := (fun k_ => some k_ ≠ (v127 : Value).ownBlock)) (Kd.R_apart' (HO134.out) (Kd.R_typed HO128.out) (by decide)) (fun k_ hk => hk.2))).2.1 (Kd.R_F (Kd.R_mono (ok' := (fun k_ => some k_ ≠ (v127 : Value).ownBlock)) (Kd.R_apart' (HO134.out) (Kd.R_typed HO128.out) (by decide)) (fun k_ hk => hk.2))))) (Reps.one (show Kd.FK (Kd.slice 25 (Kd.int .u32)) _ _ y135 [.slice Ao15 y135.length co15] from (Kd.FK_slice_mk (Kd.R_reads' (Kd.R_mono (ok' := (fun k_ => some k_ ≠ (v127 : Value).ownBlock)) (Kd.R_apart' (HO137.out) (Kd.R_typed HO128.out) (by decide)) (fun k_ hk => hk.2))).2.1 (Kd.R_F (Kd.R_mono (ok' := (fun k_ => some k_ ≠ (v127 : Value).ownBlock)) (Kd.R_apart' (HO137.out) (Kd.R_typed HO128.out) (by decide)) (fun k_ hk => hk.2))))) (Reps.one (show Kd.FK (Kd.slice 25 (Kd.int .u32)) _ _ y138 [.slice Ao16 y138.length co16] from (Kd.FK_slice_mk (Kd.R_reads' (Kd.R_mono (ok' := (fun k_ => some k_ ≠ (v127 : Value).ownBlock)) (Kd.R_apart' (HO140.out) (Kd.R_typed HO128.out) (by decide)) (fun k_ hk => hk.2))).2.1 (Kd.R_F (Kd.R_mono (ok' := (fun k_ => some k_ ≠ (v127 : Value).ownBlock)) (Kd.R_apart' (HO140.out) (Kd.R_typed HO128.out) (by decide)) (fun k_ hk => hk.2))))) (Reps.none _ _)))))); intro v142 w17 ho18 hb hg_ hnew_; clear hg_ hnew_; (first | rw [← Ny141.out] at ho18 | (simp only [Int.reduceToNat] at ho18; rw [← Ny141.out] at ho18)); have n0_ := Aside0.mk (Kd.R_below (by (with_reducible repeat (first | apply Kd.R_alloc | apply Kd.R_drewN | apply Kd.R_drew)); exact HO128.out) hb); have n1_ := Aside0.mk (Kd.N_lower ho18 (below_size (by repeat (first | (with_reducible first | exact HB.out | apply below_alloc | apply pw_below_drewN | apply below_drew1) | exact HB.out)))); have n2_ := Aside0.mk (below_step (by repeat (first | (with_reducible first | exact HB.out | apply below_alloc | apply pw_below_drewN | apply below_drew1) | exact HB.out)) hb); clear HO128; clear HB; clear HO131; clear HO134; clear HO137; clear HO140; have HO128 := n0_; have HO143 := n1_; have HB := n2_; clear n0_ n1_ n2_; clear hb ho18) | ((with_reducible refine gate_callee (f := 50) rfl ?_); refine goesL_ (some 23) rfl rfl Try.func50 (by kernel_rfl) rfl #[] rfl (by (try simp only [List.map_toArray, List.map_cons, List.map_nil]); first | done | rfl | (simp only [List.length_drop, List.length_take]; rfl)) ?_; (with_reducible refine (hurdleref09_Machines.calls  t144 t145 _ A2.out).mono ?_); rintro e w19 ⟨v146, v148, rfl, ho0, ho1, hb⟩; refine ⟨_, rfl, ?_⟩; have n0_ := Aside0.mk (Kd.R_elder' (by (with_reducible repeat (first | apply Kd.R_alloc | apply Kd.R_drewN | apply Kd.R_drew)); exact HO128.out) (Kd.R_base ho0) hb); have n1_ := Aside0.mk (Kd.N_mono (Kd.N_told (Kd.N_told (Kd.N_old (by (with_reducible repeat (first | apply Kd.N_alloc | apply Kd.N_drewN | apply Kd.N_drew)); exact HO143.out) hb) (Kd.R_base ho0)) (Kd.R_base ho1)) (fun _ h_ => h_.1)); have n2_ := Aside0.mk (Kd.R_lower (Kd.R_new' ho0 (Kd.R_lt (by (with_reducible repeat (first | apply Kd.R_alloc | apply Kd.R_drewN | apply Kd.R_drew)); exact HO128.out))) (below_size (by repeat (first | (with_reducible first | exact HB.out | apply below_alloc | apply pw_below_drewN | apply below_drew1) | exact HB.out)))); have n3_ := Aside0.mk (Kd.R_lower ho1 (below_size (by repeat (first | (with_reducible first | exact HB.out | apply below_alloc | apply pw_below_drewN | apply below_drew1) | exact HB.out)))); have n4_ := Aside0.mk (below_step (by repeat (first | (with_reducible first | exact HB.out | apply below_alloc | apply pw_below_drewN | apply below_drew1) | exact HB.out)) hb); clear HO128; clear HO143; clear HB; have HO128 := n0_; have HO143 := n1_; have HO147 := n2_; have HO149 := n3_; have HB := n4_; clear n0_ n1_ n2_ n3_ n4_; (try clear hb); (try clear hb2); (try clear hk); (try clear hi); (try clear ho0); (try clear ho1)))
  go_loopg [9, 10, 11] k (fun kq v9 v10 v11 w' => ∃ (x9_1 : List ByteArray) (x10_1 : List Int) (x11_1 : Int), v11 = .int .i64 x11_1 ∧ Aside0 (hurdleref09_Calls.l0 kq a0 y126 1000000 y141 t145 x9_1 x10_1 x11_1 = some (r1, r2)) ∧ Aside0 (kq ≤ k) ∧ Aside0 (Kd.R Kd.string 9 w' w.heap.size (fun k_ => some k_ ≠ (v9 : Value).ownBlock) v127 y126) ∧ Aside0 (Kd.N (Kd.slice 25 (Kd.int .u32)) 76 w' w.heap.size (fun k_ => some k_ ≠ (v127 : Value).ownBlock ∧ some k_ ≠ (v148 : Value).ownBlock ∧ some k_ ≠ (v9 : Value).ownBlock ∧ some k_ ≠ (v10 : Value).ownBlock) v142 y141) ∧ Aside0 (Kd.R (Kd.int .u32) 25 w' w.heap.size (fun k_ => some k_ ≠ (v10 : Value).ownBlock) v148 t145) ∧ Aside0 (Kd.R Kd.string 9 w' w.heap.size (fun k_ => some k_ ≠ (v127 : Value).ownBlock) v9 x9_1) ∧ Aside0 (Kd.R (Kd.int .u32) 25 w' w.heap.size (fun k_ => some k_ ≠ (v148 : Value).ownBlock) v10 x10_1) ∧ Aside0 (Below w.heap.size w w'))
  case atStart => exact ⟨(([] : List ByteArray)), (([] : List Int)), (0), (by first | rfl | (simp; done) | (simp [*]; done)), H', ⟨Nat.le_refl _⟩, ⟨by (with_reducible repeat (first | apply Kd.R_alloc | apply Kd.R_drewN | apply Kd.R_drew)); exact Kd.R_mono HO128.out (fun _ hk => (by simp [Value.ownBlock]))⟩, ⟨by (with_reducible repeat (first | apply Kd.N_alloc | apply Kd.N_drewN | apply Kd.N_drew)); exact Kd.N_mono HO143.out (fun _ hk => ⟨hk.1.1, ⟨hk.2, ⟨(by simp [Value.ownBlock]), (by simp [Value.ownBlock])⟩⟩⟩)⟩, ⟨by (with_reducible repeat (first | apply Kd.R_alloc | apply Kd.R_drewN | apply Kd.R_drew)); exact Kd.R_mono HO149.out (fun _ hk => (by simp [Value.ownBlock]))⟩, ⟨by first | exact Kd.R_nil _ _ _ _ _ | exact Kd.N_nil _ _ _ _ _ | exact Kd.V_nil _ _ _ _ _ | exact Kd.Q_nil _ _ _ _ _ | exact Kd.S_nil _ _ _ _ _⟩, ⟨by first | exact Kd.R_nil _ _ _ _ _ | exact Kd.N_nil _ _ _ _ _ | exact Kd.V_nil _ _ _ _ _ | exact Kd.Q_nil _ _ _ _ _ | exact Kd.S_nil _ _ _ _ _⟩, ⟨by repeat (first | (with_reducible first | exact HB.out | apply below_alloc | apply pw_below_drewN | apply below_drew1) | exact HB.out)⟩⟩
  case round =>
    clear H'
    try clear p2
    try clear c5
    obtain ⟨x9_1, x10_1, x11_1, rfl, HA, HK1, HO_4, HO_6, HO_8, HO_9, HO_10, HB⟩ := hrel
    cases gk with
    | zero => exact absurd HA.out (by simp [hurdleref09_Calls.l0])
    | succ k1 =>
      have H := HA.out
      clear HA
      simp only [hurdleref09_Calls.l0] at H
      by_cases c20 : x11_1 < 4
      · rw [if_pos c20] at H
        have c20b0 : decide (x11_1 < 4) = true := decide_eq_true c20
        clear c20
        have H' := Aside0.mk H
        clear H
        go_wp2
        go_loopg [9, 10, 12] k1 (fun kq v9 v10 v12 w' => ∃ (x9_2 : List ByteArray) (x10_2 : List Int) (x12_2 : Int), v12 = .int .i64 x12_2 ∧ Aside0 (hurdleref09_Calls.l1 kq a0 y126 1000000 y141 t145 x9_2 x10_2 x11_1 x12_2 = some (r1, r2)) ∧ Aside0 (kq ≤ k1) ∧ Aside0 (Kd.R Kd.string 9 w' w.heap.size (fun k_ => some k_ ≠ (v9 : Value).ownBlock) v127 y126) ∧ Aside0 (Kd.N (Kd.slice 25 (Kd.int .u32)) 76 w' w.heap.size (fun k_ => some k_ ≠ (v127 : Value).ownBlock ∧ some k_ ≠ (v148 : Value).ownBlock ∧ some k_ ≠ (v9 : Value).ownBlock ∧ some k_ ≠ (v10 : Value).ownBlock) v142 y141) ∧ Aside0 (Kd.R (Kd.int .u32) 25 w' w.heap.size (fun k_ => some k_ ≠ (v10 : Value).ownBlock) v148 t145) ∧ Aside0 (Kd.R Kd.string 9 w' w.heap.size (fun k_ => some k_ ≠ (v127 : Value).ownBlock) v9 x9_2) ∧ Aside0 (Kd.R (Kd.int .u32) 25 w' w.heap.size (fun k_ => some k_ ≠ (v148 : Value).ownBlock) v10 x10_2) ∧ Aside0 (Below w.heap.size w w'))
        case atStart => exact ⟨(x9_1), (x10_1), (0), (by first | rfl | (simp; done) | (simp [*]; done)), H', ⟨Nat.le_refl _⟩, ⟨by (with_reducible repeat (first | apply Kd.R_alloc | apply Kd.R_drewN | apply Kd.R_drew)); exact HO_4.out⟩, ⟨by (with_reducible repeat (first | apply Kd.N_alloc | apply Kd.N_drewN | apply Kd.N_drew)); exact HO_6.out⟩, ⟨by (with_reducible repeat (first | apply Kd.R_alloc | apply Kd.R_drewN | apply Kd.R_drew)); exact HO_8.out⟩, ⟨by (with_reducible repeat (first | apply Kd.R_alloc | apply Kd.R_drewN | apply Kd.R_drew)); exact HO_9.out⟩, ⟨by (with_reducible repeat (first | apply Kd.R_alloc | apply Kd.R_drewN | apply Kd.R_drew)); exact HO_10.out⟩, ⟨by repeat (first | (with_reducible first | exact HB.out | apply below_alloc | apply pw_below_drewN | apply below_drew1) | exact HB.out)⟩⟩
        case round =>
          clear H'
          try clear c2
          try clear p2
          try clear c5
          try clear c20
          try clear c20b0
          try clear p2
          obtain ⟨x9_2, x10_2, x12_2, rfl, HA, HK2, HO_4, HO_6, HO_8, HO_9, HO_10, HB⟩ := hrel
          cases gk with
          | zero => exact absurd HA.out (by simp [hurdleref09_Calls.l1])
          | succ k2 =>
            have H := HA.out
            clear HA
            simp only [hurdleref09_Calls.l1] at H
            by_cases c21 : x12_2 < 8
            · rw [if_pos c21] at H
              have c21b0 : decide (x12_2 < 8) = true := decide_eq_true c21
              clear c21
              by_cases c22 : 0 ≤ x11_1
              · rw [if_pos c22] at H
                have c22b0 : decide (0 ≤ x11_1) = true := decide_eq_true c22
                clear c22
                by_cases c23 : x11_1 < (t145.length : Int)
                · rw [if_pos c23] at H
                  have c23b0 : decide (x11_1 < (t145.length : Int)) = true := decide_eq_true c23
                  clear c23
                  by_cases c24 : (rd t145 x11_1) = a0
                  · rw [if_pos c24] at H
                    have c24b0 : ((rd t145 x11_1) == a0) = true := beq_iff_eq.mpr c24
                    have c24b1 : ((rd t145 x11_1) != a0) = false := bne_eq_false_iff_eq.mpr c24
                    clear c24
                    by_cases c25 : x11_1 < (y141.length : Int)
                    · rw [if_pos c25] at H
                      have c25b0 : decide (x11_1 < (y141.length : Int)) = true := decide_eq_true c25
                      clear c25
                      by_cases c26 : 0 ≤ x12_2
                      · rw [if_pos c26] at H
                        have c26b0 : decide (0 ≤ x12_2) = true := decide_eq_true c26
                        clear c26
                        by_cases c27 : x12_2 < ((rd_L3 y141 x11_1).length : Int)
                        · rw [if_pos c27] at H
                          have c27b0 : decide (x12_2 < ((rd_L3 y141 x11_1).length : Int)) = true := decide_eq_true c27
                          clear c27
                          by_cases c28 : (rd (rd_L3 y141 x11_1) x12_2) = 1000000
                          · rw [if_pos c28] at H
                            have c28b0 : ((rd (rd_L3 y141 x11_1) x12_2) == 1000000) = true := beq_iff_eq.mpr c28
                            have c28b1 : ((rd (rd_L3 y141 x11_1) x12_2) != 1000000) = false := bne_eq_false_iff_eq.mpr c28
                            clear c28
                            have H' := Aside0.mk H
                            clear H
                            obtain ⟨Ao29, co29, eo29⟩ := Kd.R_slice HO_8.out
                            subst eo29
                            have p150 : 0 ≤ (x11_1 : Int) := of_decide_eq_true (by first | (with_reducible assumption) | assumption)
                            have q150 : x11_1 < (t145.length : Int) := of_decide_eq_true (by first | (with_reducible assumption) | assumption)
                            obtain ⟨ad150, e150, hx150_0⟩ := Kd.at_int (Kd.R_reads' HO_8.out).2.2 x11_1 p150 q150
                            cases e150
                            replace p150 := eq_true p150
                            replace q150 := eq_true q150
                            obtain ⟨Ao30, co30, eo30⟩ := Kd.N_slice HO_6.out
                            subst eo30
                            have p151 : 0 ≤ (x11_1 : Int) := of_decide_eq_true (by first | (with_reducible assumption) | assumption)
                            have q151 : x11_1 < (y141.length : Int) := of_decide_eq_true (by first | (with_reducible assumption) | assumption)
                            obtain ⟨ad151, A151_0, c151_0, e151, hx151_0, hl151_0, hi151_0⟩ := at_L3 (Kd.N_reads' HO_6.out).2.2 x11_1 p151 q151
                            cases e151
                            obtain ⟨ce151, hce151, hMe151, hcc151⟩ := Kd.N_get HO_6.out [] x11_1 p151 (by first | exact q151 | exact of_decide_eq_true (by first | (with_reducible assumption) | assumption) | (have e_ := (Kd.N_reads' HO_6.out).1; omega))
                            obtain ⟨ua151_0, uc151_0, rfl, ul151_0, ge151_0⟩ := Kd.FK_slice_open hMe151
                            have hv151_0 := hcc151 0 _ rfl
                            rw [Nat.add_zero, show ((Kd.slice 25 (Kd.int .u32))).sz = 1 from rfl, Nat.mul_one] at hv151_0
                            replace hv151_0 := Option.some.inj (hv151_0.symm.trans hx151_0)
                            injection hv151_0 with hva_ hvn_ hvc_
                            rw [hva_] at ge151_0
                            rw [hvc_] at ul151_0
                            have HL151_0 := Aside0.mk (show Kd.V (Kd.int .u32) 25 _ w.heap.size _ _ (rd_L3 y141 x11_1) from Kd.V_mk ul151_0 ge151_0)
                            clear hva_ hvn_ hvc_ ge151_0 ul151_0
                            clear hcc151 hce151
                            have HR151_0 := Aside0.mk hi151_0
                            have HC151_0 := Aside0.mk hl151_0
                            clear hi151_0 hl151_0
                            replace p151 := eq_true p151
                            replace q151 := eq_true q151
                            have p152 : 0 ≤ (x12_2 : Int) := of_decide_eq_true (by first | (with_reducible assumption) | assumption)
                            have q152 : x12_2 < ((rd_L3 y141 x11_1).length : Int) := of_decide_eq_true (by first | (with_reducible assumption) | assumption)
                            obtain ⟨ad152, e152, hx152_0⟩ := Kd.at_int (by repeat (first | (with_reducible exact HR151_0.out) | (with_reducible refine Kd.C_alloc ?_ _) | (with_reducible refine Kd.C_drewN ?_ _) | (with_reducible refine Kd.C_drew ?_) | exact HR151_0.out)) x12_2 p152 q152
                            cases e152
                            replace p152 := eq_true p152
                            replace q152 := eq_true q152
                            go_wp2
                            go_roundg k2
                            case measure => have := HK1.out; have := HK2.out; omega
                            case rel => exact ⟨(x9_2), (x10_2), (wrap64 (x12_2 + 1)), (by first | rfl | (simp; done) | (simp [*]; done)), H', ⟨by have := HK1.out; have := HK2.out; omega⟩, ⟨by (with_reducible repeat (first | apply Kd.R_alloc | apply Kd.R_drewN | apply Kd.R_drew)); exact HO_4.out⟩, ⟨by (with_reducible repeat (first | apply Kd.N_alloc | apply Kd.N_drewN | apply Kd.N_drew)); exact HO_6.out⟩, ⟨by (with_reducible repeat (first | apply Kd.R_alloc | apply Kd.R_drewN | apply Kd.R_drew)); exact HO_8.out⟩, ⟨by (with_reducible repeat (first | apply Kd.R_alloc | apply Kd.R_drewN | apply Kd.R_drew)); exact HO_9.out⟩, ⟨by (with_reducible repeat (first | apply Kd.R_alloc | apply Kd.R_drewN | apply Kd.R_drew)); exact HO_10.out⟩, ⟨by repeat (first | (with_reducible first | exact HB.out | apply below_alloc | apply pw_below_drewN | apply below_drew1) | exact HB.out)⟩⟩
                          · rw [if_neg c28] at H
                            have c28b0 : ((rd (rd_L3 y141 x11_1) x12_2) == 1000000) = false := beq_eq_false_iff_ne.mpr c28
                            have c28b1 : ((rd (rd_L3 y141 x11_1) x12_2) != 1000000) = true := bne_iff_ne.mpr c28
                            by_cases c31 : x12_2 < (y126.length : Int)
                            · rw [if_pos c31] at H
                              have c31b0 : decide (x12_2 < (y126.length : Int)) = true := decide_eq_true c31
                              clear c31
                              by_cases c32 : x9_2.length < 8796093022208
                              · rw [if_pos c32] at H
                                have LMc32 := Aside0.mk c32
                                clear c32
                                obtain ⟨y154, hy154⟩ : ∃ y_ : List ByteArray, y_ = (x9_2 ++ [rdOf ByteArray.empty y126 x12_2]) := ⟨_, rfl⟩
                                replace H : (if x10_2.length < 35184372088832 then (hurdleref09_Calls.l1 k2 a0 y126 1000000 y141 t145 y154 (x10_2 ++ [rd (rd_L3 y141 x11_1) x12_2]) x11_1 (wrap64 (x12_2 + 1))) else (none)) = some (r1, r2) := by first | (rw [hy154]; with_reducible exact H) | (have H2_ := (Option.bind_some _ _).symm.trans H; rw [hy154]; with_reducible exact H2_) | (have H2_ := (Option.bind_some _ _).symm.trans H; with_reducible exact H2_) | with_reducible exact H | (rw [hy154]; exact H) | exact H
                                have Ny154 := Aside0.mk hy154
                                clear hy154
                                by_cases c33 : x10_2.length < 35184372088832
                                · rw [if_pos c33] at H
                                  have LMc33 := Aside0.mk c33
                                  clear c33
                                  obtain ⟨y159, hy159⟩ : ∃ y_ : List Int, y_ = (x10_2 ++ [rd (rd_L3 y141 x11_1) x12_2]) := ⟨_, rfl⟩
                                  replace H : (hurdleref09_Calls.l1 k2 a0 y126 1000000 y141 t145 y154 y159 x11_1 (wrap64 (x12_2 + 1))) = some (r1, r2) := by first | (rw [hy159]; with_reducible exact H) | (have H2_ := (Option.bind_some _ _).symm.trans H; rw [hy159]; with_reducible exact H2_) | (have H2_ := (Option.bind_some _ _).symm.trans H; with_reducible exact H2_) | with_reducible exact H | (rw [hy159]; exact H) | exact H
                                  have Ny159 := Aside0.mk hy159
                                  clear hy159
                                  have H' := Aside0.mk H
                                  clear H
                                  obtain ⟨Ao34, co34, eo34⟩ := Kd.R_slice HO_8.out
                                  subst eo34
                                  have p150 : 0 ≤ (x11_1 : Int) := of_decide_eq_true (by first | (with_reducible assumption) | assumption)
                                  have q150 : x11_1 < (t145.length : Int) := of_decide_eq_true (by first | (with_reducible assumption) | assumption)
                                  obtain ⟨ad150, e150, hx150_0⟩ := Kd.at_int (Kd.R_reads' HO_8.out).2.2 x11_1 p150 q150
                                  cases e150
                                  replace p150 := eq_true p150
                                  replace q150 := eq_true q150
                                  obtain ⟨Ao35, co35, eo35⟩ := Kd.N_slice HO_6.out
                                  subst eo35
                                  have p151 : 0 ≤ (x11_1 : Int) := of_decide_eq_true (by first | (with_reducible assumption) | assumption)
                                  have q151 : x11_1 < (y141.length : Int) := of_decide_eq_true (by first | (with_reducible assumption) | assumption)
                                  obtain ⟨ad151, A151_0, c151_0, e151, hx151_0, hl151_0, hi151_0⟩ := at_L3 (Kd.N_reads' HO_6.out).2.2 x11_1 p151 q151
                                  cases e151
                                  obtain ⟨ce151, hce151, hMe151, hcc151⟩ := Kd.N_get HO_6.out [] x11_1 p151 (by first | exact q151 | exact of_decide_eq_true (by first | (with_reducible assumption) | assumption) | (have e_ := (Kd.N_reads' HO_6.out).1; omega))
                                  obtain ⟨ua151_0, uc151_0, rfl, ul151_0, ge151_0⟩ := Kd.FK_slice_open hMe151
                                  have hv151_0 := hcc151 0 _ rfl
                                  rw [Nat.add_zero, show ((Kd.slice 25 (Kd.int .u32))).sz = 1 from rfl, Nat.mul_one] at hv151_0
                                  replace hv151_0 := Option.some.inj (hv151_0.symm.trans hx151_0)
                                  injection hv151_0 with hva_ hvn_ hvc_
                                  rw [hva_] at ge151_0
                                  rw [hvc_] at ul151_0
                                  have HL151_0 := Aside0.mk (show Kd.V (Kd.int .u32) 25 _ w.heap.size _ _ (rd_L3 y141 x11_1) from Kd.V_mk ul151_0 ge151_0)
                                  clear hva_ hvn_ hvc_ ge151_0 ul151_0
                                  clear hcc151 hce151
                                  have HR151_0 := Aside0.mk hi151_0
                                  have HC151_0 := Aside0.mk hl151_0
                                  clear hi151_0 hl151_0
                                  replace p151 := eq_true p151
                                  replace q151 := eq_true q151
                                  have p152 : 0 ≤ (x12_2 : Int) := of_decide_eq_true (by first | (with_reducible assumption) | assumption)
                                  have q152 : x12_2 < ((rd_L3 y141 x11_1).length : Int) := of_decide_eq_true (by first | (with_reducible assumption) | assumption)
                                  obtain ⟨ad152, e152, hx152_0⟩ := Kd.at_int (by repeat (first | (with_reducible exact HR151_0.out) | (with_reducible refine Kd.C_alloc ?_ _) | (with_reducible refine Kd.C_drewN ?_ _) | (with_reducible refine Kd.C_drew ?_) | exact HR151_0.out)) x12_2 p152 q152
                                  cases e152
                                  replace p152 := eq_true p152
                                  replace q152 := eq_true q152
                                  obtain ⟨Ao36, co36, eo36⟩ := Kd.R_slice HO_4.out
                                  subst eo36
                                  have p153 : 0 ≤ (x12_2 : Int) := of_decide_eq_true (by first | (with_reducible assumption) | assumption)
                                  have q153 : x12_2 < (y126.length : Int) := of_decide_eq_true (by first | (with_reducible assumption) | assumption)
                                  obtain ⟨ad153, e153, hx153_0⟩ := Kd.at_string (Kd.R_reads' HO_4.out).2.2 x12_2 p153 q153
                                  cases e153
                                  replace p153 := eq_true p153
                                  replace q153 := eq_true q153
                                  go_wp2_with (first | ((with_reducible refine gate_builtin (b := .append) (xs := #[.tmp 51, .tmp 56]) rfl ?_); at_builtin; refine Kd.R_append Kd.string (w0 := w) w.heap.size rfl (.tmp 51) (.tmp 56) 71 9 (.string ⟨#[]⟩) 16 rfl Try.underlying71 info9 rfl (by decide) (by omega) u9 x9_2 (rdOf ByteArray.empty y126 x12_2) [.string (rdOf ByteArray.empty y126 x12_2)] (fun k_ => some k_ ≠ (.slice (some ad153) y126.length co36 : Value).ownBlock) (fun _ => False) rfl rfl ?aP (fun _ hk => hk.elim) ?aF ?aO ?aB ?aS ?aL ?_; (case aP => exact rfl); (case aB => exact (by repeat (first | (with_reducible first | exact HB.out | apply below_alloc | apply pw_below_drewN | apply below_drew1) | exact HB.out))); (case aF => exact (fun k_ hk => Kd.fresh' (Kd.R_lt (by (with_reducible repeat (first | apply Kd.R_alloc | apply Kd.R_drewN | apply Kd.R_drew)); exact HO_4.out)) k_ hk)); (case aO => exact (by (with_reducible repeat (first | apply Kd.R_alloc | apply Kd.R_drewN | apply Kd.R_drew)); exact HO_9.out)); (case aS => exact (below_size (by repeat (first | (with_reducible first | exact HB.out | apply below_alloc | apply pw_below_drewN | apply below_drew1) | exact HB.out)))); (case aL => have := LMc32.out; omega); intro v155 w37 ho hb hg hat; rw [← Ny154.out] at ho; have n0_ := Aside0.mk (Kd.R_after (ok := (fun _ => True)) (by (with_reducible repeat (first | apply Kd.R_alloc | apply Kd.R_drewN | apply Kd.R_drew)); exact Kd.R_mono HO_4.out (fun _ hk => ⟨trivial, hk⟩)) hg hat); have n1_ := Aside0.mk (Kd.N_afterv (ok := (fun k_ => some k_ ≠ (.slice (some ad153) y126.length co36 : Value).ownBlock ∧ some k_ ≠ (.slice (some ad150) t145.length co34 : Value).ownBlock ∧ some k_ ≠ (u10 : Value).ownBlock)) (by (with_reducible repeat (first | apply Kd.N_alloc | apply Kd.N_drewN | apply Kd.N_drew)); exact Kd.N_mono HO_6.out (fun _ hk => ⟨⟨hk.1, ⟨hk.2.1, hk.2.2.2⟩⟩, hk.2.2.1⟩)) hg hat); have n2_ := Aside0.mk (Kd.R_over' (by (with_reducible repeat (first | apply Kd.R_alloc | apply Kd.R_drewN | apply Kd.R_drew)); exact HO_8.out) (Kd.R_typed (by (with_reducible repeat (first | apply Kd.R_alloc | apply Kd.R_drewN | apply Kd.R_drew)); exact HO_9.out)) (by decide) hg); have n3_ := Aside0.mk (Kd.R_over' (by (with_reducible repeat (first | apply Kd.R_alloc | apply Kd.R_drewN | apply Kd.R_drew)); exact HO_10.out) (Kd.R_typed (by (with_reducible repeat (first | apply Kd.R_alloc | apply Kd.R_drewN | apply Kd.R_drew)); exact HO_9.out)) (by decide) hg); have n4_ := Aside0.mk (Kd.V_afterv (ok := (fun k_ => some k_ ≠ (.slice (some ad153) y126.length co36 : Value).ownBlock ∧ some k_ ≠ (.slice (some ad151) y141.length co35 : Value).ownBlock ∧ some k_ ≠ (.slice (some ad150) t145.length co34 : Value).ownBlock ∧ some k_ ≠ (u10 : Value).ownBlock)) (by (with_reducible repeat (first | apply Kd.V_alloc | apply Kd.V_drewN | apply Kd.V_drew)); exact Kd.V_mono HL151_0.out (fun _ hk => ⟨⟨hk.1.1, ⟨hk.2, ⟨hk.1.2.1, hk.1.2.2.2⟩⟩⟩, hk.1.2.2.1⟩)) hg hat); have n5_ := Aside0.mk (hb); have n6_ := Aside0.mk (ho); clear HO_4; clear HO_6; clear HO_8; clear HO_10; clear HL151_0; clear HB; clear HO_9; have HO_4 := n0_; have HO_6 := n1_; have HO_8 := n2_; have HO_10 := n3_; have HL151_0 := n4_; have HB := n5_; have HO156 := n6_; clear n0_ n1_ n2_ n3_ n4_ n5_ n6_; clear ho hb hg hat; have p157 : 0 ≤ (x11_1 : Int) := of_decide_eq_true (by first | (with_reducible assumption) | assumption); have q157 : x11_1 < (y141.length : Int) := of_decide_eq_true (by first | (with_reducible assumption) | assumption); obtain ⟨ad157, A157_0, c157_0, e157, hx157_0, hl157_0, hi157_0⟩ := at_L3 (Kd.N_reads' HO_6.out).2.2 x11_1 p157 q157; obtain rfl : ad151 = ad157 := (by injection e157); obtain ⟨ce157, hce157, hMe157, hcc157⟩ := Kd.N_get HO_6.out [] x11_1 p157 (by first | exact q157 | exact of_decide_eq_true (by first | (with_reducible assumption) | assumption) | (have e_ := (Kd.N_reads' HO_6.out).1; omega)); obtain ⟨ua157_0, uc157_0, rfl, ul157_0, ge157_0⟩ := Kd.FK_slice_open hMe157; have hv157_0 := hcc157 0 _ rfl; rw [Nat.add_zero, show ((Kd.slice 25 (Kd.int .u32))).sz = 1 from rfl, Nat.mul_one] at hv157_0; replace hv157_0 := Option.some.inj (hv157_0.symm.trans hx157_0); injection hv157_0 with hva_ hvn_ hvc_; rw [hva_] at ge157_0; rw [hvc_] at ul157_0; have HL157_0 := Aside0.mk (show Kd.V (Kd.int .u32) 25 _ w.heap.size _ _ (rd_L3 y141 x11_1) from Kd.V_mk ul157_0 ge157_0); clear hva_ hvn_ hvc_ ge157_0 ul157_0; clear hcc157 hce157; have HR157_0 := Aside0.mk hi157_0; have HC157_0 := Aside0.mk hl157_0; clear hi157_0 hl157_0; replace p157 := eq_true p157; replace q157 := eq_true q157; have p158 : 0 ≤ (x12_2 : Int) := of_decide_eq_true (by first | (with_reducible assumption) | assumption); have q158 : x12_2 < ((rd_L3 y141 x11_1).length : Int) := of_decide_eq_true (by first | (with_reducible assumption) | assumption); obtain ⟨ad158, e158, hx158_0⟩ := Kd.at_int (by repeat (first | (with_reducible exact HR157_0.out) | (with_reducible refine Kd.C_alloc ?_ _) | (with_reducible refine Kd.C_drewN ?_ _) | (with_reducible refine Kd.C_drew ?_) | exact HR157_0.out)) x12_2 p158 q158; cases e158; replace p158 := eq_true p158; replace q158 := eq_true q158) | ((with_reducible refine gate_builtin (b := .append) (xs := #[.tmp 58, .tmp 66]) rfl ?_); at_builtin; refine Kd.R_append (Kd.int .u32) (w0 := w) w.heap.size rfl (.tmp 58) (.tmp 66) 76 25 (.int .u32 0) 4 rfl Try.underlying76 info25 rfl (by decide) (by omega) u10 x10_2 (rd (rd_L3 y141 x11_1) x12_2) [.int .u32 (rd (rd_L3 y141 x11_1) x12_2)] (fun k_ => some k_ ≠ (.slice (some ad150) t145.length co34 : Value).ownBlock) (fun _ => False) rfl rfl ?aP (fun _ hk => hk.elim) ?aF ?aO ?aB ?aS ?aL ?_; (case aP => exact rfl); (case aB => exact (by repeat (first | (with_reducible first | exact HB.out | apply below_alloc | apply pw_below_drewN | apply below_drew1) | exact HB.out))); (case aF => exact (fun k_ hk => Kd.fresh' (Kd.R_lt (by (with_reducible repeat (first | apply Kd.R_alloc | apply Kd.R_drewN | apply Kd.R_drew)); exact HO_8.out)) k_ hk)); (case aO => exact (by (with_reducible repeat (first | apply Kd.R_alloc | apply Kd.R_drewN | apply Kd.R_drew)); exact HO_10.out)); (case aS => exact (below_size (by repeat (first | (with_reducible first | exact HB.out | apply below_alloc | apply pw_below_drewN | apply below_drew1) | exact HB.out)))); (case aL => have := LMc33.out; omega); intro v160 w38 ho hb hg hat; rw [← Ny159.out] at ho; have n0_ := Aside0.mk (Kd.R_over' (by (with_reducible repeat (first | apply Kd.R_alloc | apply Kd.R_drewN | apply Kd.R_drew)); exact HO_4.out) (Kd.R_typed (by (with_reducible repeat (first | apply Kd.R_alloc | apply Kd.R_drewN | apply Kd.R_drew)); exact HO_10.out)) (by decide) hg); have n1_ := Aside0.mk (Kd.N_afterv (ok := (fun k_ => some k_ ≠ (.slice (some ad153) y126.length co36 : Value).ownBlock ∧ some k_ ≠ (.slice (some ad150) t145.length co34 : Value).ownBlock ∧ some k_ ≠ (v155 : Value).ownBlock)) (by (with_reducible repeat (first | apply Kd.N_alloc | apply Kd.N_drewN | apply Kd.N_drew)); exact Kd.N_mono HO_6.out (fun _ hk => ⟨⟨hk.1.1, ⟨hk.1.2.1, hk.2⟩⟩, hk.1.2.2⟩)) hg hat); have n2_ := Aside0.mk (Kd.R_after (ok := (fun _ => True)) (by (with_reducible repeat (first | apply Kd.R_alloc | apply Kd.R_drewN | apply Kd.R_drew)); exact Kd.R_mono HO_8.out (fun _ hk => ⟨trivial, hk⟩)) hg hat); have n3_ := Aside0.mk (Kd.V_afterv (ok := (fun k_ => some k_ ≠ (.slice (some ad153) y126.length co36 : Value).ownBlock ∧ some k_ ≠ (.slice (some ad151) y141.length co35 : Value).ownBlock ∧ some k_ ≠ (.slice (some ad150) t145.length co34 : Value).ownBlock ∧ some k_ ≠ (v155 : Value).ownBlock)) (by (with_reducible repeat (first | apply Kd.V_alloc | apply Kd.V_drewN | apply Kd.V_drew)); exact Kd.V_mono HL151_0.out (fun _ hk => ⟨⟨hk.1.1, ⟨hk.1.2.1, ⟨hk.1.2.2.1, hk.2⟩⟩⟩, hk.1.2.2.2⟩)) hg hat); have n4_ := Aside0.mk (Kd.R_over' (by (with_reducible repeat (first | apply Kd.R_alloc | apply Kd.R_drewN | apply Kd.R_drew)); exact HO156.out) (Kd.R_typed (by (with_reducible repeat (first | apply Kd.R_alloc | apply Kd.R_drewN | apply Kd.R_drew)); exact HO_10.out)) (by decide) hg); have n5_ := Aside0.mk (Kd.V_afterv (ok := (fun k_ => some k_ ≠ (.slice (some ad153) y126.length co36 : Value).ownBlock ∧ some k_ ≠ (.slice (some ad151) y141.length co35 : Value).ownBlock ∧ some k_ ≠ (.slice (some ad150) t145.length co34 : Value).ownBlock ∧ some k_ ≠ (v155 : Value).ownBlock)) (by (with_reducible repeat (first | apply Kd.V_alloc | apply Kd.V_drewN | apply Kd.V_drew)); exact Kd.V_mono HL157_0.out (fun _ hk => ⟨⟨hk.1.1.1, ⟨hk.2, ⟨hk.1.1.2.1, hk.1.2⟩⟩⟩, hk.1.1.2.2⟩)) hg hat); have n6_ := Aside0.mk (hb); have n7_ := Aside0.mk (ho); clear HO_4; clear HO_6; clear HO_8; clear HL151_0; clear HO156; clear HL157_0; clear HB; clear HO_10; have HO_4 := n0_; have HO_6 := n1_; have HO_8 := n2_; have HL151_0 := n3_; have HO156 := n4_; have HL157_0 := n5_; have HB := n6_; have HO161 := n7_; clear n0_ n1_ n2_ n3_ n4_ n5_ n6_ n7_; clear ho hb hg hat))
                                  go_roundg k2
                                  case measure => have := HK1.out; have := HK2.out; omega
                                  case rel => exact ⟨(y154), (y159), (wrap64 (x12_2 + 1)), (by first | rfl | (simp; done) | (simp [*]; done)), H', ⟨by have := HK1.out; have := HK2.out; omega⟩, ⟨by (with_reducible repeat (first | apply Kd.R_alloc | apply Kd.R_drewN | apply Kd.R_drew)); exact Kd.R_mono HO_4.out (fun _ hk => hk.2)⟩, ⟨by (with_reducible repeat (first | apply Kd.N_alloc | apply Kd.N_drewN | apply Kd.N_drew)); exact Kd.N_mono HO_6.out (fun _ hk => ⟨hk.1.1, ⟨hk.1.2.1, ⟨hk.1.2.2, hk.2⟩⟩⟩)⟩, ⟨by (with_reducible repeat (first | apply Kd.R_alloc | apply Kd.R_drewN | apply Kd.R_drew)); exact Kd.R_mono HO_8.out (fun _ hk => hk.2)⟩, ⟨by (with_reducible repeat (first | apply Kd.R_alloc | apply Kd.R_drewN | apply Kd.R_drew)); exact HO156.out⟩, ⟨by (with_reducible repeat (first | apply Kd.R_alloc | apply Kd.R_drewN | apply Kd.R_drew)); exact HO161.out⟩, ⟨by repeat (first | (with_reducible first | exact HB.out | apply below_alloc | apply pw_below_drewN | apply below_drew1) | exact HB.out)⟩⟩
                                · rw [if_neg c33] at H
                                  exact absurd H (by simp)
                              · rw [if_neg c32] at H
                                exact absurd H (by simp)
                            · rw [if_neg c31] at H
                              exact absurd H (by simp)
                        · rw [if_neg c27] at H
                          exact absurd H (by simp)
                      · rw [if_neg c26] at H
                        exact absurd H (by simp)
                    · rw [if_neg c25] at H
                      exact absurd H (by simp)
                  · rw [if_neg c24] at H
                    have c24b0 : ((rd t145 x11_1) == a0) = false := beq_eq_false_iff_ne.mpr c24
                    have c24b1 : ((rd t145 x11_1) != a0) = true := bne_iff_ne.mpr c24
                    have H' := Aside0.mk H
                    clear H
                    obtain ⟨Ao39, co39, eo39⟩ := Kd.R_slice HO_8.out
                    subst eo39
                    have p150 : 0 ≤ (x11_1 : Int) := of_decide_eq_true (by first | (with_reducible assumption) | assumption)
                    have q150 : x11_1 < (t145.length : Int) := of_decide_eq_true (by first | (with_reducible assumption) | assumption)
                    obtain ⟨ad150, e150, hx150_0⟩ := Kd.at_int (Kd.R_reads' HO_8.out).2.2 x11_1 p150 q150
                    cases e150
                    replace p150 := eq_true p150
                    replace q150 := eq_true q150
                    go_wp2
                    go_roundg k2
                    case measure => have := HK1.out; have := HK2.out; omega
                    case rel => exact ⟨(x9_2), (x10_2), (wrap64 (x12_2 + 1)), (by first | rfl | (simp; done) | (simp [*]; done)), H', ⟨by have := HK1.out; have := HK2.out; omega⟩, ⟨by (with_reducible repeat (first | apply Kd.R_alloc | apply Kd.R_drewN | apply Kd.R_drew)); exact HO_4.out⟩, ⟨by (with_reducible repeat (first | apply Kd.N_alloc | apply Kd.N_drewN | apply Kd.N_drew)); exact HO_6.out⟩, ⟨by (with_reducible repeat (first | apply Kd.R_alloc | apply Kd.R_drewN | apply Kd.R_drew)); exact HO_8.out⟩, ⟨by (with_reducible repeat (first | apply Kd.R_alloc | apply Kd.R_drewN | apply Kd.R_drew)); exact HO_9.out⟩, ⟨by (with_reducible repeat (first | apply Kd.R_alloc | apply Kd.R_drewN | apply Kd.R_drew)); exact HO_10.out⟩, ⟨by repeat (first | (with_reducible first | exact HB.out | apply below_alloc | apply pw_below_drewN | apply below_drew1) | exact HB.out)⟩⟩
                · rw [if_neg c23] at H
                  exact absurd H (by simp)
              · rw [if_neg c22] at H
                exact absurd H (by simp)
            · rw [if_neg c21] at H
              have c21b0 : decide (x12_2 < 8) = false := decide_eq_false c21
              clear c21
              have H' := Aside0.mk H
              clear H
              go_wp2
              go_roundg k2
              case measure => have := HK1.out; have := HK2.out; omega
              case rel => exact ⟨(x9_2), (x10_2), (wrap64 (x11_1 + 1)), (by first | rfl | (simp; done) | (simp [*]; done)), H', ⟨by have := HK1.out; have := HK2.out; omega⟩, ⟨by (with_reducible repeat (first | apply Kd.R_alloc | apply Kd.R_drewN | apply Kd.R_drew)); exact HO_4.out⟩, ⟨by (with_reducible repeat (first | apply Kd.N_alloc | apply Kd.N_drewN | apply Kd.N_drew)); exact HO_6.out⟩, ⟨by (with_reducible repeat (first | apply Kd.R_alloc | apply Kd.R_drewN | apply Kd.R_drew)); exact HO_8.out⟩, ⟨by (with_reducible repeat (first | apply Kd.R_alloc | apply Kd.R_drewN | apply Kd.R_drew)); exact HO_9.out⟩, ⟨by (with_reducible repeat (first | apply Kd.R_alloc | apply Kd.R_drewN | apply Kd.R_drew)); exact HO_10.out⟩, ⟨by repeat (first | (with_reducible first | exact HB.out | apply below_alloc | apply pw_below_drewN | apply below_drew1) | exact HB.out)⟩⟩
      · rw [if_neg c20] at H
        have c20b0 : decide (x11_1 < 4) = false := decide_eq_false c20
        clear c20
        simp only [Option.some.injEq, Prod.mk.injEq] at H
        obtain ⟨rfl, rfl⟩ := H
        go_wp2
        go_ret2
        exact ⟨_, _, by first | rfl | (simp [errW_none, errW_some] <;> rfl) | (simp [*, errW_none, errW_some] <;> rfl), by (with_reducible repeat (first | apply Kd.R_alloc | apply Kd.R_drewN | apply Kd.R_drew)); exact Kd.R_mono HO_9.out (fun _ hk => trivial), by (with_reducible repeat (first | apply Kd.R_alloc | apply Kd.R_drewN | apply Kd.R_drew)); exact Kd.R_mono HO_10.out (fun _ hk => trivial), by repeat (first | (with_reducible first | exact HB.out | apply below_alloc | apply pw_below_drewN | apply below_drew1) | exact HB.out)⟩

/-! ### hurdleref09_Call: function 29 -/
def hurdleref09_Call.f (k : Nat) (a0 : Int) (a1 : Int) : Option (ByteArray) := (hurdleref09_Calls.f k a0).bind fun bt162 => ((hurdleref09_text.f k bt162.1 bt162.2 a1).bind fun t168 => (some t168))
theorem hurdleref09_Call.mono : ∀ a0 a1 k, LeO (hurdleref09_Call.f k a0 a1) (hurdleref09_Call.f (k + 1) a0 a1) := by
  intro a0 a1 k
  unfold hurdleref09_Call.f
  repeat' first
      | (with_reducible exact hurdleref09_Calls.mono _ _)
      | (with_reducible exact hurdleref09_text.mono _ _ _ _)
      | (with_reducible exact LeO.refl _)
      | (with_reducible exact LeO.none _)
      | (with_reducible refine LeO.ite ?_ ?_)
      | (with_reducible refine LeO.bind ?_ (fun _ => ?_))
      | exact hurdleref09_Calls.mono _ _
      | exact hurdleref09_text.mono _ _ _ _
      | exact LeO.none _
      | refine LeO.ite ?_ ?_
      | refine LeO.bind ?_ (fun _ => ?_)
set_option maxHeartbeats 8000000 in
set_option maxRecDepth 100000 in
theorem hurdleref09_Call.calls (k : Nat) (a0 : Int) (a1 : Int) (r : ByteArray) (w : World) (h : hurdleref09_Call.f k a0 a1 = some r) :
    Calls Try.prog 29 #[.int .u32 a0, .int .u32 a1] w fun e w' => e = .returned (.string r) ∧ Below w.heap.size w w' := by
  have HB := Aside0.mk (Below.refl w.heap.size w)
  have H : ((hurdleref09_Calls.f k a0).bind fun bt162 => ((hurdleref09_text.f k bt162.1 bt162.2 a1).bind fun t168 => (some t168))) = some r := h
  clear h
  replace H := Option.bind_eq_some_iff.mp H
  obtain ⟨⟨t162, t163⟩, A30, H⟩ := H
  replace H : ((hurdleref09_text.f k t162 t163 a1).bind fun t168 => (some t168)) = some r := H
  have A3 := Aside0.mk A30
  clear A30
  replace H := Option.bind_eq_some_iff.mp H
  obtain ⟨t168, A40, H⟩ := H
  replace H : (some t168) = some r := H
  have A4 := Aside0.mk A40
  clear A40
  obtain rfl := Option.some.inj H
  go_enter Try.func29, Try.ntmps29
  go_wp2_with (first | ((with_reducible refine gate_callee (f := 53) rfl ?_); refine goesL_ (some 9) rfl rfl Try.func53 (by kernel_rfl) rfl #[.int .u32 a0] rfl (by (try simp only [List.map_toArray, List.map_cons, List.map_nil]); first | done | rfl | (simp only [List.length_drop, List.length_take]; rfl)) ?_; (with_reducible refine (hurdleref09_Calls.calls k a0 t162 t163 _ A3.out).mono ?_); rintro e w5 ⟨v164, v166, rfl, ho0, ho1, hb⟩; refine ⟨_, rfl, ?_⟩; have n0_ := Aside0.mk (Kd.R_lower ho0 (below_size (by repeat (first | (with_reducible first | exact HB.out | apply below_alloc | apply pw_below_drewN | apply below_drew1) | exact HB.out)))); have n1_ := Aside0.mk (Kd.R_lower ho1 (below_size (by repeat (first | (with_reducible first | exact HB.out | apply below_alloc | apply pw_below_drewN | apply below_drew1) | exact HB.out)))); have n2_ := Aside0.mk (below_step (by repeat (first | (with_reducible first | exact HB.out | apply below_alloc | apply pw_below_drewN | apply below_drew1) | exact HB.out)) hb); clear HB; have HO165 := n0_; have HO167 := n1_; have HB := n2_; clear n0_ n1_ n2_; (try clear hb); (try clear hb2); (try clear hk); (try clear hi); (try clear ho0); (try clear ho1); obtain ⟨Ao6, co6, eo6⟩ := Kd.R_slice HO165.out; subst eo6; obtain ⟨Ao7, co7, eo7⟩ := Kd.R_slice HO167.out; subst eo7) | ((with_reducible refine gate_callee (f := 51) rfl ?_); refine goesL_ (some 15) rfl rfl Try.func51 (by kernel_rfl) rfl #[.slice Ao6 t162.length co6, .slice Ao7 t163.length co7, .int .u32 a1] rfl (by (try simp only [List.map_toArray, List.map_cons, List.map_nil]); first | done | rfl | (simp only [List.length_drop, List.length_take]; rfl)) ?_; (with_reducible refine (hurdleref09_text.calls k _ _ t162 _ _ t163 a1 t168 _ ?side1 ?side2 ?side3 ?side4 A4.out).mono ?_); (case side1 => repeat (first | exact (Kd.R_reads' HO165.out).2.2 | (with_reducible refine Kd.C_alloc ?_ _) | (with_reducible refine Kd.C_drewN ?_ _) | (with_reducible refine Kd.C_drew ?_))); (case side2 => exact (Kd.R_reads' HO165.out).2.1); (case side3 => repeat (first | exact (Kd.R_reads' HO167.out).2.2 | (with_reducible refine Kd.C_alloc ?_ _) | (with_reducible refine Kd.C_drewN ?_ _) | (with_reducible refine Kd.C_drew ?_))); (case side4 => exact (Kd.R_reads' HO167.out).2.1); rintro e w8 ⟨rfl, hb⟩; refine ⟨_, rfl, ?_⟩; have n0_ := Aside0.mk (Kd.R_below (by (with_reducible repeat (first | apply Kd.R_alloc | apply Kd.R_drewN | apply Kd.R_drew)); exact HO165.out) hb); have n1_ := Aside0.mk (Kd.R_below (by (with_reducible repeat (first | apply Kd.R_alloc | apply Kd.R_drewN | apply Kd.R_drew)); exact HO167.out) hb); have n2_ := Aside0.mk (below_step (by repeat (first | (with_reducible first | exact HB.out | apply below_alloc | apply pw_below_drewN | apply below_drew1) | exact HB.out)) hb); clear HO165; clear HO167; clear HB; have HO165 := n0_; have HO167 := n1_; have HB := n2_; clear n0_ n1_ n2_; (try clear hb); (try clear hb2); (try clear hk); (try clear hi)))
  go_ret
  exact ⟨by first | rfl | (simp [errW_none, errW_some] <;> rfl) | (simp [*, errW_none, errW_some] <;> rfl), by repeat (first | (with_reducible first | exact HB.out | apply below_alloc | apply pw_below_drewN | apply below_drew1) | exact HB.out)⟩

/-! ### hurdleref09_Action: function 25 -/
def hurdleref09_Action.j0 : Nat → Int → Bool → Option (ByteArray)
  | 0, _, _ => none
  | k + 1, x0, x8 => if x8 = true then ((hurdleref01_Text.f k ((x0 - 327680) % 4294967296)).bind fun t169 => (if 6 + t169.size ≤ 9223372036854775807 then (some ((⟨#[101, 114, 114, 111, 114, 58]⟩ : ByteArray) ++ t169)) else (none))) else (if x0 = 0 then (some (⟨#[107, 105, 108, 108]⟩ : ByteArray)) else (if x0 = 196608 then (some (⟨#[116, 114, 97, 112]⟩ : ByteArray)) else (if x0 = 2147221504 then (some (⟨#[108, 111, 103]⟩ : ByteArray)) else (if x0 = 2147418112 then (some (⟨#[97, 108, 108, 111, 119]⟩ : ByteArray)) else (some (⟨#[]⟩ : ByteArray))))))
def hurdleref09_Action.f (k : Nat) (a0 : Int) : Option (ByteArray) := if a0 ≥ 327680 then (hurdleref09_Action.j0 k a0 (decide (a0 ≤ 331775))) else (hurdleref09_Action.j0 k a0 false)
theorem hurdleref09_Action.mono_l : ∀ k, (∀ y0 y1, LeO (hurdleref09_Action.j0 k y0 y1) (hurdleref09_Action.j0 (k + 1) y0 y1))
  | 0 => fun _ _ r h => by simp [hurdleref09_Action.j0] at h
  | k + 1 => by
    have ih0 := hurdleref09_Action.mono_l k
    · intro y0 y1
      unfold hurdleref09_Action.j0
      repeat' first
      | (with_reducible exact ih0 _ _)
      | (with_reducible exact hurdleref01_Text.mono _ _)
      | (with_reducible exact LeO.refl _)
      | (with_reducible exact LeO.none _)
      | (with_reducible refine LeO.ite ?_ ?_)
      | (with_reducible refine LeO.bind ?_ (fun _ => ?_))
      | exact ih0 _ _
      | exact hurdleref01_Text.mono _ _
      | exact LeO.none _
      | refine LeO.ite ?_ ?_
      | refine LeO.bind ?_ (fun _ => ?_)
theorem hurdleref09_Action.mono : ∀ a0 k, LeO (hurdleref09_Action.f k a0) (hurdleref09_Action.f (k + 1) a0) := by
  intro a0 k
  have ih0 := hurdleref09_Action.mono_l k
  unfold hurdleref09_Action.f
  repeat' first
      | (with_reducible exact ih0 _ _)
      | (with_reducible exact hurdleref01_Text.mono _ _)
      | (with_reducible exact LeO.refl _)
      | (with_reducible exact LeO.none _)
      | (with_reducible refine LeO.ite ?_ ?_)
      | (with_reducible refine LeO.bind ?_ (fun _ => ?_))
      | exact ih0 _ _
      | exact hurdleref01_Text.mono _ _
      | exact LeO.none _
      | refine LeO.ite ?_ ?_
      | refine LeO.bind ?_ (fun _ => ?_)
set_option maxHeartbeats 8000000 in
set_option maxRecDepth 100000 in
theorem hurdleref09_Action.calls (k : Nat) (a0 : Int) (r : ByteArray) (w : World) (h : hurdleref09_Action.f k a0 = some r) :
    Calls Try.prog 25 #[.int .u32 a0] w fun e w' => e = .returned (.string r) ∧ Below w.heap.size w w' := by
  have HB := Aside0.mk (Below.refl w.heap.size w)
  have H : (if a0 ≥ 327680 then (hurdleref09_Action.j0 k a0 (decide (a0 ≤ 331775))) else (hurdleref09_Action.j0 k a0 false)) = some r := h
  clear h
  have HC2 := Aside0.mk H
  clear H
  go_enter Try.func25, Try.ntmps25
  go_upto_region 1 with (fail)
  go_cut [8] (fun v8 wc => ∃ (kq : Nat) (x8_1 : Bool), v8 = .bool x8_1 ∧ Aside0 (hurdleref09_Action.j0 kq a0 x8_1 = some r) ∧ Aside0 (kq ≤ k) ∧ Aside0 (Below w.heap.size w wc))
  case first =>
    have H := HC2.out
    clear HC2
    by_cases c3 : a0 ≥ 327680
    · rw [if_pos c3] at H
      have c3b0 : decide (327680 ≤ a0) = true := decide_eq_true c3
      clear c3
      (first | rw [c3b0] | (simp only [i64_w, i32_w]; rw [c3b0]) | skip)
      have H' := Aside0.mk H
      clear H
      go_wp2
      go_meet
      case rel => exact ⟨_, (decide (a0 ≤ 331775)), (by first | rfl | (simp; done) | (simp [*]; done)), H', ⟨by first | omega | exact Nat.le_refl _⟩, ⟨by repeat (first | (with_reducible first | exact HB.out | apply below_alloc | apply pw_below_drewN | apply below_drew1) | exact HB.out)⟩⟩
    · rw [if_neg c3] at H
      have c3b0 : decide (327680 ≤ a0) = false := decide_eq_false c3
      clear c3
      (first | rw [c3b0] | (simp only [i64_w, i32_w]; rw [c3b0]) | skip)
      have H' := Aside0.mk H
      clear H
      go_wp2
      go_meet
      case rel => exact ⟨_, (false), (by first | rfl | (simp; done) | (simp [*]; done)), H', ⟨by first | omega | exact Nat.le_refl _⟩, ⟨by repeat (first | (with_reducible first | exact HB.out | apply below_alloc | apply pw_below_drewN | apply below_drew1) | exact HB.out)⟩⟩
  case rest =>
    clear HC2
    try clear c2
    try clear p2
    try clear c3
    try clear c3b0
    obtain ⟨kq, x8_1, rfl, HA, HJ1, HB⟩ := hcut
    cases kq with
    | zero => exact absurd HA.out (by simp [hurdleref09_Action.j0])
    | succ kj1 =>
      have H := HA.out
      clear HA
      simp only [hurdleref09_Action.j0] at H
      by_cases c4 : x8_1 = true
      · subst c4
        have H1 : ((hurdleref01_Text.f kj1 ((a0 - 327680) % 4294967296)).bind fun t169 => (if 6 + t169.size ≤ 9223372036854775807 then (some ((⟨#[101, 114, 114, 111, 114, 58]⟩ : ByteArray) ++ t169)) else (none))) = some r := by rw [if_pos rfl] at H; exact H
        clear H
        have H := H1
        clear H1
        replace H := Option.bind_eq_some_iff.mp H
        obtain ⟨t169, A50, H⟩ := H
        replace H : (if 6 + t169.size ≤ 9223372036854775807 then (some ((⟨#[101, 114, 114, 111, 114, 58]⟩ : ByteArray) ++ t169)) else (none)) = some r := H
        have A5 := Aside0.mk A50
        clear A50
        by_cases c6 : 6 + t169.size ≤ 9223372036854775807
        · rw [if_pos c6] at H
          have c6b0 := eq_true c6
          have c6b1 : decide (6 + t169.size ≤ 9223372036854775807) = true := decide_eq_true c6
          try have c6b2 : (9223372036854775807 < 6 + t169.size) = False := eq_false (Nat.not_lt.2 c6)
          obtain rfl := Option.some.inj H
          go_wp2_with (first | ((with_reducible refine gate_callee (f := 45) rfl ?_); refine goesL_ (some 12) rfl rfl Try.func45 (by kernel_rfl) rfl #[.int .u64 ((a0 - 327680) % 4294967296)] rfl (by (try simp only [List.map_toArray, List.map_cons, List.map_nil]); first | done | rfl | (simp only [List.length_drop, List.length_take]; rfl)) ?_; (with_reducible refine (hurdleref01_Text.calls kj1 ((a0 - 327680) % 4294967296) t169 _ A5.out).mono ?_); rintro e w7 ⟨rfl, hb⟩; refine ⟨_, rfl, ?_⟩; have n0_ := Aside0.mk (below_step (by repeat (first | (with_reducible first | exact HB.out | apply below_alloc | apply pw_below_drewN | apply below_drew1) | exact HB.out)) hb); clear HB; have HB := n0_; clear n0_; (try clear hb); (try clear hb2); (try clear hk); (try clear hi)))
          go_ret
          exact ⟨by first | rfl | (simp [errW_none, errW_some] <;> rfl) | (simp [*, errW_none, errW_some] <;> rfl), by repeat (first | (with_reducible first | exact HB.out | apply below_alloc | apply pw_below_drewN | apply below_drew1) | exact HB.out)⟩
        · rw [if_neg c6] at H
          exact absurd H (by simp)
      · replace c4 := Bool.eq_false_iff.mpr c4
        subst c4
        have H1 : (if a0 = 0 then (some (⟨#[107, 105, 108, 108]⟩ : ByteArray)) else (if a0 = 196608 then (some (⟨#[116, 114, 97, 112]⟩ : ByteArray)) else (if a0 = 2147221504 then (some (⟨#[108, 111, 103]⟩ : ByteArray)) else (if a0 = 2147418112 then (some (⟨#[97, 108, 108, 111, 119]⟩ : ByteArray)) else (some (⟨#[]⟩ : ByteArray)))))) = some r := by rw [if_neg (show ¬ (false = true) by decide)] at H; exact H
        clear H
        have H := H1
        clear H1
        by_cases c8 : a0 = 0
        · rw [if_pos c8] at H
          have c8b0 : (a0 == 0) = true := beq_iff_eq.mpr c8
          have c8b1 : (a0 != 0) = false := bne_eq_false_iff_eq.mpr c8
          clear c8
          obtain rfl := Option.some.inj H
          go_wp2
          go_ret
          exact ⟨by first | rfl | (simp [errW_none, errW_some] <;> rfl) | (simp [*, errW_none, errW_some] <;> rfl), by repeat (first | (with_reducible first | exact HB.out | apply below_alloc | apply pw_below_drewN | apply below_drew1) | exact HB.out)⟩
        · rw [if_neg c8] at H
          have c8b0 : (a0 == 0) = false := beq_eq_false_iff_ne.mpr c8
          have c8b1 : (a0 != 0) = true := bne_iff_ne.mpr c8
          by_cases c9 : a0 = 196608
          · rw [if_pos c9] at H
            have c9b0 : (a0 == 196608) = true := beq_iff_eq.mpr c9
            have c9b1 : (a0 != 196608) = false := bne_eq_false_iff_eq.mpr c9
            clear c9
            obtain rfl := Option.some.inj H
            go_wp2
            go_ret
            exact ⟨by first | rfl | (simp [errW_none, errW_some] <;> rfl) | (simp [*, errW_none, errW_some] <;> rfl), by repeat (first | (with_reducible first | exact HB.out | apply below_alloc | apply pw_below_drewN | apply below_drew1) | exact HB.out)⟩
          · rw [if_neg c9] at H
            have c9b0 : (a0 == 196608) = false := beq_eq_false_iff_ne.mpr c9
            have c9b1 : (a0 != 196608) = true := bne_iff_ne.mpr c9
            by_cases c10 : a0 = 2147221504
            · rw [if_pos c10] at H
              have c10b0 : (a0 == 2147221504) = true := beq_iff_eq.mpr c10
              have c10b1 : (a0 != 2147221504) = false := bne_eq_false_iff_eq.mpr c10
              clear c10
              obtain rfl := Option.some.inj H
              go_wp2
              go_ret
              exact ⟨by first | rfl | (simp [errW_none, errW_some] <;> rfl) | (simp [*, errW_none, errW_some] <;> rfl), by repeat (first | (with_reducible first | exact HB.out | apply below_alloc | apply pw_below_drewN | apply below_drew1) | exact HB.out)⟩
            · rw [if_neg c10] at H
              have c10b0 : (a0 == 2147221504) = false := beq_eq_false_iff_ne.mpr c10
              have c10b1 : (a0 != 2147221504) = true := bne_iff_ne.mpr c10
              by_cases c11 : a0 = 2147418112
              · rw [if_pos c11] at H
                have c11b0 : (a0 == 2147418112) = true := beq_iff_eq.mpr c11
                have c11b1 : (a0 != 2147418112) = false := bne_eq_false_iff_eq.mpr c11
                clear c11
                obtain rfl := Option.some.inj H
                go_wp2
                go_ret
                exact ⟨by first | rfl | (simp [errW_none, errW_some] <;> rfl) | (simp [*, errW_none, errW_some] <;> rfl), by repeat (first | (with_reducible first | exact HB.out | apply below_alloc | apply pw_below_drewN | apply below_drew1) | exact HB.out)⟩
              · rw [if_neg c11] at H
                have c11b0 : (a0 == 2147418112) = false := beq_eq_false_iff_ne.mpr c11
                have c11b1 : (a0 != 2147418112) = true := bne_iff_ne.mpr c11
                obtain rfl := Option.some.inj H
                go_wp2
                go_ret
                exact ⟨by first | rfl | (simp [errW_none, errW_some] <;> rfl) | (simp [*, errW_none, errW_some] <;> rfl), by repeat (first | (with_reducible first | exact HB.out | apply below_alloc | apply pw_below_drewN | apply below_drew1) | exact HB.out)⟩

-- BY HAND: word_Text

-- NOT PRINTED: function 46 (names_name)

-- NOT PRINTED: function 47 (names_actions)

-- BY HAND: names_Action

-- NOT PRINTED: function 48 (names_text)

-- NOT PRINTED: function 49 (names_machines)

-- BY HAND: names_Machine

-- NOT PRINTED: function 52 (names_calls)

-- BY HAND: names_Call

-- BY HAND: word_Parse

-- NOT PRINTED: function 54 (names_read)

-- BY HAND: names_ReadMachine

-- BY HAND: names_ReadCall

end Go.Proofs.Ythdkgpmpopjnaaa.R
