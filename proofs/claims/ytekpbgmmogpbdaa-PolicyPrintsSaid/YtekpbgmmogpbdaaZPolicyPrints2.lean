/- Which policies are right, and their texts, is what the document says, or the error is told (up to 100 rules). -/
import Derived.ProofKit
import Derived.ChangeOld
import Derived.DataReads
import Derived.Test.YtekpbgmmogpbdaaRows
import Derived.ShutString
import Derived.SizedLaws
import Derived.Test.YtekpbgmmogpbdaaZPolicyPrints1
namespace Go.Proofs.Ytekpbgmmogpbdaa.P
open Go.RowKit Go.Proofs.Ytekpbgmmogpbdaa.H Go.Proofs.YtekpbgmmogpbdaaW.PrintWords Go.Proofs.YtekpbgmmogpbdaaW.PrintLast Go.Proofs.YtekpbgmmogpbdaaW.PrintMore
attribute [local go_sem] max2_int min2_int max_two min_two max_three min_three max_four min_four
set_option linter.unusedVariables false
set_option linter.unusedSimpArgs false
mutual
def hurdleref09_Calls.l0 : Nat → Int → List ByteArray → Int → List (List Int) → List Int → List ByteArray → List Int → Int → Option (List ByteArray × List Int)
  | 0, _, _, _, _, _, _, _, _ => none
  | k + 1, x0, x4, x5, x6, x8, x9, x10, x11 => if x11 < 4 then (hurdleref09_Calls.l1 k x0 x4 x5 x6 x8 x9 x10 x11 0) else (some (x9, x10))
def hurdleref09_Calls.l1 : Nat → Int → List ByteArray → Int → List (List Int) → List Int → List ByteArray → List Int → Int → Int → Option (List ByteArray × List Int)
  | 0, _, _, _, _, _, _, _, _, _ => none
  | k + 1, x0, x4, x5, x6, x8, x9, x10, x11, x12 => if x12 < 8 then (if 0 ≤ x11 then (if x11 < (x8.length : Int) then (if (rd x8 x11) = x0 then (if x11 < (x6.length : Int) then (if 0 ≤ x12 then (if x12 < ((rd_L8 x6 x11).length : Int) then (if (rd (rd_L8 x6 x11) x12) = x5 then (hurdleref09_Calls.l1 k x0 x4 x5 x6 x8 x9 x10 x11 (wrap64 (x12 + 1))) else (if x12 < (x4.length : Int) then (if x9.length < 8796093022208 then (if x10.length < 35184372088832 then (hurdleref09_Calls.l1 k x0 x4 x5 x6 x8 (x9 ++ [rdOf ByteArray.empty x4 x12]) (x10 ++ [rd (rd_L8 x6 x11) x12]) x11 (wrap64 (x12 + 1))) else (none)) else (none)) else (none))) else (none)) else (none)) else (none)) else (hurdleref09_Calls.l1 k x0 x4 x5 x6 x8 x9 x10 x11 (wrap64 (x12 + 1)))) else (none)) else (none)) else (hurdleref09_Calls.l0 k x0 x4 x5 x6 x8 x9 x10 (wrap64 (x11 + 1)))
end
def hurdleref09_Calls.f (k : Nat) (a0 : Int) : Option (List ByteArray × List Int) := (hurdleref09_Machines.f).bind fun bt281 => (hurdleref09_Calls.l0 k a0 (([(⟨#[114, 101, 97, 100]⟩ : ByteArray), (⟨#[119, 114, 105, 116, 101]⟩ : ByteArray), (⟨#[111, 112, 101, 110]⟩ : ByteArray), (⟨#[99, 108, 111, 115, 101]⟩ : ByteArray), (⟨#[101, 120, 105, 116]⟩ : ByteArray), (⟨#[102, 111, 114, 107]⟩ : ByteArray), (⟨#[107, 105, 108, 108]⟩ : ByteArray), (⟨#[109, 109, 97, 112]⟩ : ByteArray)] : List ByteArray)) 1000000 (([(([0, 1, 2, 3, 60, 57, 62, 9] : List Int)), (([3, 4, 5, 6, 1, 2, 37, 90] : List Int)), (([63, 64, 1000000, 57, 93, 1000000, 129, 222] : List Int)), (([3, 4, 5, 6, 1, 2, 37, 1000000] : List Int))] : List (List Int))) bt281.2 ([] : List ByteArray) ([] : List Int) 0)
theorem hurdleref09_Calls.mono_l : ∀ k, (∀ y0 y1 y2 y3 y4 y5 y6 y7, LeO (hurdleref09_Calls.l0 k y0 y1 y2 y3 y4 y5 y6 y7) (hurdleref09_Calls.l0 (k + 1) y0 y1 y2 y3 y4 y5 y6 y7)) ∧ (∀ y0 y1 y2 y3 y4 y5 y6 y7 y8, LeO (hurdleref09_Calls.l1 k y0 y1 y2 y3 y4 y5 y6 y7 y8) (hurdleref09_Calls.l1 (k + 1) y0 y1 y2 y3 y4 y5 y6 y7 y8))
  | 0 => ⟨fun _ _ _ _ _ _ _ _ r h => by simp [hurdleref09_Calls.l0] at h, fun _ _ _ _ _ _ _ _ _ r h => by simp [hurdleref09_Calls.l1] at h⟩
  | k + 1 => by
    obtain ⟨ih0, ih1⟩ := hurdleref09_Calls.mono_l k
    refine ⟨?_, ?_⟩
    · intro y0 y1 y2 y3 y4 y5 y6 y7
      unfold hurdleref09_Calls.l0
      repeat' first
      | (with_reducible exact ih0 _ _ _ _ _ _ _ _)
      | (with_reducible exact ih1 _ _ _ _ _ _ _ _ _)
      | (with_reducible exact LeO.refl _)
      | (with_reducible exact LeO.none _)
      | (with_reducible refine LeO.ite ?_ ?_)
      | (with_reducible refine LeO.bind ?_ (fun _ => ?_))
      | exact ih0 _ _ _ _ _ _ _ _
      | exact ih1 _ _ _ _ _ _ _ _ _
      | exact LeO.none _
      | refine LeO.ite ?_ ?_
      | refine LeO.bind ?_ (fun _ => ?_)
    · intro y0 y1 y2 y3 y4 y5 y6 y7 y8
      unfold hurdleref09_Calls.l1
      repeat' first
      | (with_reducible exact ih0 _ _ _ _ _ _ _ _)
      | (with_reducible exact ih1 _ _ _ _ _ _ _ _ _)
      | (with_reducible exact LeO.refl _)
      | (with_reducible exact LeO.none _)
      | (with_reducible refine LeO.ite ?_ ?_)
      | (with_reducible refine LeO.bind ?_ (fun _ => ?_))
      | exact ih0 _ _ _ _ _ _ _ _
      | exact ih1 _ _ _ _ _ _ _ _ _
      | exact LeO.none _
      | refine LeO.ite ?_ ?_
      | refine LeO.bind ?_ (fun _ => ?_)
theorem hurdleref09_Calls.mono : ∀ a0 k, LeO (hurdleref09_Calls.f k a0) (hurdleref09_Calls.f (k + 1) a0) := by
  intro a0 k
  obtain ⟨ih0, ih1⟩ := hurdleref09_Calls.mono_l k
  unfold hurdleref09_Calls.f
  repeat' first
      | (with_reducible exact ih0 _ _ _ _ _ _ _ _)
      | (with_reducible exact ih1 _ _ _ _ _ _ _ _ _)
      | (with_reducible exact LeO.refl _)
      | (with_reducible exact LeO.none _)
      | (with_reducible refine LeO.ite ?_ ?_)
      | (with_reducible refine LeO.bind ?_ (fun _ => ?_))
      | exact ih0 _ _ _ _ _ _ _ _
      | exact ih1 _ _ _ _ _ _ _ _ _
      | exact LeO.none _
      | refine LeO.ite ?_ ?_
      | refine LeO.bind ?_ (fun _ => ?_)
set_option maxHeartbeats 8000000 in
set_option maxRecDepth 100000 in
theorem hurdleref09_Calls.calls (k : Nat) (a0 : Int) (r1 : List ByteArray) (r2 : List Int) (w : World) (h : hurdleref09_Calls.f k a0 = some (r1, r2)) :
    Calls Try.prog 74 #[.int .u32 a0] w fun e w' => ∃ v0_ v1_ : Value, e = .returned (.tuple #[v0_, v1_]) ∧ Kd.R Kd.string 9 w' w.heap.size (fun _ => True) v0_ r1 ∧ Kd.R (Kd.int .u32) 23 w' w.heap.size (fun _ => True) v1_ r2 ∧ Below w.heap.size w w' := by
  have HB := Aside0.mk (Below.refl w.heap.size w)
  have H : ((hurdleref09_Machines.f).bind fun bt281 => (hurdleref09_Calls.l0 k a0 (([(⟨#[114, 101, 97, 100]⟩ : ByteArray), (⟨#[119, 114, 105, 116, 101]⟩ : ByteArray), (⟨#[111, 112, 101, 110]⟩ : ByteArray), (⟨#[99, 108, 111, 115, 101]⟩ : ByteArray), (⟨#[101, 120, 105, 116]⟩ : ByteArray), (⟨#[102, 111, 114, 107]⟩ : ByteArray), (⟨#[107, 105, 108, 108]⟩ : ByteArray), (⟨#[109, 109, 97, 112]⟩ : ByteArray)] : List ByteArray)) 1000000 (([(([0, 1, 2, 3, 60, 57, 62, 9] : List Int)), (([3, 4, 5, 6, 1, 2, 37, 90] : List Int)), (([63, 64, 1000000, 57, 93, 1000000, 129, 222] : List Int)), (([3, 4, 5, 6, 1, 2, 37, 1000000] : List Int))] : List (List Int))) bt281.2 ([] : List ByteArray) ([] : List Int) 0)) = some (r1, r2) := h
  clear h
  obtain ⟨y263, hy263⟩ : ∃ y_ : List ByteArray, y_ = (([(⟨#[114, 101, 97, 100]⟩ : ByteArray), (⟨#[119, 114, 105, 116, 101]⟩ : ByteArray), (⟨#[111, 112, 101, 110]⟩ : ByteArray), (⟨#[99, 108, 111, 115, 101]⟩ : ByteArray), (⟨#[101, 120, 105, 116]⟩ : ByteArray), (⟨#[102, 111, 114, 107]⟩ : ByteArray), (⟨#[107, 105, 108, 108]⟩ : ByteArray), (⟨#[109, 109, 97, 112]⟩ : ByteArray)] : List ByteArray)) := ⟨_, rfl⟩
  replace H : ((hurdleref09_Machines.f).bind fun bt281 => (hurdleref09_Calls.l0 k a0 y263 1000000 (([(([0, 1, 2, 3, 60, 57, 62, 9] : List Int)), (([3, 4, 5, 6, 1, 2, 37, 90] : List Int)), (([63, 64, 1000000, 57, 93, 1000000, 129, 222] : List Int)), (([3, 4, 5, 6, 1, 2, 37, 1000000] : List Int))] : List (List Int))) bt281.2 ([] : List ByteArray) ([] : List Int) 0)) = some (r1, r2) := by first | (rw [hy263]; with_reducible exact H) | (have H2_ := (Option.bind_some _ _).symm.trans H; rw [hy263]; with_reducible exact H2_) | (have H2_ := (Option.bind_some _ _).symm.trans H; with_reducible exact H2_) | with_reducible exact H | (rw [hy263]; exact H) | exact H
  have Ny263 := Aside0.mk hy263
  clear hy263
  obtain ⟨y266, hy266⟩ : ∃ y_ : List Int, y_ = (([0, 1, 2, 3, 60, 57, 62, 9] : List Int)) := ⟨_, rfl⟩
  replace H : ((hurdleref09_Machines.f).bind fun bt281 => (hurdleref09_Calls.l0 k a0 y263 1000000 (([y266, (([3, 4, 5, 6, 1, 2, 37, 90] : List Int)), (([63, 64, 1000000, 57, 93, 1000000, 129, 222] : List Int)), (([3, 4, 5, 6, 1, 2, 37, 1000000] : List Int))] : List (List Int))) bt281.2 ([] : List ByteArray) ([] : List Int) 0)) = some (r1, r2) := by first | (rw [hy266]; with_reducible exact H) | (have H2_ := (Option.bind_some _ _).symm.trans H; rw [hy266]; with_reducible exact H2_) | (have H2_ := (Option.bind_some _ _).symm.trans H; with_reducible exact H2_) | with_reducible exact H | (rw [hy266]; exact H) | exact H
  have Ny266 := Aside0.mk hy266
  clear hy266
  obtain ⟨y269, hy269⟩ : ∃ y_ : List Int, y_ = (([3, 4, 5, 6, 1, 2, 37, 90] : List Int)) := ⟨_, rfl⟩
  replace H : ((hurdleref09_Machines.f).bind fun bt281 => (hurdleref09_Calls.l0 k a0 y263 1000000 (([y266, y269, (([63, 64, 1000000, 57, 93, 1000000, 129, 222] : List Int)), (([3, 4, 5, 6, 1, 2, 37, 1000000] : List Int))] : List (List Int))) bt281.2 ([] : List ByteArray) ([] : List Int) 0)) = some (r1, r2) := by first | (rw [hy269]; with_reducible exact H) | (have H2_ := (Option.bind_some _ _).symm.trans H; rw [hy269]; with_reducible exact H2_) | (have H2_ := (Option.bind_some _ _).symm.trans H; with_reducible exact H2_) | with_reducible exact H | (rw [hy269]; exact H) | exact H
  have Ny269 := Aside0.mk hy269
  clear hy269
  obtain ⟨y272, hy272⟩ : ∃ y_ : List Int, y_ = (([63, 64, 1000000, 57, 93, 1000000, 129, 222] : List Int)) := ⟨_, rfl⟩
  replace H : ((hurdleref09_Machines.f).bind fun bt281 => (hurdleref09_Calls.l0 k a0 y263 1000000 (([y266, y269, y272, (([3, 4, 5, 6, 1, 2, 37, 1000000] : List Int))] : List (List Int))) bt281.2 ([] : List ByteArray) ([] : List Int) 0)) = some (r1, r2) := by first | (rw [hy272]; with_reducible exact H) | (have H2_ := (Option.bind_some _ _).symm.trans H; rw [hy272]; with_reducible exact H2_) | (have H2_ := (Option.bind_some _ _).symm.trans H; with_reducible exact H2_) | with_reducible exact H | (rw [hy272]; exact H) | exact H
  have Ny272 := Aside0.mk hy272
  clear hy272
  obtain ⟨y275, hy275⟩ : ∃ y_ : List Int, y_ = (([3, 4, 5, 6, 1, 2, 37, 1000000] : List Int)) := ⟨_, rfl⟩
  replace H : ((hurdleref09_Machines.f).bind fun bt281 => (hurdleref09_Calls.l0 k a0 y263 1000000 (([y266, y269, y272, y275] : List (List Int))) bt281.2 ([] : List ByteArray) ([] : List Int) 0)) = some (r1, r2) := by first | (rw [hy275]; with_reducible exact H) | (have H2_ := (Option.bind_some _ _).symm.trans H; rw [hy275]; with_reducible exact H2_) | (have H2_ := (Option.bind_some _ _).symm.trans H; with_reducible exact H2_) | with_reducible exact H | (rw [hy275]; exact H) | exact H
  have Ny275 := Aside0.mk hy275
  clear hy275
  obtain ⟨y278, hy278⟩ : ∃ y_ : List (List Int), y_ = (([y266, y269, y272, y275] : List (List Int))) := ⟨_, rfl⟩
  replace H : ((hurdleref09_Machines.f).bind fun bt281 => (hurdleref09_Calls.l0 k a0 y263 1000000 y278 bt281.2 ([] : List ByteArray) ([] : List Int) 0)) = some (r1, r2) := by first | (rw [hy278]; with_reducible exact H) | (have H2_ := (Option.bind_some _ _).symm.trans H; rw [hy278]; with_reducible exact H2_) | (have H2_ := (Option.bind_some _ _).symm.trans H; with_reducible exact H2_) | with_reducible exact H | (rw [hy278]; exact H) | exact H
  have Ny278 := Aside0.mk hy278
  clear hy278
  replace H := Option.bind_eq_some_iff.mp H
  obtain ⟨⟨t281, t282⟩, A20, H⟩ := H
  replace H : (hurdleref09_Calls.l0 k a0 y263 1000000 y278 t282 ([] : List ByteArray) ([] : List Int) 0) = some (r1, r2) := H
  have A2 := Aside0.mk A20
  clear A20
  have H' := Aside0.mk H
  clear H
  go_enter Try.func74, Try.ntmps74
  go_wp2_with (first | ((with_reducible refine gate_dst (N := 13) rfl ?_); refine Kd.R_lit Kd.string _ 9 ?hg (N := 13) ?hd (xs := ([(⟨#[114, 101, 97, 100]⟩ : ByteArray), (⟨#[119, 114, 105, 116, 101]⟩ : ByteArray), (⟨#[111, 112, 101, 110]⟩ : ByteArray), (⟨#[99, 108, 111, 115, 101]⟩ : ByteArray), (⟨#[101, 120, 105, 116]⟩ : ByteArray), (⟨#[102, 111, 114, 107]⟩ : ByteArray), (⟨#[107, 105, 108, 108]⟩ : ByteArray), (⟨#[109, 109, 97, 112]⟩ : ByteArray)] : List ByteArray)) (inner := [.string (⟨#[114, 101, 97, 100]⟩ : ByteArray), .string (⟨#[119, 114, 105, 116, 101]⟩ : ByteArray), .string (⟨#[111, 112, 101, 110]⟩ : ByteArray), .string (⟨#[99, 108, 111, 115, 101]⟩ : ByteArray), .string (⟨#[101, 120, 105, 116]⟩ : ByteArray), .string (⟨#[102, 111, 114, 107]⟩ : ByteArray), .string (⟨#[107, 105, 108, 108]⟩ : ByteArray), .string (⟨#[109, 109, 97, 112]⟩ : ByteArray)]) (ok := fun _ => True) (okp := fun _ => True) ?hr ?hp (fun _ hk => hk) trivial (Below.refl _ _) (Nat.le_refl _) (by simp) ?_; (case hd => rfl); (case hg => rfl); (case hr => first | (go_simp; done) | (go_simp; rfl)); (case hp => exact (Reps.one (show Kd.M Kd.string _ _ _ (⟨#[114, 101, 97, 100]⟩ : ByteArray) [.string (⟨#[114, 101, 97, 100]⟩ : ByteArray)] from rfl) (Reps.one (show Kd.M Kd.string _ _ _ (⟨#[119, 114, 105, 116, 101]⟩ : ByteArray) [.string (⟨#[119, 114, 105, 116, 101]⟩ : ByteArray)] from rfl) (Reps.one (show Kd.M Kd.string _ _ _ (⟨#[111, 112, 101, 110]⟩ : ByteArray) [.string (⟨#[111, 112, 101, 110]⟩ : ByteArray)] from rfl) (Reps.one (show Kd.M Kd.string _ _ _ (⟨#[99, 108, 111, 115, 101]⟩ : ByteArray) [.string (⟨#[99, 108, 111, 115, 101]⟩ : ByteArray)] from rfl) (Reps.one (show Kd.M Kd.string _ _ _ (⟨#[101, 120, 105, 116]⟩ : ByteArray) [.string (⟨#[101, 120, 105, 116]⟩ : ByteArray)] from rfl) (Reps.one (show Kd.M Kd.string _ _ _ (⟨#[102, 111, 114, 107]⟩ : ByteArray) [.string (⟨#[102, 111, 114, 107]⟩ : ByteArray)] from rfl) (Reps.one (show Kd.M Kd.string _ _ _ (⟨#[107, 105, 108, 108]⟩ : ByteArray) [.string (⟨#[107, 105, 108, 108]⟩ : ByteArray)] from rfl) (Reps.one (show Kd.M Kd.string _ _ _ (⟨#[109, 109, 97, 112]⟩ : ByteArray) [.string (⟨#[109, 109, 97, 112]⟩ : ByteArray)] from rfl) (Reps.none _ _)))))))))); intro v264 w3 ho4 hb hg_ hnew_; clear hg_ hnew_; (first | rw [← Ny263.out] at ho4 | (simp only [Int.reduceToNat] at ho4; rw [← Ny263.out] at ho4)); have n0_ := Aside0.mk (Kd.R_lower ho4 (below_size (by repeat (first | (with_reducible first | exact HB.out | apply below_alloc | apply pw_below_drewN | apply below_drew1) | exact HB.out)))); have n1_ := Aside0.mk (below_step (by repeat (first | (with_reducible first | exact HB.out | apply below_alloc | apply pw_below_drewN | apply below_drew1) | exact HB.out)) hb); clear HB; have HO265 := n0_; have HB := n1_; clear n0_ n1_; clear hb ho4) | ((with_reducible refine gate_dst (N := 14) rfl ?_); refine Kd.R_lit (Kd.int .u32) _ 23 ?hg (N := 14) ?hd (xs := ([0, 1, 2, 3, 60, 57, 62, 9] : List Int)) (inner := [.int .u32 0, .int .u32 1, .int .u32 2, .int .u32 3, .int .u32 60, .int .u32 57, .int .u32 62, .int .u32 9]) (ok := fun _ => True) (okp := fun _ => True) ?hr ?hp (fun _ hk => hk) trivial (Below.refl _ _) (Nat.le_refl _) (by simp) ?_; (case hd => rfl); (case hg => rfl); (case hr => first | (go_simp; done) | (go_simp; rfl)); (case hp => exact (Reps.one (show Kd.M (Kd.int .u32) _ _ _ 0 [.int .u32 0] from rfl) (Reps.one (show Kd.M (Kd.int .u32) _ _ _ 1 [.int .u32 1] from rfl) (Reps.one (show Kd.M (Kd.int .u32) _ _ _ 2 [.int .u32 2] from rfl) (Reps.one (show Kd.M (Kd.int .u32) _ _ _ 3 [.int .u32 3] from rfl) (Reps.one (show Kd.M (Kd.int .u32) _ _ _ 60 [.int .u32 60] from rfl) (Reps.one (show Kd.M (Kd.int .u32) _ _ _ 57 [.int .u32 57] from rfl) (Reps.one (show Kd.M (Kd.int .u32) _ _ _ 62 [.int .u32 62] from rfl) (Reps.one (show Kd.M (Kd.int .u32) _ _ _ 9 [.int .u32 9] from rfl) (Reps.none _ _)))))))))); intro v267 w5 ho6 hb hg_ hnew_; clear hg_ hnew_; (first | rw [← Ny266.out] at ho6 | (simp only [Int.reduceToNat] at ho6; rw [← Ny266.out] at ho6)); have n0_ := Aside0.mk (Kd.R_below (by (with_reducible repeat (first | apply Kd.R_alloc | apply Kd.R_drewN | apply Kd.R_drew)); exact HO265.out) hb); have n1_ := Aside0.mk (Kd.R_lower ho6 (below_size (by repeat (first | (with_reducible first | exact HB.out | apply below_alloc | apply pw_below_drewN | apply below_drew1) | exact HB.out)))); have n2_ := Aside0.mk (below_step (by repeat (first | (with_reducible first | exact HB.out | apply below_alloc | apply pw_below_drewN | apply below_drew1) | exact HB.out)) hb); clear HO265; clear HB; have HO265 := n0_; have HO268 := n1_; have HB := n2_; clear n0_ n1_ n2_; clear hb ho6) | ((with_reducible refine gate_dst (N := 15) rfl ?_); refine Kd.R_lit (Kd.int .u32) _ 23 ?hg (N := 15) ?hd (xs := ([3, 4, 5, 6, 1, 2, 37, 90] : List Int)) (inner := [.int .u32 3, .int .u32 4, .int .u32 5, .int .u32 6, .int .u32 1, .int .u32 2, .int .u32 37, .int .u32 90]) (ok := fun _ => True) (okp := fun _ => True) ?hr ?hp (fun _ hk => hk) trivial (Below.refl _ _) (Nat.le_refl _) (by simp) ?_; (case hd => rfl); (case hg => rfl); (case hr => first | (go_simp; done) | (go_simp; rfl)); (case hp => exact (Reps.one (show Kd.M (Kd.int .u32) _ _ _ 3 [.int .u32 3] from rfl) (Reps.one (show Kd.M (Kd.int .u32) _ _ _ 4 [.int .u32 4] from rfl) (Reps.one (show Kd.M (Kd.int .u32) _ _ _ 5 [.int .u32 5] from rfl) (Reps.one (show Kd.M (Kd.int .u32) _ _ _ 6 [.int .u32 6] from rfl) (Reps.one (show Kd.M (Kd.int .u32) _ _ _ 1 [.int .u32 1] from rfl) (Reps.one (show Kd.M (Kd.int .u32) _ _ _ 2 [.int .u32 2] from rfl) (Reps.one (show Kd.M (Kd.int .u32) _ _ _ 37 [.int .u32 37] from rfl) (Reps.one (show Kd.M (Kd.int .u32) _ _ _ 90 [.int .u32 90] from rfl) (Reps.none _ _)))))))))); intro v270 w7 ho8 hb hg_ hnew_; clear hg_ hnew_; (first | rw [← Ny269.out] at ho8 | (simp only [Int.reduceToNat] at ho8; rw [← Ny269.out] at ho8)); have n0_ := Aside0.mk (Kd.R_below (by (with_reducible repeat (first | apply Kd.R_alloc | apply Kd.R_drewN | apply Kd.R_drew)); exact HO265.out) hb); have n1_ := Aside0.mk (Kd.R_elder' (by (with_reducible repeat (first | apply Kd.R_alloc | apply Kd.R_drewN | apply Kd.R_drew)); exact HO268.out) (Kd.R_base ho8) hb); have n2_ := Aside0.mk (Kd.R_lower (Kd.R_new' ho8 (Kd.R_lt (by (with_reducible repeat (first | apply Kd.R_alloc | apply Kd.R_drewN | apply Kd.R_drew)); exact HO268.out))) (below_size (by repeat (first | (with_reducible first | exact HB.out | apply below_alloc | apply pw_below_drewN | apply below_drew1) | exact HB.out)))); have n3_ := Aside0.mk (below_step (by repeat (first | (with_reducible first | exact HB.out | apply below_alloc | apply pw_below_drewN | apply below_drew1) | exact HB.out)) hb); clear HO265; clear HO268; clear HB; have HO265 := n0_; have HO268 := n1_; have HO271 := n2_; have HB := n3_; clear n0_ n1_ n2_ n3_; clear hb ho8) | ((with_reducible refine gate_dst (N := 18) rfl ?_); refine Kd.R_lit (Kd.int .u32) _ 23 ?hg (N := 18) ?hd (xs := ([63, 64, 1000000, 57, 93, 1000000, 129, 222] : List Int)) (inner := [.int .u32 63, .int .u32 64, .int .u32 1000000, .int .u32 57, .int .u32 93, .int .u32 1000000, .int .u32 129, .int .u32 222]) (ok := fun _ => True) (okp := fun _ => True) ?hr ?hp (fun _ hk => hk) trivial (Below.refl _ _) (Nat.le_refl _) (by simp) ?_; (case hd => rfl); (case hg => rfl); (case hr => first | (go_simp; done) | (go_simp; rfl)); (case hp => exact (Reps.one (show Kd.M (Kd.int .u32) _ _ _ 63 [.int .u32 63] from rfl) (Reps.one (show Kd.M (Kd.int .u32) _ _ _ 64 [.int .u32 64] from rfl) (Reps.one (show Kd.M (Kd.int .u32) _ _ _ 1000000 [.int .u32 1000000] from rfl) (Reps.one (show Kd.M (Kd.int .u32) _ _ _ 57 [.int .u32 57] from rfl) (Reps.one (show Kd.M (Kd.int .u32) _ _ _ 93 [.int .u32 93] from rfl) (Reps.one (show Kd.M (Kd.int .u32) _ _ _ 1000000 [.int .u32 1000000] from rfl) (Reps.one (show Kd.M (Kd.int .u32) _ _ _ 129 [.int .u32 129] from rfl) (Reps.one (show Kd.M (Kd.int .u32) _ _ _ 222 [.int .u32 222] from rfl) (Reps.none _ _)))))))))); intro v273 w9 ho10 hb hg_ hnew_; clear hg_ hnew_; (first | rw [← Ny272.out] at ho10 | (simp only [Int.reduceToNat] at ho10; rw [← Ny272.out] at ho10)); have n0_ := Aside0.mk (Kd.R_below (by (with_reducible repeat (first | apply Kd.R_alloc | apply Kd.R_drewN | apply Kd.R_drew)); exact HO265.out) hb); have n1_ := Aside0.mk (Kd.R_elder' (by (with_reducible repeat (first | apply Kd.R_alloc | apply Kd.R_drewN | apply Kd.R_drew)); exact HO268.out) (Kd.R_base ho10) hb); have n2_ := Aside0.mk (Kd.R_elder' (by (with_reducible repeat (first | apply Kd.R_alloc | apply Kd.R_drewN | apply Kd.R_drew)); exact HO271.out) (Kd.R_base ho10) hb); have n3_ := Aside0.mk (Kd.R_lower (Kd.R_new' (Kd.R_new' ho10 (Kd.R_lt (by (with_reducible repeat (first | apply Kd.R_alloc | apply Kd.R_drewN | apply Kd.R_drew)); exact HO268.out))) (Kd.R_lt (by (with_reducible repeat (first | apply Kd.R_alloc | apply Kd.R_drewN | apply Kd.R_drew)); exact HO271.out))) (below_size (by repeat (first | (with_reducible first | exact HB.out | apply below_alloc | apply pw_below_drewN | apply below_drew1) | exact HB.out)))); have n4_ := Aside0.mk (below_step (by repeat (first | (with_reducible first | exact HB.out | apply below_alloc | apply pw_below_drewN | apply below_drew1) | exact HB.out)) hb); clear HO265; clear HO268; clear HO271; clear HB; have HO265 := n0_; have HO268 := n1_; have HO271 := n2_; have HO274 := n3_; have HB := n4_; clear n0_ n1_ n2_ n3_ n4_; clear hb ho10) | ((with_reducible refine gate_dst (N := 20) rfl ?_); refine Kd.R_lit (Kd.int .u32) _ 23 ?hg (N := 20) ?hd (xs := ([3, 4, 5, 6, 1, 2, 37, 1000000] : List Int)) (inner := [.int .u32 3, .int .u32 4, .int .u32 5, .int .u32 6, .int .u32 1, .int .u32 2, .int .u32 37, .int .u32 1000000]) (ok := fun _ => True) (okp := fun _ => True) ?hr ?hp (fun _ hk => hk) trivial (Below.refl _ _) (Nat.le_refl _) (by simp) ?_; (case hd => rfl); (case hg => rfl); (case hr => first | (go_simp; done) | (go_simp; rfl)); (case hp => exact (Reps.one (show Kd.M (Kd.int .u32) _ _ _ 3 [.int .u32 3] from rfl) (Reps.one (show Kd.M (Kd.int .u32) _ _ _ 4 [.int .u32 4] from rfl) (Reps.one (show Kd.M (Kd.int .u32) _ _ _ 5 [.int .u32 5] from rfl) (Reps.one (show Kd.M (Kd.int .u32) _ _ _ 6 [.int .u32 6] from rfl) (Reps.one (show Kd.M (Kd.int .u32) _ _ _ 1 [.int .u32 1] from rfl) (Reps.one (show Kd.M (Kd.int .u32) _ _ _ 2 [.int .u32 2] from rfl) (Reps.one (show Kd.M (Kd.int .u32) _ _ _ 37 [.int .u32 37] from rfl) (Reps.one (show Kd.M (Kd.int .u32) _ _ _ 1000000 [.int .u32 1000000] from rfl) (Reps.none _ _)))))))))); intro v276 w11 ho12 hb hg_ hnew_; clear hg_ hnew_; (first | rw [← Ny275.out] at ho12 | (simp only [Int.reduceToNat] at ho12; rw [← Ny275.out] at ho12)); have n0_ := Aside0.mk (Kd.R_below (by (with_reducible repeat (first | apply Kd.R_alloc | apply Kd.R_drewN | apply Kd.R_drew)); exact HO265.out) hb); have n1_ := Aside0.mk (Kd.R_elder' (by (with_reducible repeat (first | apply Kd.R_alloc | apply Kd.R_drewN | apply Kd.R_drew)); exact HO268.out) (Kd.R_base ho12) hb); have n2_ := Aside0.mk (Kd.R_elder' (by (with_reducible repeat (first | apply Kd.R_alloc | apply Kd.R_drewN | apply Kd.R_drew)); exact HO271.out) (Kd.R_base ho12) hb); have n3_ := Aside0.mk (Kd.R_elder' (by (with_reducible repeat (first | apply Kd.R_alloc | apply Kd.R_drewN | apply Kd.R_drew)); exact HO274.out) (Kd.R_base ho12) hb); have n4_ := Aside0.mk (Kd.R_lower (Kd.R_new' (Kd.R_new' (Kd.R_new' ho12 (Kd.R_lt (by (with_reducible repeat (first | apply Kd.R_alloc | apply Kd.R_drewN | apply Kd.R_drew)); exact HO268.out))) (Kd.R_lt (by (with_reducible repeat (first | apply Kd.R_alloc | apply Kd.R_drewN | apply Kd.R_drew)); exact HO271.out))) (Kd.R_lt (by (with_reducible repeat (first | apply Kd.R_alloc | apply Kd.R_drewN | apply Kd.R_drew)); exact HO274.out))) (below_size (by repeat (first | (with_reducible first | exact HB.out | apply below_alloc | apply pw_below_drewN | apply below_drew1) | exact HB.out)))); have n5_ := Aside0.mk (below_step (by repeat (first | (with_reducible first | exact HB.out | apply below_alloc | apply pw_below_drewN | apply below_drew1) | exact HB.out)) hb); clear HO265; clear HO268; clear HO271; clear HO274; clear HB; have HO265 := n0_; have HO268 := n1_; have HO271 := n2_; have HO274 := n3_; have HO277 := n4_; have HB := n5_; clear n0_ n1_ n2_ n3_ n4_ n5_; clear hb ho12; obtain ⟨Ao13, co13, eo13⟩ := Kd.R_slice HO268.out; subst eo13; obtain ⟨Ao14, co14, eo14⟩ := Kd.R_slice HO271.out; subst eo14; obtain ⟨Ao15, co15, eo15⟩ := Kd.R_slice HO274.out; subst eo15; obtain ⟨Ao16, co16, eo16⟩ := Kd.R_slice HO277.out; subst eo16) | ((with_reducible refine gate_dst (N := 21) rfl ?_); refine Kd.N_lit (Kd.slice 23 (Kd.int .u32)) _ 93 ?hg (N' := 21) ?hd (xs := ([y266, y269, y272, y275] : List (List Int))) (inner := [.slice Ao13 y266.length co13, .slice Ao14 y269.length co14, .slice Ao15 y272.length co15, .slice Ao16 y275.length co16]) (ok := (fun k_ => some k_ ≠ (v264 : Value).ownBlock)) (okp := (fun k_ => some k_ ≠ (v264 : Value).ownBlock)) ?hr ?hp (fun _ hk => hk) ((show ∀ k_, w11.heap.size ≤ k_ → (fun k_ => some k_ ≠ (v264 : Value).ownBlock) k_ from fun k_ hk => Kd.fresh' (Kd.R_lt (by (with_reducible repeat (first | apply Kd.R_alloc | apply Kd.R_drewN | apply Kd.R_drew)); exact HO265.out)) k_ hk) _ (Nat.le_refl _)) (Below.refl _ _) (Nat.le_refl _) (by simp) ?_; (case hd => rfl); (case hg => rfl); (case hr => first | (go_simp; done) | (go_simp; rfl)); (case hp => exact (Reps.one (show Kd.FK (Kd.slice 23 (Kd.int .u32)) _ _ y266 [.slice Ao13 y266.length co13] from (Kd.FK_slice_mk (Kd.R_reads' (Kd.R_mono (ok' := (fun k_ => some k_ ≠ (v264 : Value).ownBlock)) (Kd.R_apart' (HO268.out) (Kd.R_typed HO265.out) (by decide)) (fun k_ hk => hk.2))).2.1 (Kd.R_F (Kd.R_mono (ok' := (fun k_ => some k_ ≠ (v264 : Value).ownBlock)) (Kd.R_apart' (HO268.out) (Kd.R_typed HO265.out) (by decide)) (fun k_ hk => hk.2))))) (Reps.one (show Kd.FK (Kd.slice 23 (Kd.int .u32)) _ _ y269 [.slice Ao14 y269.length co14] from (Kd.FK_slice_mk (Kd.R_reads' (Kd.R_mono (ok' := (fun k_ => some k_ ≠ (v264 : Value).ownBlock)) (Kd.R_apart' (HO271.out) (Kd.R_typed HO265.out) (by decide)) (fun k_ hk => hk.2))).2.1 (Kd.R_F (Kd.R_mono (ok' := (fun k_ => some k_ ≠ (v264 : Value).ownBlock)) (Kd.R_apart' (HO271.out) (Kd.R_typed HO265.out) (by decide)) (fun k_ hk => hk.2))))) (Reps.one (show Kd.FK (Kd.slice 23 (Kd.int .u32)) _ _ y272 [.slice Ao15 y272.length co15] from (Kd.FK_slice_mk (Kd.R_reads' (Kd.R_mono (ok' := (fun k_ => some k_ ≠ (v264 : Value).ownBlock)) (Kd.R_apart' (HO274.out) (Kd.R_typed HO265.out) (by decide)) (fun k_ hk => hk.2))).2.1 (Kd.R_F (Kd.R_mono (ok' := (fun k_ => some k_ ≠ (v264 : Value).ownBlock)) (Kd.R_apart' (HO274.out) (Kd.R_typed HO265.out) (by decide)) (fun k_ hk => hk.2))))) (Reps.one (show Kd.FK (Kd.slice 23 (Kd.int .u32)) _ _ y275 [.slice Ao16 y275.length co16] from (Kd.FK_slice_mk (Kd.R_reads' (Kd.R_mono (ok' := (fun k_ => some k_ ≠ (v264 : Value).ownBlock)) (Kd.R_apart' (HO277.out) (Kd.R_typed HO265.out) (by decide)) (fun k_ hk => hk.2))).2.1 (Kd.R_F (Kd.R_mono (ok' := (fun k_ => some k_ ≠ (v264 : Value).ownBlock)) (Kd.R_apart' (HO277.out) (Kd.R_typed HO265.out) (by decide)) (fun k_ hk => hk.2))))) (Reps.none _ _)))))); intro v279 w17 ho18 hb hg_ hnew_; clear hg_ hnew_; (first | rw [← Ny278.out] at ho18 | (simp only [Int.reduceToNat] at ho18; rw [← Ny278.out] at ho18)); have n0_ := Aside0.mk (Kd.R_below (by (with_reducible repeat (first | apply Kd.R_alloc | apply Kd.R_drewN | apply Kd.R_drew)); exact HO265.out) hb); have n1_ := Aside0.mk (Kd.N_lower ho18 (below_size (by repeat (first | (with_reducible first | exact HB.out | apply below_alloc | apply pw_below_drewN | apply below_drew1) | exact HB.out)))); have n2_ := Aside0.mk (below_step (by repeat (first | (with_reducible first | exact HB.out | apply below_alloc | apply pw_below_drewN | apply below_drew1) | exact HB.out)) hb); clear HO265; clear HB; clear HO268; clear HO271; clear HO274; clear HO277; have HO265 := n0_; have HO280 := n1_; have HB := n2_; clear n0_ n1_ n2_; clear hb ho18) | ((with_reducible refine gate_callee (f := 72) rfl ?_); refine goesL_ (some 23) rfl rfl Try.func72 (by kernel_rfl) rfl #[] rfl (by (try simp only [List.map_toArray, List.map_cons, List.map_nil]); first | done | rfl | (simp only [List.length_drop, List.length_take]; rfl)) ?_; (with_reducible refine (hurdleref09_Machines.calls  t281 t282 _ A2.out).mono ?_); rintro e w19 ⟨v283, v285, rfl, ho0, ho1, hb⟩; refine ⟨_, rfl, ?_⟩; have n0_ := Aside0.mk (Kd.R_elder' (by (with_reducible repeat (first | apply Kd.R_alloc | apply Kd.R_drewN | apply Kd.R_drew)); exact HO265.out) (Kd.R_base ho0) hb); have n1_ := Aside0.mk (Kd.N_mono (Kd.N_told (Kd.N_told (Kd.N_old (by (with_reducible repeat (first | apply Kd.N_alloc | apply Kd.N_drewN | apply Kd.N_drew)); exact HO280.out) hb) (Kd.R_base ho0)) (Kd.R_base ho1)) (fun _ h_ => h_.1)); have n2_ := Aside0.mk (Kd.R_lower (Kd.R_new' ho0 (Kd.R_lt (by (with_reducible repeat (first | apply Kd.R_alloc | apply Kd.R_drewN | apply Kd.R_drew)); exact HO265.out))) (below_size (by repeat (first | (with_reducible first | exact HB.out | apply below_alloc | apply pw_below_drewN | apply below_drew1) | exact HB.out)))); have n3_ := Aside0.mk (Kd.R_lower ho1 (below_size (by repeat (first | (with_reducible first | exact HB.out | apply below_alloc | apply pw_below_drewN | apply below_drew1) | exact HB.out)))); have n4_ := Aside0.mk (below_step (by repeat (first | (with_reducible first | exact HB.out | apply below_alloc | apply pw_below_drewN | apply below_drew1) | exact HB.out)) hb); clear HO265; clear HO280; clear HB; have HO265 := n0_; have HO280 := n1_; have HO284 := n2_; have HO286 := n3_; have HB := n4_; clear n0_ n1_ n2_ n3_ n4_; (try clear hb); (try clear hb2); (try clear hk); (try clear hi); (try clear ho0); (try clear ho1)))
  go_loopg [9, 10, 11] k (fun kq v9 v10 v11 w' => ∃ (x9_1 : List ByteArray) (x10_1 : List Int) (x11_1 : Int), v11 = .int .i64 x11_1 ∧ Aside0 (hurdleref09_Calls.l0 kq a0 y263 1000000 y278 t282 x9_1 x10_1 x11_1 = some (r1, r2)) ∧ Aside0 (kq ≤ k) ∧ Aside0 (Kd.R Kd.string 9 w' w.heap.size (fun k_ => some k_ ≠ (v9 : Value).ownBlock) v264 y263) ∧ Aside0 (Kd.N (Kd.slice 23 (Kd.int .u32)) 93 w' w.heap.size (fun k_ => some k_ ≠ (v264 : Value).ownBlock ∧ some k_ ≠ (v285 : Value).ownBlock ∧ some k_ ≠ (v9 : Value).ownBlock ∧ some k_ ≠ (v10 : Value).ownBlock) v279 y278) ∧ Aside0 (Kd.R (Kd.int .u32) 23 w' w.heap.size (fun k_ => some k_ ≠ (v10 : Value).ownBlock) v285 t282) ∧ Aside0 (Kd.R Kd.string 9 w' w.heap.size (fun k_ => some k_ ≠ (v264 : Value).ownBlock) v9 x9_1) ∧ Aside0 (Kd.R (Kd.int .u32) 23 w' w.heap.size (fun k_ => some k_ ≠ (v285 : Value).ownBlock) v10 x10_1) ∧ Aside0 (Below w.heap.size w w'))
  case atStart => exact ⟨(([] : List ByteArray)), (([] : List Int)), (0), (by first | rfl | (simp; done) | (simp [*]; done)), H', ⟨Nat.le_refl _⟩, ⟨by (with_reducible repeat (first | apply Kd.R_alloc | apply Kd.R_drewN | apply Kd.R_drew)); exact Kd.R_mono HO265.out (fun _ hk => (by simp [Value.ownBlock]))⟩, ⟨by (with_reducible repeat (first | apply Kd.N_alloc | apply Kd.N_drewN | apply Kd.N_drew)); exact Kd.N_mono HO280.out (fun _ hk => ⟨hk.1.1, ⟨hk.2, ⟨(by simp [Value.ownBlock]), (by simp [Value.ownBlock])⟩⟩⟩)⟩, ⟨by (with_reducible repeat (first | apply Kd.R_alloc | apply Kd.R_drewN | apply Kd.R_drew)); exact Kd.R_mono HO286.out (fun _ hk => (by simp [Value.ownBlock]))⟩, ⟨by first | exact Kd.R_nil _ _ _ _ _ | exact Kd.N_nil _ _ _ _ _ | exact Kd.V_nil _ _ _ _ _ | exact Kd.Q_nil _ _ _ _ _ | exact Kd.S_nil _ _ _ _ _⟩, ⟨by first | exact Kd.R_nil _ _ _ _ _ | exact Kd.N_nil _ _ _ _ _ | exact Kd.V_nil _ _ _ _ _ | exact Kd.Q_nil _ _ _ _ _ | exact Kd.S_nil _ _ _ _ _⟩, ⟨by repeat (first | (with_reducible first | exact HB.out | apply below_alloc | apply pw_below_drewN | apply below_drew1) | exact HB.out)⟩⟩
  case round =>
    clear H'
    try clear p2
    try clear c7
    obtain ⟨x9_1, x10_1, x11_1, rfl, HA, HK1, HO_4, HO_6, HO_8, HO_9, HO_10, HB⟩ := hrel
    cases gk with
    | zero => exact absurd HA.out (by simp [hurdleref09_Calls.l0])
    | succ k1 =>
      have H := HA.out
      clear HA
      simp only [hurdleref09_Calls.l0] at H
      by_cases c20 : x11_1 < 4
      · rw [if_pos c20] at H
        have c20b0 : decide (x11_1 < 4) = true := decide_eq_true c20
        clear c20
        have H' := Aside0.mk H
        clear H
        go_wp2
        go_loopg [9, 10, 12] k1 (fun kq v9 v10 v12 w' => ∃ (x9_2 : List ByteArray) (x10_2 : List Int) (x12_2 : Int), v12 = .int .i64 x12_2 ∧ Aside0 (hurdleref09_Calls.l1 kq a0 y263 1000000 y278 t282 x9_2 x10_2 x11_1 x12_2 = some (r1, r2)) ∧ Aside0 (kq ≤ k1) ∧ Aside0 (Kd.R Kd.string 9 w' w.heap.size (fun k_ => some k_ ≠ (v9 : Value).ownBlock) v264 y263) ∧ Aside0 (Kd.N (Kd.slice 23 (Kd.int .u32)) 93 w' w.heap.size (fun k_ => some k_ ≠ (v264 : Value).ownBlock ∧ some k_ ≠ (v285 : Value).ownBlock ∧ some k_ ≠ (v9 : Value).ownBlock ∧ some k_ ≠ (v10 : Value).ownBlock) v279 y278) ∧ Aside0 (Kd.R (Kd.int .u32) 23 w' w.heap.size (fun k_ => some k_ ≠ (v10 : Value).ownBlock) v285 t282) ∧ Aside0 (Kd.R Kd.string 9 w' w.heap.size (fun k_ => some k_ ≠ (v264 : Value).ownBlock) v9 x9_2) ∧ Aside0 (Kd.R (Kd.int .u32) 23 w' w.heap.size (fun k_ => some k_ ≠ (v285 : Value).ownBlock) v10 x10_2) ∧ Aside0 (Below w.heap.size w w'))
        case atStart => exact ⟨(x9_1), (x10_1), (0), (by first | rfl | (simp; done) | (simp [*]; done)), H', ⟨Nat.le_refl _⟩, ⟨by (with_reducible repeat (first | apply Kd.R_alloc | apply Kd.R_drewN | apply Kd.R_drew)); exact HO_4.out⟩, ⟨by (with_reducible repeat (first | apply Kd.N_alloc | apply Kd.N_drewN | apply Kd.N_drew)); exact HO_6.out⟩, ⟨by (with_reducible repeat (first | apply Kd.R_alloc | apply Kd.R_drewN | apply Kd.R_drew)); exact HO_8.out⟩, ⟨by (with_reducible repeat (first | apply Kd.R_alloc | apply Kd.R_drewN | apply Kd.R_drew)); exact HO_9.out⟩, ⟨by (with_reducible repeat (first | apply Kd.R_alloc | apply Kd.R_drewN | apply Kd.R_drew)); exact HO_10.out⟩, ⟨by repeat (first | (with_reducible first | exact HB.out | apply below_alloc | apply pw_below_drewN | apply below_drew1) | exact HB.out)⟩⟩
        case round =>
          clear H'
          try clear c2
          try clear p2
          try clear c7
          try clear c20
          try clear c20b0
          try clear p2
          obtain ⟨x9_2, x10_2, x12_2, rfl, HA, HK2, HO_4, HO_6, HO_8, HO_9, HO_10, HB⟩ := hrel
          cases gk with
          | zero => exact absurd HA.out (by simp [hurdleref09_Calls.l1])
          | succ k2 =>
            have H := HA.out
            clear HA
            simp only [hurdleref09_Calls.l1] at H
            by_cases c21 : x12_2 < 8
            · rw [if_pos c21] at H
              have c21b0 : decide (x12_2 < 8) = true := decide_eq_true c21
              clear c21
              by_cases c22 : 0 ≤ x11_1
              · rw [if_pos c22] at H
                have c22b0 : decide (0 ≤ x11_1) = true := decide_eq_true c22
                clear c22
                by_cases c23 : x11_1 < (t282.length : Int)
                · rw [if_pos c23] at H
                  have c23b0 : decide (x11_1 < (t282.length : Int)) = true := decide_eq_true c23
                  clear c23
                  by_cases c24 : (rd t282 x11_1) = a0
                  · rw [if_pos c24] at H
                    have c24b0 : ((rd t282 x11_1) == a0) = true := beq_iff_eq.mpr c24
                    have c24b1 : ((rd t282 x11_1) != a0) = false := bne_eq_false_iff_eq.mpr c24
                    clear c24
                    by_cases c25 : x11_1 < (y278.length : Int)
                    · rw [if_pos c25] at H
                      have c25b0 : decide (x11_1 < (y278.length : Int)) = true := decide_eq_true c25
                      clear c25
                      by_cases c26 : 0 ≤ x12_2
                      · rw [if_pos c26] at H
                        have c26b0 : decide (0 ≤ x12_2) = true := decide_eq_true c26
                        clear c26
                        by_cases c27 : x12_2 < ((rd_L8 y278 x11_1).length : Int)
                        · rw [if_pos c27] at H
                          have c27b0 : decide (x12_2 < ((rd_L8 y278 x11_1).length : Int)) = true := decide_eq_true c27
                          clear c27
                          by_cases c28 : (rd (rd_L8 y278 x11_1) x12_2) = 1000000
                          · rw [if_pos c28] at H
                            have c28b0 : ((rd (rd_L8 y278 x11_1) x12_2) == 1000000) = true := beq_iff_eq.mpr c28
                            have c28b1 : ((rd (rd_L8 y278 x11_1) x12_2) != 1000000) = false := bne_eq_false_iff_eq.mpr c28
                            clear c28
                            have H' := Aside0.mk H
                            clear H
                            obtain ⟨Ao29, co29, eo29⟩ := Kd.R_slice HO_8.out
                            subst eo29
                            have p287 : 0 ≤ (x11_1 : Int) := of_decide_eq_true (by first | (with_reducible assumption) | assumption)
                            have q287 : x11_1 < (t282.length : Int) := of_decide_eq_true (by first | (with_reducible assumption) | assumption)
                            obtain ⟨ad287, e287, hx287_0⟩ := Kd.at_int (Kd.R_reads' HO_8.out).2.2 x11_1 p287 q287
                            cases e287
                            replace p287 := eq_true p287
                            replace q287 := eq_true q287
                            obtain ⟨Ao30, co30, eo30⟩ := Kd.N_slice HO_6.out
                            subst eo30
                            have p288 : 0 ≤ (x11_1 : Int) := of_decide_eq_true (by first | (with_reducible assumption) | assumption)
                            have q288 : x11_1 < (y278.length : Int) := of_decide_eq_true (by first | (with_reducible assumption) | assumption)
                            obtain ⟨ad288, A288_0, c288_0, e288, hx288_0, hl288_0, hi288_0⟩ := at_L8 (Kd.N_reads' HO_6.out).2.2 x11_1 p288 q288
                            cases e288
                            obtain ⟨ce288, hce288, hMe288, hcc288⟩ := Kd.N_get HO_6.out [] x11_1 p288 (by first | exact q288 | exact of_decide_eq_true (by first | (with_reducible assumption) | assumption) | (have e_ := (Kd.N_reads' HO_6.out).1; omega))
                            obtain ⟨ua288_0, uc288_0, rfl, ul288_0, ge288_0⟩ := Kd.FK_slice_open hMe288
                            have hv288_0 := hcc288 0 _ rfl
                            rw [Nat.add_zero, show ((Kd.slice 23 (Kd.int .u32))).sz = 1 from rfl, Nat.mul_one] at hv288_0
                            replace hv288_0 := Option.some.inj (hv288_0.symm.trans hx288_0)
                            injection hv288_0 with hva_ hvn_ hvc_
                            rw [hva_] at ge288_0
                            rw [hvc_] at ul288_0
                            have HL288_0 := Aside0.mk (show Kd.V (Kd.int .u32) 23 _ w.heap.size _ _ (rd_L8 y278 x11_1) from Kd.V_mk ul288_0 ge288_0)
                            clear hva_ hvn_ hvc_ ge288_0 ul288_0
                            clear hcc288 hce288
                            have HR288_0 := Aside0.mk hi288_0
                            have HC288_0 := Aside0.mk hl288_0
                            clear hi288_0 hl288_0
                            replace p288 := eq_true p288
                            replace q288 := eq_true q288
                            have p289 : 0 ≤ (x12_2 : Int) := of_decide_eq_true (by first | (with_reducible assumption) | assumption)
                            have q289 : x12_2 < ((rd_L8 y278 x11_1).length : Int) := of_decide_eq_true (by first | (with_reducible assumption) | assumption)
                            obtain ⟨ad289, e289, hx289_0⟩ := Kd.at_int (by repeat (first | (with_reducible exact HR288_0.out) | (with_reducible refine Kd.C_alloc ?_ _) | (with_reducible refine Kd.C_drewN ?_ _) | (with_reducible refine Kd.C_drew ?_) | exact HR288_0.out)) x12_2 p289 q289
                            cases e289
                            replace p289 := eq_true p289
                            replace q289 := eq_true q289
                            go_wp2
                            go_roundg k2
                            case measure => have := HK1.out; have := HK2.out; omega
                            case rel => exact ⟨(x9_2), (x10_2), (wrap64 (x12_2 + 1)), (by first | rfl | (simp; done) | (simp [*]; done)), H', ⟨by have := HK1.out; have := HK2.out; omega⟩, ⟨by (with_reducible repeat (first | apply Kd.R_alloc | apply Kd.R_drewN | apply Kd.R_drew)); exact HO_4.out⟩, ⟨by (with_reducible repeat (first | apply Kd.N_alloc | apply Kd.N_drewN | apply Kd.N_drew)); exact HO_6.out⟩, ⟨by (with_reducible repeat (first | apply Kd.R_alloc | apply Kd.R_drewN | apply Kd.R_drew)); exact HO_8.out⟩, ⟨by (with_reducible repeat (first | apply Kd.R_alloc | apply Kd.R_drewN | apply Kd.R_drew)); exact HO_9.out⟩, ⟨by (with_reducible repeat (first | apply Kd.R_alloc | apply Kd.R_drewN | apply Kd.R_drew)); exact HO_10.out⟩, ⟨by repeat (first | (with_reducible first | exact HB.out | apply below_alloc | apply pw_below_drewN | apply below_drew1) | exact HB.out)⟩⟩
                          · rw [if_neg c28] at H
                            have c28b0 : ((rd (rd_L8 y278 x11_1) x12_2) == 1000000) = false := beq_eq_false_iff_ne.mpr c28
                            have c28b1 : ((rd (rd_L8 y278 x11_1) x12_2) != 1000000) = true := bne_iff_ne.mpr c28
                            by_cases c31 : x12_2 < (y263.length : Int)
                            · rw [if_pos c31] at H
                              have c31b0 : decide (x12_2 < (y263.length : Int)) = true := decide_eq_true c31
                              clear c31
                              by_cases c32 : x9_2.length < 8796093022208
                              · rw [if_pos c32] at H
                                have LMc32 := Aside0.mk c32
                                clear c32
                                obtain ⟨y291, hy291⟩ : ∃ y_ : List ByteArray, y_ = (x9_2 ++ [rdOf ByteArray.empty y263 x12_2]) := ⟨_, rfl⟩
                                replace H : (if x10_2.length < 35184372088832 then (hurdleref09_Calls.l1 k2 a0 y263 1000000 y278 t282 y291 (x10_2 ++ [rd (rd_L8 y278 x11_1) x12_2]) x11_1 (wrap64 (x12_2 + 1))) else (none)) = some (r1, r2) := by first | (rw [hy291]; with_reducible exact H) | (have H2_ := (Option.bind_some _ _).symm.trans H; rw [hy291]; with_reducible exact H2_) | (have H2_ := (Option.bind_some _ _).symm.trans H; with_reducible exact H2_) | with_reducible exact H | (rw [hy291]; exact H) | exact H
                                have Ny291 := Aside0.mk hy291
                                clear hy291
                                by_cases c33 : x10_2.length < 35184372088832
                                · rw [if_pos c33] at H
                                  have LMc33 := Aside0.mk c33
                                  clear c33
                                  obtain ⟨y296, hy296⟩ : ∃ y_ : List Int, y_ = (x10_2 ++ [rd (rd_L8 y278 x11_1) x12_2]) := ⟨_, rfl⟩
                                  replace H : (hurdleref09_Calls.l1 k2 a0 y263 1000000 y278 t282 y291 y296 x11_1 (wrap64 (x12_2 + 1))) = some (r1, r2) := by first | (rw [hy296]; with_reducible exact H) | (have H2_ := (Option.bind_some _ _).symm.trans H; rw [hy296]; with_reducible exact H2_) | (have H2_ := (Option.bind_some _ _).symm.trans H; with_reducible exact H2_) | with_reducible exact H | (rw [hy296]; exact H) | exact H
                                  have Ny296 := Aside0.mk hy296
                                  clear hy296
                                  have H' := Aside0.mk H
                                  clear H
                                  obtain ⟨Ao34, co34, eo34⟩ := Kd.R_slice HO_8.out
                                  subst eo34
                                  have p287 : 0 ≤ (x11_1 : Int) := of_decide_eq_true (by first | (with_reducible assumption) | assumption)
                                  have q287 : x11_1 < (t282.length : Int) := of_decide_eq_true (by first | (with_reducible assumption) | assumption)
                                  obtain ⟨ad287, e287, hx287_0⟩ := Kd.at_int (Kd.R_reads' HO_8.out).2.2 x11_1 p287 q287
                                  cases e287
                                  replace p287 := eq_true p287
                                  replace q287 := eq_true q287
                                  obtain ⟨Ao35, co35, eo35⟩ := Kd.N_slice HO_6.out
                                  subst eo35
                                  have p288 : 0 ≤ (x11_1 : Int) := of_decide_eq_true (by first | (with_reducible assumption) | assumption)
                                  have q288 : x11_1 < (y278.length : Int) := of_decide_eq_true (by first | (with_reducible assumption) | assumption)
                                  obtain ⟨ad288, A288_0, c288_0, e288, hx288_0, hl288_0, hi288_0⟩ := at_L8 (Kd.N_reads' HO_6.out).2.2 x11_1 p288 q288
                                  cases e288
                                  obtain ⟨ce288, hce288, hMe288, hcc288⟩ := Kd.N_get HO_6.out [] x11_1 p288 (by first | exact q288 | exact of_decide_eq_true (by first | (with_reducible assumption) | assumption) | (have e_ := (Kd.N_reads' HO_6.out).1; omega))
                                  obtain ⟨ua288_0, uc288_0, rfl, ul288_0, ge288_0⟩ := Kd.FK_slice_open hMe288
                                  have hv288_0 := hcc288 0 _ rfl
                                  rw [Nat.add_zero, show ((Kd.slice 23 (Kd.int .u32))).sz = 1 from rfl, Nat.mul_one] at hv288_0
                                  replace hv288_0 := Option.some.inj (hv288_0.symm.trans hx288_0)
                                  injection hv288_0 with hva_ hvn_ hvc_
                                  rw [hva_] at ge288_0
                                  rw [hvc_] at ul288_0
                                  have HL288_0 := Aside0.mk (show Kd.V (Kd.int .u32) 23 _ w.heap.size _ _ (rd_L8 y278 x11_1) from Kd.V_mk ul288_0 ge288_0)
                                  clear hva_ hvn_ hvc_ ge288_0 ul288_0
                                  clear hcc288 hce288
                                  have HR288_0 := Aside0.mk hi288_0
                                  have HC288_0 := Aside0.mk hl288_0
                                  clear hi288_0 hl288_0
                                  replace p288 := eq_true p288
                                  replace q288 := eq_true q288
                                  have p289 : 0 ≤ (x12_2 : Int) := of_decide_eq_true (by first | (with_reducible assumption) | assumption)
                                  have q289 : x12_2 < ((rd_L8 y278 x11_1).length : Int) := of_decide_eq_true (by first | (with_reducible assumption) | assumption)
                                  obtain ⟨ad289, e289, hx289_0⟩ := Kd.at_int (by repeat (first | (with_reducible exact HR288_0.out) | (with_reducible refine Kd.C_alloc ?_ _) | (with_reducible refine Kd.C_drewN ?_ _) | (with_reducible refine Kd.C_drew ?_) | exact HR288_0.out)) x12_2 p289 q289
                                  cases e289
                                  replace p289 := eq_true p289
                                  replace q289 := eq_true q289
                                  obtain ⟨Ao36, co36, eo36⟩ := Kd.R_slice HO_4.out
                                  subst eo36
                                  have p290 : 0 ≤ (x12_2 : Int) := of_decide_eq_true (by first | (with_reducible assumption) | assumption)
                                  have q290 : x12_2 < (y263.length : Int) := of_decide_eq_true (by first | (with_reducible assumption) | assumption)
                                  obtain ⟨ad290, e290, hx290_0⟩ := Kd.at_string (Kd.R_reads' HO_4.out).2.2 x12_2 p290 q290
                                  cases e290
                                  replace p290 := eq_true p290
                                  replace q290 := eq_true q290
                                  go_wp2_with (first | ((with_reducible refine gate_builtin (b := .append) (xs := #[.tmp 51, .tmp 56]) rfl ?_); at_builtin; refine Kd.R_append Kd.string (w0 := w) w.heap.size rfl (.tmp 51) (.tmp 56) 70 9 (.string ⟨#[]⟩) 16 rfl Try.underlying70 info9 rfl (by decide) (by omega) u9 x9_2 (rdOf ByteArray.empty y263 x12_2) [.string (rdOf ByteArray.empty y263 x12_2)] (fun k_ => some k_ ≠ (.slice (some ad290) y263.length co36 : Value).ownBlock) (fun _ => False) rfl rfl ?aP (fun _ hk => hk.elim) ?aF ?aO ?aB ?aS ?aL ?_; (case aP => exact rfl); (case aB => exact (by repeat (first | (with_reducible first | exact HB.out | apply below_alloc | apply pw_below_drewN | apply below_drew1) | exact HB.out))); (case aF => exact (fun k_ hk => Kd.fresh' (Kd.R_lt (by (with_reducible repeat (first | apply Kd.R_alloc | apply Kd.R_drewN | apply Kd.R_drew)); exact HO_4.out)) k_ hk)); (case aO => exact (by (with_reducible repeat (first | apply Kd.R_alloc | apply Kd.R_drewN | apply Kd.R_drew)); exact HO_9.out)); (case aS => exact (below_size (by repeat (first | (with_reducible first | exact HB.out | apply below_alloc | apply pw_below_drewN | apply below_drew1) | exact HB.out)))); (case aL => have := LMc32.out; omega); intro v292 w37 ho hb hg hat; rw [← Ny291.out] at ho; have n0_ := Aside0.mk (Kd.R_after (ok := (fun _ => True)) (by (with_reducible repeat (first | apply Kd.R_alloc | apply Kd.R_drewN | apply Kd.R_drew)); exact Kd.R_mono HO_4.out (fun _ hk => ⟨trivial, hk⟩)) hg hat); have n1_ := Aside0.mk (Kd.N_afterv (ok := (fun k_ => some k_ ≠ (.slice (some ad290) y263.length co36 : Value).ownBlock ∧ some k_ ≠ (.slice (some ad287) t282.length co34 : Value).ownBlock ∧ some k_ ≠ (u10 : Value).ownBlock)) (by (with_reducible repeat (first | apply Kd.N_alloc | apply Kd.N_drewN | apply Kd.N_drew)); exact Kd.N_mono HO_6.out (fun _ hk => ⟨⟨hk.1, ⟨hk.2.1, hk.2.2.2⟩⟩, hk.2.2.1⟩)) hg hat); have n2_ := Aside0.mk (Kd.R_over' (by (with_reducible repeat (first | apply Kd.R_alloc | apply Kd.R_drewN | apply Kd.R_drew)); exact HO_8.out) (Kd.R_typed (by (with_reducible repeat (first | apply Kd.R_alloc | apply Kd.R_drewN | apply Kd.R_drew)); exact HO_9.out)) (by decide) hg); have n3_ := Aside0.mk (Kd.R_over' (by (with_reducible repeat (first | apply Kd.R_alloc | apply Kd.R_drewN | apply Kd.R_drew)); exact HO_10.out) (Kd.R_typed (by (with_reducible repeat (first | apply Kd.R_alloc | apply Kd.R_drewN | apply Kd.R_drew)); exact HO_9.out)) (by decide) hg); have n4_ := Aside0.mk (Kd.V_afterv (ok := (fun k_ => some k_ ≠ (.slice (some ad290) y263.length co36 : Value).ownBlock ∧ some k_ ≠ (.slice (some ad288) y278.length co35 : Value).ownBlock ∧ some k_ ≠ (.slice (some ad287) t282.length co34 : Value).ownBlock ∧ some k_ ≠ (u10 : Value).ownBlock)) (by (with_reducible repeat (first | apply Kd.V_alloc | apply Kd.V_drewN | apply Kd.V_drew)); exact Kd.V_mono HL288_0.out (fun _ hk => ⟨⟨hk.1.1, ⟨hk.2, ⟨hk.1.2.1, hk.1.2.2.2⟩⟩⟩, hk.1.2.2.1⟩)) hg hat); have n5_ := Aside0.mk (hb); have n6_ := Aside0.mk (ho); clear HO_4; clear HO_6; clear HO_8; clear HO_10; clear HL288_0; clear HB; clear HO_9; have HO_4 := n0_; have HO_6 := n1_; have HO_8 := n2_; have HO_10 := n3_; have HL288_0 := n4_; have HB := n5_; have HO293 := n6_; clear n0_ n1_ n2_ n3_ n4_ n5_ n6_; clear ho hb hg hat; have p294 : 0 ≤ (x11_1 : Int) := of_decide_eq_true (by first | (with_reducible assumption) | assumption); have q294 : x11_1 < (y278.length : Int) := of_decide_eq_true (by first | (with_reducible assumption) | assumption); obtain ⟨ad294, A294_0, c294_0, e294, hx294_0, hl294_0, hi294_0⟩ := at_L8 (Kd.N_reads' HO_6.out).2.2 x11_1 p294 q294; obtain rfl : ad288 = ad294 := (by injection e294); obtain ⟨ce294, hce294, hMe294, hcc294⟩ := Kd.N_get HO_6.out [] x11_1 p294 (by first | exact q294 | exact of_decide_eq_true (by first | (with_reducible assumption) | assumption) | (have e_ := (Kd.N_reads' HO_6.out).1; omega)); obtain ⟨ua294_0, uc294_0, rfl, ul294_0, ge294_0⟩ := Kd.FK_slice_open hMe294; have hv294_0 := hcc294 0 _ rfl; rw [Nat.add_zero, show ((Kd.slice 23 (Kd.int .u32))).sz = 1 from rfl, Nat.mul_one] at hv294_0; replace hv294_0 := Option.some.inj (hv294_0.symm.trans hx294_0); injection hv294_0 with hva_ hvn_ hvc_; rw [hva_] at ge294_0; rw [hvc_] at ul294_0; have HL294_0 := Aside0.mk (show Kd.V (Kd.int .u32) 23 _ w.heap.size _ _ (rd_L8 y278 x11_1) from Kd.V_mk ul294_0 ge294_0); clear hva_ hvn_ hvc_ ge294_0 ul294_0; clear hcc294 hce294; have HR294_0 := Aside0.mk hi294_0; have HC294_0 := Aside0.mk hl294_0; clear hi294_0 hl294_0; replace p294 := eq_true p294; replace q294 := eq_true q294; have p295 : 0 ≤ (x12_2 : Int) := of_decide_eq_true (by first | (with_reducible assumption) | assumption); have q295 : x12_2 < ((rd_L8 y278 x11_1).length : Int) := of_decide_eq_true (by first | (with_reducible assumption) | assumption); obtain ⟨ad295, e295, hx295_0⟩ := Kd.at_int (by repeat (first | (with_reducible exact HR294_0.out) | (with_reducible refine Kd.C_alloc ?_ _) | (with_reducible refine Kd.C_drewN ?_ _) | (with_reducible refine Kd.C_drew ?_) | exact HR294_0.out)) x12_2 p295 q295; cases e295; replace p295 := eq_true p295; replace q295 := eq_true q295) | ((with_reducible refine gate_builtin (b := .append) (xs := #[.tmp 58, .tmp 66]) rfl ?_); at_builtin; refine Kd.R_append (Kd.int .u32) (w0 := w) w.heap.size rfl (.tmp 58) (.tmp 66) 93 23 (.int .u32 0) 4 rfl Try.underlying93 info23 rfl (by decide) (by omega) u10 x10_2 (rd (rd_L8 y278 x11_1) x12_2) [.int .u32 (rd (rd_L8 y278 x11_1) x12_2)] (fun k_ => some k_ ≠ (.slice (some ad287) t282.length co34 : Value).ownBlock) (fun _ => False) rfl rfl ?aP (fun _ hk => hk.elim) ?aF ?aO ?aB ?aS ?aL ?_; (case aP => exact rfl); (case aB => exact (by repeat (first | (with_reducible first | exact HB.out | apply below_alloc | apply pw_below_drewN | apply below_drew1) | exact HB.out))); (case aF => exact (fun k_ hk => Kd.fresh' (Kd.R_lt (by (with_reducible repeat (first | apply Kd.R_alloc | apply Kd.R_drewN | apply Kd.R_drew)); exact HO_8.out)) k_ hk)); (case aO => exact (by (with_reducible repeat (first | apply Kd.R_alloc | apply Kd.R_drewN | apply Kd.R_drew)); exact HO_10.out)); (case aS => exact (below_size (by repeat (first | (with_reducible first | exact HB.out | apply below_alloc | apply pw_below_drewN | apply below_drew1) | exact HB.out)))); (case aL => have := LMc33.out; omega); intro v297 w38 ho hb hg hat; rw [← Ny296.out] at ho; have n0_ := Aside0.mk (Kd.R_over' (by (with_reducible repeat (first | apply Kd.R_alloc | apply Kd.R_drewN | apply Kd.R_drew)); exact HO_4.out) (Kd.R_typed (by (with_reducible repeat (first | apply Kd.R_alloc | apply Kd.R_drewN | apply Kd.R_drew)); exact HO_10.out)) (by decide) hg); have n1_ := Aside0.mk (Kd.N_afterv (ok := (fun k_ => some k_ ≠ (.slice (some ad290) y263.length co36 : Value).ownBlock ∧ some k_ ≠ (.slice (some ad287) t282.length co34 : Value).ownBlock ∧ some k_ ≠ (v292 : Value).ownBlock)) (by (with_reducible repeat (first | apply Kd.N_alloc | apply Kd.N_drewN | apply Kd.N_drew)); exact Kd.N_mono HO_6.out (fun _ hk => ⟨⟨hk.1.1, ⟨hk.1.2.1, hk.2⟩⟩, hk.1.2.2⟩)) hg hat); have n2_ := Aside0.mk (Kd.R_after (ok := (fun _ => True)) (by (with_reducible repeat (first | apply Kd.R_alloc | apply Kd.R_drewN | apply Kd.R_drew)); exact Kd.R_mono HO_8.out (fun _ hk => ⟨trivial, hk⟩)) hg hat); have n3_ := Aside0.mk (Kd.V_afterv (ok := (fun k_ => some k_ ≠ (.slice (some ad290) y263.length co36 : Value).ownBlock ∧ some k_ ≠ (.slice (some ad288) y278.length co35 : Value).ownBlock ∧ some k_ ≠ (.slice (some ad287) t282.length co34 : Value).ownBlock ∧ some k_ ≠ (v292 : Value).ownBlock)) (by (with_reducible repeat (first | apply Kd.V_alloc | apply Kd.V_drewN | apply Kd.V_drew)); exact Kd.V_mono HL288_0.out (fun _ hk => ⟨⟨hk.1.1, ⟨hk.1.2.1, ⟨hk.1.2.2.1, hk.2⟩⟩⟩, hk.1.2.2.2⟩)) hg hat); have n4_ := Aside0.mk (Kd.R_over' (by (with_reducible repeat (first | apply Kd.R_alloc | apply Kd.R_drewN | apply Kd.R_drew)); exact HO293.out) (Kd.R_typed (by (with_reducible repeat (first | apply Kd.R_alloc | apply Kd.R_drewN | apply Kd.R_drew)); exact HO_10.out)) (by decide) hg); have n5_ := Aside0.mk (Kd.V_afterv (ok := (fun k_ => some k_ ≠ (.slice (some ad290) y263.length co36 : Value).ownBlock ∧ some k_ ≠ (.slice (some ad288) y278.length co35 : Value).ownBlock ∧ some k_ ≠ (.slice (some ad287) t282.length co34 : Value).ownBlock ∧ some k_ ≠ (v292 : Value).ownBlock)) (by (with_reducible repeat (first | apply Kd.V_alloc | apply Kd.V_drewN | apply Kd.V_drew)); exact Kd.V_mono HL294_0.out (fun _ hk => ⟨⟨hk.1.1.1, ⟨hk.2, ⟨hk.1.1.2.1, hk.1.2⟩⟩⟩, hk.1.1.2.2⟩)) hg hat); have n6_ := Aside0.mk (hb); have n7_ := Aside0.mk (ho); clear HO_4; clear HO_6; clear HO_8; clear HL288_0; clear HO293; clear HL294_0; clear HB; clear HO_10; have HO_4 := n0_; have HO_6 := n1_; have HO_8 := n2_; have HL288_0 := n3_; have HO293 := n4_; have HL294_0 := n5_; have HB := n6_; have HO298 := n7_; clear n0_ n1_ n2_ n3_ n4_ n5_ n6_ n7_; clear ho hb hg hat))
                                  go_roundg k2
                                  case measure => have := HK1.out; have := HK2.out; omega
                                  case rel => exact ⟨(y291), (y296), (wrap64 (x12_2 + 1)), (by first | rfl | (simp; done) | (simp [*]; done)), H', ⟨by have := HK1.out; have := HK2.out; omega⟩, ⟨by (with_reducible repeat (first | apply Kd.R_alloc | apply Kd.R_drewN | apply Kd.R_drew)); exact Kd.R_mono HO_4.out (fun _ hk => hk.2)⟩, ⟨by (with_reducible repeat (first | apply Kd.N_alloc | apply Kd.N_drewN | apply Kd.N_drew)); exact Kd.N_mono HO_6.out (fun _ hk => ⟨hk.1.1, ⟨hk.1.2.1, ⟨hk.1.2.2, hk.2⟩⟩⟩)⟩, ⟨by (with_reducible repeat (first | apply Kd.R_alloc | apply Kd.R_drewN | apply Kd.R_drew)); exact Kd.R_mono HO_8.out (fun _ hk => hk.2)⟩, ⟨by (with_reducible repeat (first | apply Kd.R_alloc | apply Kd.R_drewN | apply Kd.R_drew)); exact HO293.out⟩, ⟨by (with_reducible repeat (first | apply Kd.R_alloc | apply Kd.R_drewN | apply Kd.R_drew)); exact HO298.out⟩, ⟨by repeat (first | (with_reducible first | exact HB.out | apply below_alloc | apply pw_below_drewN | apply below_drew1) | exact HB.out)⟩⟩
                                · rw [if_neg c33] at H
                                  exact absurd H (by simp)
                              · rw [if_neg c32] at H
                                exact absurd H (by simp)
                            · rw [if_neg c31] at H
                              exact absurd H (by simp)
                        · rw [if_neg c27] at H
                          exact absurd H (by simp)
                      · rw [if_neg c26] at H
                        exact absurd H (by simp)
                    · rw [if_neg c25] at H
                      exact absurd H (by simp)
                  · rw [if_neg c24] at H
                    have c24b0 : ((rd t282 x11_1) == a0) = false := beq_eq_false_iff_ne.mpr c24
                    have c24b1 : ((rd t282 x11_1) != a0) = true := bne_iff_ne.mpr c24
                    have H' := Aside0.mk H
                    clear H
                    obtain ⟨Ao39, co39, eo39⟩ := Kd.R_slice HO_8.out
                    subst eo39
                    have p287 : 0 ≤ (x11_1 : Int) := of_decide_eq_true (by first | (with_reducible assumption) | assumption)
                    have q287 : x11_1 < (t282.length : Int) := of_decide_eq_true (by first | (with_reducible assumption) | assumption)
                    obtain ⟨ad287, e287, hx287_0⟩ := Kd.at_int (Kd.R_reads' HO_8.out).2.2 x11_1 p287 q287
                    cases e287
                    replace p287 := eq_true p287
                    replace q287 := eq_true q287
                    go_wp2
                    go_roundg k2
                    case measure => have := HK1.out; have := HK2.out; omega
                    case rel => exact ⟨(x9_2), (x10_2), (wrap64 (x12_2 + 1)), (by first | rfl | (simp; done) | (simp [*]; done)), H', ⟨by have := HK1.out; have := HK2.out; omega⟩, ⟨by (with_reducible repeat (first | apply Kd.R_alloc | apply Kd.R_drewN | apply Kd.R_drew)); exact HO_4.out⟩, ⟨by (with_reducible repeat (first | apply Kd.N_alloc | apply Kd.N_drewN | apply Kd.N_drew)); exact HO_6.out⟩, ⟨by (with_reducible repeat (first | apply Kd.R_alloc | apply Kd.R_drewN | apply Kd.R_drew)); exact HO_8.out⟩, ⟨by (with_reducible repeat (first | apply Kd.R_alloc | apply Kd.R_drewN | apply Kd.R_drew)); exact HO_9.out⟩, ⟨by (with_reducible repeat (first | apply Kd.R_alloc | apply Kd.R_drewN | apply Kd.R_drew)); exact HO_10.out⟩, ⟨by repeat (first | (with_reducible first | exact HB.out | apply below_alloc | apply pw_below_drewN | apply below_drew1) | exact HB.out)⟩⟩
                · rw [if_neg c23] at H
                  exact absurd H (by simp)
              · rw [if_neg c22] at H
                exact absurd H (by simp)
            · rw [if_neg c21] at H
              have c21b0 : decide (x12_2 < 8) = false := decide_eq_false c21
              clear c21
              have H' := Aside0.mk H
              clear H
              go_wp2
              go_roundg k2
              case measure => have := HK1.out; have := HK2.out; omega
              case rel => exact ⟨(x9_2), (x10_2), (wrap64 (x11_1 + 1)), (by first | rfl | (simp; done) | (simp [*]; done)), H', ⟨by have := HK1.out; have := HK2.out; omega⟩, ⟨by (with_reducible repeat (first | apply Kd.R_alloc | apply Kd.R_drewN | apply Kd.R_drew)); exact HO_4.out⟩, ⟨by (with_reducible repeat (first | apply Kd.N_alloc | apply Kd.N_drewN | apply Kd.N_drew)); exact HO_6.out⟩, ⟨by (with_reducible repeat (first | apply Kd.R_alloc | apply Kd.R_drewN | apply Kd.R_drew)); exact HO_8.out⟩, ⟨by (with_reducible repeat (first | apply Kd.R_alloc | apply Kd.R_drewN | apply Kd.R_drew)); exact HO_9.out⟩, ⟨by (with_reducible repeat (first | apply Kd.R_alloc | apply Kd.R_drewN | apply Kd.R_drew)); exact HO_10.out⟩, ⟨by repeat (first | (with_reducible first | exact HB.out | apply below_alloc | apply pw_below_drewN | apply below_drew1) | exact HB.out)⟩⟩
      · rw [if_neg c20] at H
        have c20b0 : decide (x11_1 < 4) = false := decide_eq_false c20
        clear c20
        simp only [Option.some.injEq, Prod.mk.injEq] at H
        obtain ⟨rfl, rfl⟩ := H
        go_wp2
        go_ret2
        exact ⟨_, _, by first | rfl | (simp [errW_none, errW_some] <;> rfl) | (simp [*, errW_none, errW_some] <;> rfl), by (with_reducible repeat (first | apply Kd.R_alloc | apply Kd.R_drewN | apply Kd.R_drew)); exact Kd.R_mono HO_9.out (fun _ hk => trivial), by (with_reducible repeat (first | apply Kd.R_alloc | apply Kd.R_drewN | apply Kd.R_drew)); exact Kd.R_mono HO_10.out (fun _ hk => trivial), by repeat (first | (with_reducible first | exact HB.out | apply below_alloc | apply pw_below_drewN | apply below_drew1) | exact HB.out)⟩
def hurdleref09_Call.f (k : Nat) (a0 : Int) (a1 : Int) : Option (ByteArray) := (hurdleref09_Calls.f k a0).bind fun bt299 => ((hurdleref09_text.f k bt299.1 bt299.2 a1).bind fun t305 => (some t305))
theorem hurdleref09_Call.mono : ∀ a0 a1 k, LeO (hurdleref09_Call.f k a0 a1) (hurdleref09_Call.f (k + 1) a0 a1) := by
  intro a0 a1 k
  unfold hurdleref09_Call.f
  repeat' first
      | (with_reducible exact hurdleref09_Calls.mono _ _)
      | (with_reducible exact hurdleref09_text.mono _ _ _ _)
      | (with_reducible exact LeO.refl _)
      | (with_reducible exact LeO.none _)
      | (with_reducible refine LeO.ite ?_ ?_)
      | (with_reducible refine LeO.bind ?_ (fun _ => ?_))
      | exact hurdleref09_Calls.mono _ _
      | exact hurdleref09_text.mono _ _ _ _
      | exact LeO.none _
      | refine LeO.ite ?_ ?_
      | refine LeO.bind ?_ (fun _ => ?_)
set_option maxHeartbeats 8000000 in
set_option maxRecDepth 100000 in
theorem hurdleref09_Call.calls (k : Nat) (a0 : Int) (a1 : Int) (r : ByteArray) (w : World) (h : hurdleref09_Call.f k a0 a1 = some r) :
    Calls Try.prog 57 #[.int .u32 a0, .int .u32 a1] w fun e w' => e = .returned (.string r) ∧ Below w.heap.size w w' := by
  have HB := Aside0.mk (Below.refl w.heap.size w)
  have H : ((hurdleref09_Calls.f k a0).bind fun bt299 => ((hurdleref09_text.f k bt299.1 bt299.2 a1).bind fun t305 => (some t305))) = some r := h
  clear h
  replace H := Option.bind_eq_some_iff.mp H
  obtain ⟨⟨t299, t300⟩, A30, H⟩ := H
  replace H : ((hurdleref09_text.f k t299 t300 a1).bind fun t305 => (some t305)) = some r := H
  have A3 := Aside0.mk A30
  clear A30
  replace H := Option.bind_eq_some_iff.mp H
  obtain ⟨t305, A40, H⟩ := H
  replace H : (some t305) = some r := H
  have A4 := Aside0.mk A40
  clear A40
  obtain rfl := Option.some.inj H
  go_enter Try.func57, Try.ntmps57
  go_wp2_with (first | ((with_reducible refine gate_callee (f := 74) rfl ?_); refine goesL_ (some 9) rfl rfl Try.func74 (by kernel_rfl) rfl #[.int .u32 a0] rfl (by (try simp only [List.map_toArray, List.map_cons, List.map_nil]); first | done | rfl | (simp only [List.length_drop, List.length_take]; rfl)) ?_; (with_reducible refine (hurdleref09_Calls.calls k a0 t299 t300 _ A3.out).mono ?_); rintro e w5 ⟨v301, v303, rfl, ho0, ho1, hb⟩; refine ⟨_, rfl, ?_⟩; have n0_ := Aside0.mk (Kd.R_lower ho0 (below_size (by repeat (first | (with_reducible first | exact HB.out | apply below_alloc | apply pw_below_drewN | apply below_drew1) | exact HB.out)))); have n1_ := Aside0.mk (Kd.R_lower ho1 (below_size (by repeat (first | (with_reducible first | exact HB.out | apply below_alloc | apply pw_below_drewN | apply below_drew1) | exact HB.out)))); have n2_ := Aside0.mk (below_step (by repeat (first | (with_reducible first | exact HB.out | apply below_alloc | apply pw_below_drewN | apply below_drew1) | exact HB.out)) hb); clear HB; have HO302 := n0_; have HO304 := n1_; have HB := n2_; clear n0_ n1_ n2_; (try clear hb); (try clear hb2); (try clear hk); (try clear hi); (try clear ho0); (try clear ho1); obtain ⟨Ao6, co6, eo6⟩ := Kd.R_slice HO302.out; subst eo6; obtain ⟨Ao7, co7, eo7⟩ := Kd.R_slice HO304.out; subst eo7) | ((with_reducible refine gate_callee (f := 73) rfl ?_); refine goesL_ (some 15) rfl rfl Try.func73 (by kernel_rfl) rfl #[.slice Ao6 t299.length co6, .slice Ao7 t300.length co7, .int .u32 a1] rfl (by (try simp only [List.map_toArray, List.map_cons, List.map_nil]); first | done | rfl | (simp only [List.length_drop, List.length_take]; rfl)) ?_; (with_reducible refine (hurdleref09_text.calls k _ _ t299 _ _ t300 a1 t305 _ ?side1 ?side2 ?side3 ?side4 A4.out).mono ?_); (case side1 => repeat (first | exact (Kd.R_reads' HO302.out).2.2 | (with_reducible refine Kd.C_alloc ?_ _) | (with_reducible refine Kd.C_drewN ?_ _) | (with_reducible refine Kd.C_drew ?_))); (case side2 => exact (Kd.R_reads' HO302.out).2.1); (case side3 => repeat (first | exact (Kd.R_reads' HO304.out).2.2 | (with_reducible refine Kd.C_alloc ?_ _) | (with_reducible refine Kd.C_drewN ?_ _) | (with_reducible refine Kd.C_drew ?_))); (case side4 => exact (Kd.R_reads' HO304.out).2.1); rintro e w8 ⟨rfl, hb⟩; refine ⟨_, rfl, ?_⟩; have n0_ := Aside0.mk (Kd.R_below (by (with_reducible repeat (first | apply Kd.R_alloc | apply Kd.R_drewN | apply Kd.R_drew)); exact HO302.out) hb); have n1_ := Aside0.mk (Kd.R_below (by (with_reducible repeat (first | apply Kd.R_alloc | apply Kd.R_drewN | apply Kd.R_drew)); exact HO304.out) hb); have n2_ := Aside0.mk (below_step (by repeat (first | (with_reducible first | exact HB.out | apply below_alloc | apply pw_below_drewN | apply below_drew1) | exact HB.out)) hb); clear HO302; clear HO304; clear HB; have HO302 := n0_; have HO304 := n1_; have HB := n2_; clear n0_ n1_ n2_; (try clear hb); (try clear hb2); (try clear hk); (try clear hi)))
  go_ret
  exact ⟨by first | rfl | (simp [errW_none, errW_some] <;> rfl) | (simp [*, errW_none, errW_some] <;> rfl), by repeat (first | (with_reducible first | exact HB.out | apply below_alloc | apply pw_below_drewN | apply below_drew1) | exact HB.out)⟩
def hurdleref10_Line.l0 : Nat → ByteArray → Int → Int → Int → List (S61) → Int → Option (ByteArray)
  | 0, _, _, _, _, _, _ => none
  | k + 1, x3, x4, x310000, x310001, x310002, x310003 => if x4 < (x310002.length : Int) then (if x4 = 0 then (if x3.size + 4 ≤ 9223372036854775807 then (if 0 ≤ x4 then ((hurdleref08_Print.f ((rd_T61 x310002 x4).f0) ((rd_T61 x310002 x4).f1) ((rd_T61 x310002 x4).f2) ((rd_T61 x310002 x4).f3)).bind fun t314 => (if (x3 ++ (⟨#[32, 105, 102, 32]⟩ : ByteArray)).size + t314.size ≤ 9223372036854775807 then (hurdleref10_Line.l0 k ((x3 ++ (⟨#[32, 105, 102, 32]⟩ : ByteArray)) ++ t314) (wrap64 (x4 + 1)) x310000 x310001 x310002 x310003) else (none))) else (none)) else (none)) else (if x3.size + 5 ≤ 9223372036854775807 then (if 0 ≤ x4 then ((hurdleref08_Print.f ((rd_T61 x310002 x4).f0) ((rd_T61 x310002 x4).f1) ((rd_T61 x310002 x4).f2) ((rd_T61 x310002 x4).f3)).bind fun t316 => (if (x3 ++ (⟨#[32, 97, 110, 100, 32]⟩ : ByteArray)).size + t316.size ≤ 9223372036854775807 then (hurdleref10_Line.l0 k ((x3 ++ (⟨#[32, 97, 110, 100, 32]⟩ : ByteArray)) ++ t316) (wrap64 (x4 + 1)) x310000 x310001 x310002 x310003) else (none))) else (none)) else (none))) else (some x3)
def hurdleref10_Line.f (k : Nat) (a0_0 : Int) (a0_1 : Int) (l0_2 : List (S61)) (a0_3 : Int) : Option (ByteArray) := (hurdleref09_Machine.f k a0_0).bind fun t310 => (if 3 + t310.size ≤ 9223372036854775807 then (if ((⟨#[111, 110, 32]⟩ : ByteArray) ++ t310).size + 1 ≤ 9223372036854775807 then ((hurdleref09_Call.f k a0_0 a0_1).bind fun t311 => (if (((⟨#[111, 110, 32]⟩ : ByteArray) ++ t310) ++ (⟨#[32]⟩ : ByteArray)).size + t311.size ≤ 9223372036854775807 then (if ((((⟨#[111, 110, 32]⟩ : ByteArray) ++ t310) ++ (⟨#[32]⟩ : ByteArray)) ++ t311).size + 1 ≤ 9223372036854775807 then ((hurdleref09_Action.f k a0_3).bind fun t312 => (if (((((⟨#[111, 110, 32]⟩ : ByteArray) ++ t310) ++ (⟨#[32]⟩ : ByteArray)) ++ t311) ++ (⟨#[32]⟩ : ByteArray)).size + t312.size ≤ 9223372036854775807 then (hurdleref10_Line.l0 k ((((((⟨#[111, 110, 32]⟩ : ByteArray) ++ t310) ++ (⟨#[32]⟩ : ByteArray)) ++ t311) ++ (⟨#[32]⟩ : ByteArray)) ++ t312) 0 a0_0 a0_1 l0_2 a0_3) else (none))) else (none)) else (none))) else (none)) else (none))
def hurdleref10_Line.T1 : Bool × List (List Nat × List Nat) := (true, [([], []), ([0], [0]), ([1], [1]), ([2], [2]), ([3], [3]), ([], []), ([5], [5]), ([], []), ([7], [7]), ([6, 8, 2], [6, 8]), ([4, 9], [4, 9]), ([10], [10]), ([], []), ([12], [12]), ([13, 9], [13]), ([11, 14], [11, 14]), ([15, 14, 0, 1, 2, 3, 4, 5, 6, 7, 8, 9, 10, 11, 12, 13, 14, 15], [15])])
def hurdleref10_Line.B1 : List Nat := [0, 1, 3, 7, 15, 0, 32, 0, 128, 487, 1023, 2047, 0, 4096, 13287, 32767, 65535]
theorem hurdleref10_Line.tab1 : rtab .any (opsOf Try.f36 1) = hurdleref10_Line.T1 := by kernel_rfl
theorem hurdleref10_Line.bits1 : waitsOk hurdleref10_Line.T1.2 hurdleref10_Line.B1 = true := by kernel_rfl
set_option maxHeartbeats 8000000 in
set_option maxRecDepth 100000 in
theorem hurdleref10_Line.calls (k : Nat) (a0_0 : Int) (a0_1 : Int) (A0_2 : Option Addr) (c0_2 : Nat) (l0_2 : List (S61)) (a0_3 : Int) (r : ByteArray) (w : World) (hr0_2 : Kd.C k61 w A0_2 l0_2.length l0_2) (hc0_2 : l0_2.length ≤ c0_2) (h : hurdleref10_Line.f k a0_0 a0_1 l0_2 a0_3 = some r) :
    Calls Try.prog 36 #[.agg #[.int .u32 a0_0, .int .u32 a0_1, .slice A0_2 l0_2.length c0_2, .int .u32 a0_3]] w fun e w' => e = .returned (.string r) ∧ Below w.heap.size w w' := by
  have hu40 := Try.underlying40
  have hu61 := Try.underlying61
  have HR0_2 := Aside0.mk hr0_2
  have HC0_2 := Aside0.mk hc0_2
  clear hr0_2 hc0_2
  have HB := Aside0.mk (Below.refl w.heap.size w)
  have H : ((hurdleref09_Machine.f k a0_0).bind fun t310 => (if 3 + t310.size ≤ 9223372036854775807 then (if ((⟨#[111, 110, 32]⟩ : ByteArray) ++ t310).size + 1 ≤ 9223372036854775807 then ((hurdleref09_Call.f k a0_0 a0_1).bind fun t311 => (if (((⟨#[111, 110, 32]⟩ : ByteArray) ++ t310) ++ (⟨#[32]⟩ : ByteArray)).size + t311.size ≤ 9223372036854775807 then (if ((((⟨#[111, 110, 32]⟩ : ByteArray) ++ t310) ++ (⟨#[32]⟩ : ByteArray)) ++ t311).size + 1 ≤ 9223372036854775807 then ((hurdleref09_Action.f k a0_3).bind fun t312 => (if (((((⟨#[111, 110, 32]⟩ : ByteArray) ++ t310) ++ (⟨#[32]⟩ : ByteArray)) ++ t311) ++ (⟨#[32]⟩ : ByteArray)).size + t312.size ≤ 9223372036854775807 then (hurdleref10_Line.l0 k ((((((⟨#[111, 110, 32]⟩ : ByteArray) ++ t310) ++ (⟨#[32]⟩ : ByteArray)) ++ t311) ++ (⟨#[32]⟩ : ByteArray)) ++ t312) 0 a0_0 a0_1 l0_2 a0_3) else (none))) else (none)) else (none))) else (none)) else (none))) = some r := h
  clear h
  replace H := Option.bind_eq_some_iff.mp H
  obtain ⟨t310, A20, H⟩ := H
  replace H : (if 3 + t310.size ≤ 9223372036854775807 then (if ((⟨#[111, 110, 32]⟩ : ByteArray) ++ t310).size + 1 ≤ 9223372036854775807 then ((hurdleref09_Call.f k a0_0 a0_1).bind fun t311 => (if (((⟨#[111, 110, 32]⟩ : ByteArray) ++ t310) ++ (⟨#[32]⟩ : ByteArray)).size + t311.size ≤ 9223372036854775807 then (if ((((⟨#[111, 110, 32]⟩ : ByteArray) ++ t310) ++ (⟨#[32]⟩ : ByteArray)) ++ t311).size + 1 ≤ 9223372036854775807 then ((hurdleref09_Action.f k a0_3).bind fun t312 => (if (((((⟨#[111, 110, 32]⟩ : ByteArray) ++ t310) ++ (⟨#[32]⟩ : ByteArray)) ++ t311) ++ (⟨#[32]⟩ : ByteArray)).size + t312.size ≤ 9223372036854775807 then (hurdleref10_Line.l0 k ((((((⟨#[111, 110, 32]⟩ : ByteArray) ++ t310) ++ (⟨#[32]⟩ : ByteArray)) ++ t311) ++ (⟨#[32]⟩ : ByteArray)) ++ t312) 0 a0_0 a0_1 l0_2 a0_3) else (none))) else (none)) else (none))) else (none)) else (none)) = some r := H
  have A2 := Aside0.mk A20
  clear A20
  by_cases c3 : 3 + t310.size ≤ 9223372036854775807
  · rw [if_pos c3] at H
    have c3b0 := eq_true c3
    have c3b1 : decide (3 + t310.size ≤ 9223372036854775807) = true := decide_eq_true c3
    try have c3b2 : (9223372036854775807 < 3 + t310.size) = False := eq_false (Nat.not_lt.2 c3)
    by_cases c4 : ((⟨#[111, 110, 32]⟩ : ByteArray) ++ t310).size + 1 ≤ 9223372036854775807
    · rw [if_pos c4] at H
      have c4b0 := eq_true c4
      have c4b1 : decide (((⟨#[111, 110, 32]⟩ : ByteArray) ++ t310).size + 1 ≤ 9223372036854775807) = true := decide_eq_true c4
      try have c4b2 : (9223372036854775807 < ((⟨#[111, 110, 32]⟩ : ByteArray) ++ t310).size + 1) = False := eq_false (Nat.not_lt.2 c4)
      try have c4b3 : (9223372036854775807 < 3 + t310.size + 1) = False := by have h := c4b2; simp only [ByteArray.size_append] at h; exact h
      replace H := Option.bind_eq_some_iff.mp H
      obtain ⟨t311, A50, H⟩ := H
      replace H : (if (((⟨#[111, 110, 32]⟩ : ByteArray) ++ t310) ++ (⟨#[32]⟩ : ByteArray)).size + t311.size ≤ 9223372036854775807 then (if ((((⟨#[111, 110, 32]⟩ : ByteArray) ++ t310) ++ (⟨#[32]⟩ : ByteArray)) ++ t311).size + 1 ≤ 9223372036854775807 then ((hurdleref09_Action.f k a0_3).bind fun t312 => (if (((((⟨#[111, 110, 32]⟩ : ByteArray) ++ t310) ++ (⟨#[32]⟩ : ByteArray)) ++ t311) ++ (⟨#[32]⟩ : ByteArray)).size + t312.size ≤ 9223372036854775807 then (hurdleref10_Line.l0 k ((((((⟨#[111, 110, 32]⟩ : ByteArray) ++ t310) ++ (⟨#[32]⟩ : ByteArray)) ++ t311) ++ (⟨#[32]⟩ : ByteArray)) ++ t312) 0 a0_0 a0_1 l0_2 a0_3) else (none))) else (none)) else (none)) = some r := H
      have A5 := Aside0.mk A50
      clear A50
      by_cases c6 : (((⟨#[111, 110, 32]⟩ : ByteArray) ++ t310) ++ (⟨#[32]⟩ : ByteArray)).size + t311.size ≤ 9223372036854775807
      · rw [if_pos c6] at H
        have c6b0 := eq_true c6
        have c6b1 : decide ((((⟨#[111, 110, 32]⟩ : ByteArray) ++ t310) ++ (⟨#[32]⟩ : ByteArray)).size + t311.size ≤ 9223372036854775807) = true := decide_eq_true c6
        try have c6b2 : (9223372036854775807 < (((⟨#[111, 110, 32]⟩ : ByteArray) ++ t310) ++ (⟨#[32]⟩ : ByteArray)).size + t311.size) = False := eq_false (Nat.not_lt.2 c6)
        try have c6b3 : (9223372036854775807 < 3 + t310.size + 1 + t311.size) = False := by have h := c6b2; simp only [ByteArray.size_append] at h; exact h
        by_cases c7 : ((((⟨#[111, 110, 32]⟩ : ByteArray) ++ t310) ++ (⟨#[32]⟩ : ByteArray)) ++ t311).size + 1 ≤ 9223372036854775807
        · rw [if_pos c7] at H
          have c7b0 := eq_true c7
          have c7b1 : decide (((((⟨#[111, 110, 32]⟩ : ByteArray) ++ t310) ++ (⟨#[32]⟩ : ByteArray)) ++ t311).size + 1 ≤ 9223372036854775807) = true := decide_eq_true c7
          try have c7b2 : (9223372036854775807 < ((((⟨#[111, 110, 32]⟩ : ByteArray) ++ t310) ++ (⟨#[32]⟩ : ByteArray)) ++ t311).size + 1) = False := eq_false (Nat.not_lt.2 c7)
          try have c7b3 : (9223372036854775807 < 3 + t310.size + 1 + t311.size + 1) = False := by have h := c7b2; simp only [ByteArray.size_append] at h; exact h
          replace H := Option.bind_eq_some_iff.mp H
          obtain ⟨t312, A80, H⟩ := H
          replace H : (if (((((⟨#[111, 110, 32]⟩ : ByteArray) ++ t310) ++ (⟨#[32]⟩ : ByteArray)) ++ t311) ++ (⟨#[32]⟩ : ByteArray)).size + t312.size ≤ 9223372036854775807 then (hurdleref10_Line.l0 k ((((((⟨#[111, 110, 32]⟩ : ByteArray) ++ t310) ++ (⟨#[32]⟩ : ByteArray)) ++ t311) ++ (⟨#[32]⟩ : ByteArray)) ++ t312) 0 a0_0 a0_1 l0_2 a0_3) else (none)) = some r := H
          have A8 := Aside0.mk A80
          clear A80
          by_cases c9 : (((((⟨#[111, 110, 32]⟩ : ByteArray) ++ t310) ++ (⟨#[32]⟩ : ByteArray)) ++ t311) ++ (⟨#[32]⟩ : ByteArray)).size + t312.size ≤ 9223372036854775807
          · rw [if_pos c9] at H
            have c9b0 := eq_true c9
            have c9b1 : decide ((((((⟨#[111, 110, 32]⟩ : ByteArray) ++ t310) ++ (⟨#[32]⟩ : ByteArray)) ++ t311) ++ (⟨#[32]⟩ : ByteArray)).size + t312.size ≤ 9223372036854775807) = true := decide_eq_true c9
            try have c9b2 : (9223372036854775807 < (((((⟨#[111, 110, 32]⟩ : ByteArray) ++ t310) ++ (⟨#[32]⟩ : ByteArray)) ++ t311) ++ (⟨#[32]⟩ : ByteArray)).size + t312.size) = False := eq_false (Nat.not_lt.2 c9)
            try have c9b3 : (9223372036854775807 < 3 + t310.size + 1 + t311.size + 1 + t312.size) = False := by have h := c9b2; simp only [ByteArray.size_append] at h; exact h
            have H' := Aside0.mk H
            clear H
            go_enter Try.func36, Try.ntmps36
            try go_wp2_with (first | ((with_reducible refine gate_dst (N := 1) rfl ?_); refine box_event ?hg (N := 1) ?hd (cs := #[.int .u32 a0_0, .int .u32 a0_1, .slice A0_2 l0_2.length c0_2, .int .u32 a0_3]) (t := 40) ?hr ?_; (case hd => rfl); (case hg => rfl); (case hr => first | (go_simp; done) | (go_simp; rfl)); intro gb309 hg w10 hbox hb; have n0_ := Aside0.mk (below_step (by repeat (first | (with_reducible first | exact HB.out | apply below_alloc | apply pw_below_drewN | apply below_drew1) | exact HB.out)) hb); have n1_ := Aside0.mk (hbox); have n2_ := Aside0.mk ((by rw [hg]; exact (below_size (by repeat (first | (with_reducible first | exact HB.out | apply below_alloc | apply pw_below_drewN | apply below_drew1) | exact HB.out))) : w.heap.size ≤ gb309)); have n3_ := Aside0.mk ((by rw [hg]; exact (below_size (by repeat (first | (with_reducible first | exact HB.out | apply below_alloc | apply pw_below_drewN | apply below_drew1) | exact HB.out))) : w.heap.size ≤ gb309)); clear HB; have HB := n0_; have BK309 := n1_; have GW309 := n2_; have GE309 := n3_; clear n0_ n1_ n2_ n3_; clear hb hbox hg))
            have n0_ := Aside0.mk (blk_drew BK309.out)
            have n1_ := Aside0.mk (below_drew1 HB.out)
            clear BK309
            clear HB
            have BK309 := n0_
            have HB := n1_
            clear n0_ n1_
            refine start_ (n := 17) (S := fun w' => w'.cell? ⟨gb309, 0, none⟩ = some (.int .u32 a0_0) ∧ w'.cell? ⟨gb309, 1, none⟩ = some (.int .u32 a0_1) ∧ w'.cell? ⟨gb309, 2, none⟩ = some (.slice A0_2 l0_2.length c0_2) ∧ w'.cell? ⟨gb309, 3, none⟩ = some (.int .u32 a0_3)) (ds := []) #[false, false, false, false, false, false, false, false, false, false, false, false, false, false, false, false, false] (by kernel_rfl) rfl rfl ⟨(blk_cell BK309.out 0).trans rfl, (blk_cell BK309.out 1).trans rfl, (blk_cell BK309.out 2).trans rfl, (blk_cell BK309.out 3).trans rfl⟩ (fun hHeld => ?_); refine with_tabW hurdleref10_Line.tab1 hurdleref10_Line.bits1 (fun HT_ HW_ => ?_)
            generalize w10.drew = w11 at BK309 HB hHeld ⊢
            refine pure_ (i := 0) (N := some 5) (v := ?_) (a' := ?_) #[true, false, false, false, false, false, false, false, false, false, false, false, false, false, false, false, false] rfl rfl (any_of HT_.out (by kernel_rfl)) (fun _ _ _ h => h) (Or.inl ⟨by rfl, ?_⟩) ?_ ?_
            rotate_left
            · intro w'
              go_simp
              with_reducible rfl
            rotate_left
            · simp only [Act.put, List.setIfInBounds_toArray, List.set_cons_zero, List.set_cons_succ, i64_w, i32_w]
              rfl
            refine pure_ (i := 5) (N := some 10) (v := ?_) (a' := ?_) #[true, false, false, false, false, true, false, false, false, false, false, false, false, false, false, false, false] rfl rfl (any_of HT_.out (by kernel_rfl)) (fun _ _ _ h => h) (Or.inl ⟨by rfl, ?_⟩) ?_ ?_
            rotate_left
            · intro w'
              go_simp
              with_reducible rfl
            rotate_left
            · simp only [Act.put, List.setIfInBounds_toArray, List.set_cons_zero, List.set_cons_succ, i64_w, i32_w]
              rfl
            refine pure_ (i := 7) (N := some 12) (v := ?_) (a' := ?_) #[true, false, false, false, false, true, false, true, false, false, false, false, false, false, false, false, false] rfl rfl (any_of HT_.out (by kernel_rfl)) (fun _ _ _ h => h) (Or.inl ⟨by rfl, ?_⟩) ?_ ?_
            rotate_left
            · intro w'
              go_simp
              with_reducible rfl
            rotate_left
            · simp only [Act.put, List.setIfInBounds_toArray, List.set_cons_zero, List.set_cons_succ, i64_w, i32_w]
              rfl
            refine pure_ (i := 12) (N := some 17) (v := ?_) (a' := ?_) #[true, false, false, false, false, true, false, true, false, false, false, false, true, false, false, false, false] rfl rfl (any_of HT_.out (by kernel_rfl)) (fun _ _ _ h => h) (Or.inl ⟨by rfl, ?_⟩) ?_ ?_
            rotate_left
            · intro w'
              go_simp
              with_reducible rfl
            rotate_left
            · simp only [Act.put, List.setIfInBounds_toArray, List.set_cons_zero, List.set_cons_succ, i64_w, i32_w]
              rfl
            refine take_ (i := 1) (N := some 6) (v := ?_) (a' := ?_) #[true, true, false, false, false, true, false, true, false, false, false, false, true, false, false, false, false] rfl rfl (take_ofW HT_.out HW_.out (by kernel_rfl)) (fun _ _ _ h => h) (Or.inl ⟨by rfl, ?_⟩) hHeld ?_ ?_
            rotate_left
            · rintro w' ⟨s0, s1, s2, s3⟩
              go_simp
              with_reducible rfl
            rotate_left
            · simp only [Act.put, List.setIfInBounds_toArray, List.set_cons_zero, List.set_cons_succ, i64_w, i32_w]
              rfl
            refine take_ (i := 6) (N := some 11) (v := ?_) (a' := ?_) #[true, true, false, false, false, true, true, true, false, false, false, false, true, false, false, false, false] rfl rfl (take_ofW HT_.out HW_.out (by kernel_rfl)) (fun _ _ _ h => h) (Or.inl ⟨by rfl, ?_⟩) hHeld ?_ ?_
            rotate_left
            · rintro w' ⟨s0, s1, s2, s3⟩
              go_simp
              with_reducible rfl
            rotate_left
            · simp only [Act.put, List.setIfInBounds_toArray, List.set_cons_zero, List.set_cons_succ, i64_w, i32_w]
              rfl
            refine take_ (i := 8) (N := some 13) (v := ?_) (a' := ?_) #[true, true, false, false, false, true, true, true, true, false, false, false, true, false, false, false, false] rfl rfl (take_ofW HT_.out HW_.out (by kernel_rfl)) (fun _ _ _ h => h) (Or.inl ⟨by rfl, ?_⟩) hHeld ?_ ?_
            rotate_left
            · rintro w' ⟨s0, s1, s2, s3⟩
              go_simp
              with_reducible rfl
            rotate_left
            · simp only [Act.put, List.setIfInBounds_toArray, List.set_cons_zero, List.set_cons_succ, i64_w, i32_w]
              rfl
            refine take_ (i := 13) (N := some 18) (v := ?_) (a' := ?_) #[true, true, false, false, false, true, true, true, true, false, false, false, true, true, false, false, false] rfl rfl (take_ofW HT_.out HW_.out (by kernel_rfl)) (fun _ _ _ h => h) (Or.inl ⟨by rfl, ?_⟩) hHeld ?_ ?_
            rotate_left
            · rintro w' ⟨s0, s1, s2, s3⟩
              go_simp
              with_reducible rfl
            rotate_left
            · simp only [Act.put, List.setIfInBounds_toArray, List.set_cons_zero, List.set_cons_succ, i64_w, i32_w]
              rfl
            refine one_ (i := 2) (N := some 7) #[true, true, true, false, false, true, true, true, true, false, false, false, true, true, false, false, false] rfl rfl (one_of HT_.out (by kernel_rfl)) (by decide) (fun K hK => ?_)
            refine goes_ Try.func56 (by kernel_rfl) rfl #[.int .u32 a0_0] (by rfl) rfl rfl (by (try simp only [List.map_toArray, List.map_cons, List.map_nil]); first | done | rfl | (simp only [List.length_drop, List.length_take]; rfl)) ?_
            with_reducible refine (hurdleref09_Machine.calls k a0_0 t310 _ A2.out).mono ?_
            rintro e w12 ⟨rfl, hb⟩
            refine ⟨_, rfl, ?_⟩
            have n0_ := Aside0.mk (blk_below (g := gb309) (o := .cells #[.int .u32 a0_0, .int .u32 a0_1, .slice A0_2 l0_2.length c0_2, .int .u32 a0_3] 40 (0, 0)) (by (with_reducible repeat (first | refine blk_drewN ?_ _ | refine blk_drew ?_ | refine blk_alloc ?_ _)); exact BK309.out) hb)
            have n1_ := Aside0.mk (below_step (by repeat (first | (with_reducible first | exact HB.out | apply below_alloc | apply pw_below_drewN | apply below_drew1 | refine below_set ?_ GE309.out) | exact HB.out)) hb)
            clear BK309
            clear HB
            have BK309 := n0_
            have HB := n1_
            clear n0_ n1_
            (try clear hb)
            (try clear hb2)
            (try clear hk)
            (try clear hi)
            refine hK.out _ _ ⟨(blk_cell BK309.out 0).trans rfl, (blk_cell BK309.out 1).trans rfl, (blk_cell BK309.out 2).trans rfl, (blk_cell BK309.out 3).trans rfl⟩ (fun hHeld => ?_)
            clear hK K
            refine norm_ (a' := ?_) ?_ ?_
            rotate_left
            · show Act.put _ (some 7) _ = _
              simp only [Act.put, List.setIfInBounds_toArray, List.set_cons_zero, List.set_cons_succ, i64_w, i32_w]
              rfl
            refine pure_ (i := 3) (N := some 8) (v := ?_) (a' := ?_) #[true, true, true, true, false, true, true, true, true, false, false, false, true, true, false, false, false] rfl rfl (any_of HT_.out (by kernel_rfl)) (fun _ _ _ h => h) (Or.inl ⟨by rfl, ?_⟩) ?_ ?_
            rotate_left
            · intro w'
              go_simp
              with_reducible rfl
            rotate_left
            · simp only [Act.put, List.setIfInBounds_toArray, List.set_cons_zero, List.set_cons_succ, i64_w, i32_w]
              rfl
            refine pure_ (i := 4) (N := some 9) (v := ?_) (a' := ?_) #[true, true, true, true, true, true, true, true, true, false, false, false, true, true, false, false, false] rfl rfl (any_of HT_.out (by kernel_rfl)) (fun _ _ _ h => h) (Or.inl ⟨by rfl, ?_⟩) ?_ ?_
            rotate_left
            · intro w'
              go_simp
              with_reducible rfl
            rotate_left
            · simp only [Act.put, List.setIfInBounds_toArray, List.set_cons_zero, List.set_cons_succ, i64_w, i32_w]
              rfl
            refine one_ (i := 9) (N := some 14) #[true, true, true, true, true, true, true, true, true, true, false, false, true, true, false, false, false] rfl rfl (one_of HT_.out (by kernel_rfl)) (by decide) (fun K hK => ?_)
            refine goes_ Try.func57 (by kernel_rfl) rfl #[.int .u32 a0_0, .int .u32 a0_1] (by rfl) rfl rfl (by (try simp only [List.map_toArray, List.map_cons, List.map_nil]); first | done | rfl | (simp only [List.length_drop, List.length_take]; rfl)) ?_
            with_reducible refine (hurdleref09_Call.calls k a0_0 a0_1 t311 _ A5.out).mono ?_
            rintro e w13 ⟨rfl, hb⟩
            refine ⟨_, rfl, ?_⟩
            have n0_ := Aside0.mk (blk_below (g := gb309) (o := .cells #[.int .u32 a0_0, .int .u32 a0_1, .slice A0_2 l0_2.length c0_2, .int .u32 a0_3] 40 (0, 0)) (by (with_reducible repeat (first | refine blk_drewN ?_ _ | refine blk_drew ?_ | refine blk_alloc ?_ _)); exact BK309.out) hb)
            have n1_ := Aside0.mk (below_step (by repeat (first | (with_reducible first | exact HB.out | apply below_alloc | apply pw_below_drewN | apply below_drew1 | refine below_set ?_ GE309.out) | exact HB.out)) hb)
            clear BK309
            clear HB
            have BK309 := n0_
            have HB := n1_
            clear n0_ n1_
            (try clear hb)
            (try clear hb2)
            (try clear hk)
            (try clear hi)
            refine hK.out _ _ ⟨(blk_cell BK309.out 0).trans rfl, (blk_cell BK309.out 1).trans rfl, (blk_cell BK309.out 2).trans rfl, (blk_cell BK309.out 3).trans rfl⟩ (fun hHeld => ?_)
            clear hK K
            refine norm_ (a' := ?_) ?_ ?_
            rotate_left
            · show Act.put _ (some 14) _ = _
              simp only [Act.put, List.setIfInBounds_toArray, List.set_cons_zero, List.set_cons_succ, i64_w, i32_w]
              rfl
            refine pure_ (i := 10) (N := some 15) (v := ?_) (a' := ?_) #[true, true, true, true, true, true, true, true, true, true, true, false, true, true, false, false, false] rfl rfl (any_of HT_.out (by kernel_rfl)) (fun _ _ _ h => h) (Or.inl ⟨by rfl, ?_⟩) ?_ ?_
            rotate_left
            · intro w'
              go_simp
              with_reducible rfl
            rotate_left
            · simp only [Act.put, List.setIfInBounds_toArray, List.set_cons_zero, List.set_cons_succ, i64_w, i32_w]
              rfl
            refine pure_ (i := 11) (N := some 16) (v := ?_) (a' := ?_) #[true, true, true, true, true, true, true, true, true, true, true, true, true, true, false, false, false] rfl rfl (any_of HT_.out (by kernel_rfl)) (fun _ _ _ h => h) (Or.inl ⟨by rfl, ?_⟩) ?_ ?_
            rotate_left
            · intro w'
              go_simp
              with_reducible rfl
            rotate_left
            · simp only [Act.put, List.setIfInBounds_toArray, List.set_cons_zero, List.set_cons_succ, i64_w, i32_w]
              rfl
            refine one_ (i := 14) (N := some 19) #[true, true, true, true, true, true, true, true, true, true, true, true, true, true, true, false, false] rfl rfl (one_of HT_.out (by kernel_rfl)) (by decide) (fun K hK => ?_)
            refine goes_ Try.func33 (by kernel_rfl) rfl #[.int .u32 a0_3] (by rfl) rfl rfl (by (try simp only [List.map_toArray, List.map_cons, List.map_nil]); first | done | rfl | (simp only [List.length_drop, List.length_take]; rfl)) ?_
            with_reducible refine (hurdleref09_Action.calls k a0_3 t312 _ A8.out).mono ?_
            rintro e w14 ⟨rfl, hb⟩
            refine ⟨_, rfl, ?_⟩
            have n0_ := Aside0.mk (blk_below (g := gb309) (o := .cells #[.int .u32 a0_0, .int .u32 a0_1, .slice A0_2 l0_2.length c0_2, .int .u32 a0_3] 40 (0, 0)) (by (with_reducible repeat (first | refine blk_drewN ?_ _ | refine blk_drew ?_ | refine blk_alloc ?_ _)); exact BK309.out) hb)
            have n1_ := Aside0.mk (below_step (by repeat (first | (with_reducible first | exact HB.out | apply below_alloc | apply pw_below_drewN | apply below_drew1 | refine below_set ?_ GE309.out) | exact HB.out)) hb)
            clear BK309
            clear HB
            have BK309 := n0_
            have HB := n1_
            clear n0_ n1_
            (try clear hb)
            (try clear hb2)
            (try clear hk)
            (try clear hi)
            refine hK.out _ _ ⟨(blk_cell BK309.out 0).trans rfl, (blk_cell BK309.out 1).trans rfl, (blk_cell BK309.out 2).trans rfl, (blk_cell BK309.out 3).trans rfl⟩ (fun hHeld => ?_)
            clear hK K
            refine norm_ (a' := ?_) ?_ ?_
            rotate_left
            · show Act.put _ (some 19) _ = _
              simp only [Act.put, List.setIfInBounds_toArray, List.set_cons_zero, List.set_cons_succ, i64_w, i32_w]
              rfl
            refine pure_ (i := 15) (N := some 20) (v := ?_) (a' := ?_) #[true, true, true, true, true, true, true, true, true, true, true, true, true, true, true, true, false] rfl rfl (any_of HT_.out (by kernel_rfl)) (fun _ _ _ h => h) (Or.inl ⟨by rfl, ?_⟩) ?_ ?_
            rotate_left
            · intro w'
              go_simp
              with_reducible rfl
            rotate_left
            · simp only [Act.put, List.setIfInBounds_toArray, List.set_cons_zero, List.set_cons_succ, i64_w, i32_w]
              rfl
            refine pure_ (i := 16) (N := some 3) (v := ?_) (a' := ?_) #[true, true, true, true, true, true, true, true, true, true, true, true, true, true, true, true, true] rfl rfl (any_of HT_.out (by kernel_rfl)) (fun _ _ _ h => h) (Or.inl ⟨by rfl, ?_⟩) ?_ ?_
            rotate_left
            · intro w'
              go_simp
              with_reducible rfl
            rotate_left
            · simp only [Act.put, List.setIfInBounds_toArray, List.set_cons_zero, List.set_cons_succ, i64_w, i32_w]
              rfl
            refine done_ (done_of HT_.out (by kernel_rfl)) ?_
            try go_wp2
            go_loopg [3, 4] k (fun kq v3 v4 w' => ∃ (x3_1 : ByteArray) (x4_1 : Int), v3 = .string x3_1 ∧ v4 = .int .i64 x4_1 ∧ Aside0 (hurdleref10_Line.l0 kq x3_1 x4_1 a0_0 a0_1 l0_2 a0_3 = some r) ∧ Aside0 (kq ≤ k) ∧ Aside0 (w'.heap[gb309]? = some (.cells #[.int .u32 a0_0, .int .u32 a0_1, (.slice A0_2 l0_2.length c0_2), .int .u32 a0_3] 40 (0, 0))) ∧ Aside0 (Below w.heap.size w w'))
            case atStart => exact ⟨((((((⟨#[111, 110, 32]⟩ : ByteArray) ++ t310) ++ (⟨#[32]⟩ : ByteArray)) ++ t311) ++ (⟨#[32]⟩ : ByteArray)) ++ t312), (0), (by first | rfl | (simp; done) | (simp [*]; done)), (by first | rfl | (simp; done) | (simp [*]; done)), H', ⟨Nat.le_refl _⟩, ⟨by (with_reducible repeat (first | refine blk_drewN ?_ _ | refine blk_drew ?_ | refine blk_alloc ?_ _)); exact BK309.out⟩, ⟨by repeat (first | (with_reducible first | exact HB.out | apply below_alloc | apply pw_below_drewN | apply below_drew1 | refine below_set ?_ GE309.out) | exact HB.out)⟩⟩
            case round =>
              clear H'
              try clear p2
              try clear c3
              try clear c3b0
              try clear c3b1
              try clear c3b2
              try clear c4
              try clear c4b0
              try clear c4b1
              try clear c4b2
              try clear c5
              try clear c6
              try clear c6b0
              try clear c6b1
              try clear c6b2
              try clear c7
              try clear c7b0
              try clear c7b1
              try clear c7b2
              try clear c9
              try clear c9b0
              try clear c9b1
              try clear c9b2
              obtain ⟨x3_1, x4_1, rfl, rfl, HA, HK1, BK309, HB⟩ := hrel
              cases gk with
              | zero => exact absurd HA.out (by simp [hurdleref10_Line.l0])
              | succ k1 =>
                have H := HA.out
                clear HA
                simp only [hurdleref10_Line.l0] at H
                by_cases c15 : x4_1 < (l0_2.length : Int)
                · rw [if_pos c15] at H
                  have c15b0 : decide (x4_1 < (l0_2.length : Int)) = true := decide_eq_true c15
                  clear c15
                  by_cases c16 : x4_1 = 0
                  · rw [if_pos c16] at H
                    have c16b0 : (x4_1 == 0) = true := beq_iff_eq.mpr c16
                    have c16b1 : (x4_1 != 0) = false := bne_eq_false_iff_eq.mpr c16
                    clear c16
                    by_cases c17 : x3_1.size + 4 ≤ 9223372036854775807
                    · rw [if_pos c17] at H
                      have c17b0 := eq_true c17
                      have c17b1 : decide (x3_1.size + 4 ≤ 9223372036854775807) = true := decide_eq_true c17
                      try have c17b2 : (9223372036854775807 < x3_1.size + 4) = False := eq_false (Nat.not_lt.2 c17)
                      by_cases c18 : 0 ≤ x4_1
                      · rw [if_pos c18] at H
                        have c18b0 : decide (0 ≤ x4_1) = true := decide_eq_true c18
                        clear c18
                        replace H := Option.bind_eq_some_iff.mp H
                        obtain ⟨t314, A190, H⟩ := H
                        replace H : (if (x3_1 ++ (⟨#[32, 105, 102, 32]⟩ : ByteArray)).size + t314.size ≤ 9223372036854775807 then (hurdleref10_Line.l0 k1 ((x3_1 ++ (⟨#[32, 105, 102, 32]⟩ : ByteArray)) ++ t314) (wrap64 (x4_1 + 1)) a0_0 a0_1 l0_2 a0_3) else (none)) = some r := H
                        have A19 := Aside0.mk A190
                        clear A190
                        by_cases c20 : (x3_1 ++ (⟨#[32, 105, 102, 32]⟩ : ByteArray)).size + t314.size ≤ 9223372036854775807
                        · rw [if_pos c20] at H
                          have c20b0 := eq_true c20
                          have c20b1 : decide ((x3_1 ++ (⟨#[32, 105, 102, 32]⟩ : ByteArray)).size + t314.size ≤ 9223372036854775807) = true := decide_eq_true c20
                          try have c20b2 : (9223372036854775807 < (x3_1 ++ (⟨#[32, 105, 102, 32]⟩ : ByteArray)).size + t314.size) = False := eq_false (Nat.not_lt.2 c20)
                          try have c20b3 : (9223372036854775807 < x3_1.size + 4 + t314.size) = False := by have h := c20b2; simp only [ByteArray.size_append] at h; exact h
                          have H' := Aside0.mk H
                          clear H
                          have hcz21_0 : wr.cell? ⟨gb309, 0, none⟩ = some (.int .u32 a0_0) := (blk_cell BK309.out 0).trans rfl
                          have hcz21_1 : wr.cell? ⟨gb309, 1, none⟩ = some (.int .u32 a0_1) := (blk_cell BK309.out 1).trans rfl
                          have hcz21_2 : wr.cell? ⟨gb309, 2, none⟩ = some (.slice A0_2 l0_2.length c0_2) := (blk_cell BK309.out 2).trans rfl
                          have hcz21_3 : wr.cell? ⟨gb309, 3, none⟩ = some (.int .u32 a0_3) := (blk_cell BK309.out 3).trans rfl
                          have hfz21_0 := blk_frozen BK309.out 0
                          have hfz21_1 := blk_frozen BK309.out 1
                          have hfz21_2 := blk_frozen BK309.out 2
                          have hfz21_3 := blk_frozen BK309.out 3
                          have p313 : 0 ≤ (x4_1 : Int) := of_decide_eq_true (by first | (with_reducible assumption) | assumption)
                          have q313 : x4_1 < (l0_2.length : Int) := of_decide_eq_true (by first | (with_reducible assumption) | assumption)
                          obtain ⟨ad313, e313, hx313_0, hx313_1, hx313_2, hx313_3⟩ := at_T61 HR0_2.out x4_1 p313 q313
                          cases e313
                          replace hx313_0 := (HB.out.cell (World.block_lt_of_cell? w _ hx313_0)).trans hx313_0
                          replace hx313_1 := (HB.out.cell (World.block_lt_of_cell? w _ hx313_1)).trans hx313_1
                          replace hx313_2 := (HB.out.cell (World.block_lt_of_cell? w _ hx313_2)).trans hx313_2
                          replace hx313_3 := (HB.out.cell (World.block_lt_of_cell? w _ hx313_3)).trans hx313_3
                          replace p313 := eq_true p313
                          replace q313 := eq_true q313
                          go_wp2_with (first | ((with_reducible refine gate_callee (f := 58) rfl ?_); refine goesL_ (some 37) rfl rfl Try.func58 (by kernel_rfl) rfl #[.agg #[.int .i64 ((rd_T61 l0_2 x4_1).f0), .int .i64 ((rd_T61 l0_2 x4_1).f1), .int .u64 ((rd_T61 l0_2 x4_1).f2), .int .u64 ((rd_T61 l0_2 x4_1).f3)]] rfl (by (try simp only [List.map_toArray, List.map_cons, List.map_nil]); first | done | rfl | (simp only [List.length_drop, List.length_take]; rfl)) ?_; (with_reducible refine (hurdleref08_Print.calls ((rd_T61 l0_2 x4_1).f0) ((rd_T61 l0_2 x4_1).f1) ((rd_T61 l0_2 x4_1).f2) ((rd_T61 l0_2 x4_1).f3) t314 _ A19.out).mono ?_); rintro e w22 ⟨rfl, hb⟩; refine ⟨_, rfl, ?_⟩; have n0_ := Aside0.mk (blk_below (g := gb309) (o := .cells #[.int .u32 a0_0, .int .u32 a0_1, .slice (some ad313) l0_2.length c0_2, .int .u32 a0_3] 40 (0, 0)) (by (with_reducible repeat (first | refine blk_drewN ?_ _ | refine blk_drew ?_ | refine blk_alloc ?_ _)); exact BK309.out) hb); have n1_ := Aside0.mk (below_step (by repeat (first | (with_reducible first | exact HB.out | apply below_alloc | apply pw_below_drewN | apply below_drew1 | refine below_set ?_ GE309.out) | exact HB.out)) hb); clear BK309; clear HB; have BK309 := n0_; have HB := n1_; clear n0_ n1_; (try clear hb); (try clear hb2); (try clear hk); (try clear hi)))
                          go_roundg k1
                          case measure => have := HK1.out; omega
                          case rel => exact ⟨((x3_1 ++ (⟨#[32, 105, 102, 32]⟩ : ByteArray)) ++ t314), (wrap64 (x4_1 + 1)), (by first | rfl | (simp; done) | (simp [*]; done)), (by first | rfl | (simp; done) | (simp [*]; done)), H', ⟨by have := HK1.out; omega⟩, ⟨by (with_reducible repeat (first | refine blk_drewN ?_ _ | refine blk_drew ?_ | refine blk_alloc ?_ _)); exact BK309.out⟩, ⟨by repeat (first | (with_reducible first | exact HB.out | apply below_alloc | apply pw_below_drewN | apply below_drew1 | refine below_set ?_ GE309.out) | exact HB.out)⟩⟩
                        · rw [if_neg c20] at H
                          exact absurd H (by simp)
                      · rw [if_neg c18] at H
                        exact absurd H (by simp)
                    · rw [if_neg c17] at H
                      exact absurd H (by simp)
                  · rw [if_neg c16] at H
                    have c16b0 : (x4_1 == 0) = false := beq_eq_false_iff_ne.mpr c16
                    have c16b1 : (x4_1 != 0) = true := bne_iff_ne.mpr c16
                    by_cases c23 : x3_1.size + 5 ≤ 9223372036854775807
                    · rw [if_pos c23] at H
                      have c23b0 := eq_true c23
                      have c23b1 : decide (x3_1.size + 5 ≤ 9223372036854775807) = true := decide_eq_true c23
                      try have c23b2 : (9223372036854775807 < x3_1.size + 5) = False := eq_false (Nat.not_lt.2 c23)
                      by_cases c24 : 0 ≤ x4_1
                      · rw [if_pos c24] at H
                        have c24b0 : decide (0 ≤ x4_1) = true := decide_eq_true c24
                        clear c24
                        replace H := Option.bind_eq_some_iff.mp H
                        obtain ⟨t316, A250, H⟩ := H
                        replace H : (if (x3_1 ++ (⟨#[32, 97, 110, 100, 32]⟩ : ByteArray)).size + t316.size ≤ 9223372036854775807 then (hurdleref10_Line.l0 k1 ((x3_1 ++ (⟨#[32, 97, 110, 100, 32]⟩ : ByteArray)) ++ t316) (wrap64 (x4_1 + 1)) a0_0 a0_1 l0_2 a0_3) else (none)) = some r := H
                        have A25 := Aside0.mk A250
                        clear A250
                        by_cases c26 : (x3_1 ++ (⟨#[32, 97, 110, 100, 32]⟩ : ByteArray)).size + t316.size ≤ 9223372036854775807
                        · rw [if_pos c26] at H
                          have c26b0 := eq_true c26
                          have c26b1 : decide ((x3_1 ++ (⟨#[32, 97, 110, 100, 32]⟩ : ByteArray)).size + t316.size ≤ 9223372036854775807) = true := decide_eq_true c26
                          try have c26b2 : (9223372036854775807 < (x3_1 ++ (⟨#[32, 97, 110, 100, 32]⟩ : ByteArray)).size + t316.size) = False := eq_false (Nat.not_lt.2 c26)
                          try have c26b3 : (9223372036854775807 < x3_1.size + 5 + t316.size) = False := by have h := c26b2; simp only [ByteArray.size_append] at h; exact h
                          have H' := Aside0.mk H
                          clear H
                          have hcz27_0 : wr.cell? ⟨gb309, 0, none⟩ = some (.int .u32 a0_0) := (blk_cell BK309.out 0).trans rfl
                          have hcz27_1 : wr.cell? ⟨gb309, 1, none⟩ = some (.int .u32 a0_1) := (blk_cell BK309.out 1).trans rfl
                          have hcz27_2 : wr.cell? ⟨gb309, 2, none⟩ = some (.slice A0_2 l0_2.length c0_2) := (blk_cell BK309.out 2).trans rfl
                          have hcz27_3 : wr.cell? ⟨gb309, 3, none⟩ = some (.int .u32 a0_3) := (blk_cell BK309.out 3).trans rfl
                          have hfz27_0 := blk_frozen BK309.out 0
                          have hfz27_1 := blk_frozen BK309.out 1
                          have hfz27_2 := blk_frozen BK309.out 2
                          have hfz27_3 := blk_frozen BK309.out 3
                          have p315 : 0 ≤ (x4_1 : Int) := of_decide_eq_true (by first | (with_reducible assumption) | assumption)
                          have q315 : x4_1 < (l0_2.length : Int) := of_decide_eq_true (by first | (with_reducible assumption) | assumption)
                          obtain ⟨ad315, e315, hx315_0, hx315_1, hx315_2, hx315_3⟩ := at_T61 HR0_2.out x4_1 p315 q315
                          cases e315
                          replace hx315_0 := (HB.out.cell (World.block_lt_of_cell? w _ hx315_0)).trans hx315_0
                          replace hx315_1 := (HB.out.cell (World.block_lt_of_cell? w _ hx315_1)).trans hx315_1
                          replace hx315_2 := (HB.out.cell (World.block_lt_of_cell? w _ hx315_2)).trans hx315_2
                          replace hx315_3 := (HB.out.cell (World.block_lt_of_cell? w _ hx315_3)).trans hx315_3
                          replace p315 := eq_true p315
                          replace q315 := eq_true q315
                          go_wp2_with (first | ((with_reducible refine gate_callee (f := 58) rfl ?_); refine goesL_ (some 46) rfl rfl Try.func58 (by kernel_rfl) rfl #[.agg #[.int .i64 ((rd_T61 l0_2 x4_1).f0), .int .i64 ((rd_T61 l0_2 x4_1).f1), .int .u64 ((rd_T61 l0_2 x4_1).f2), .int .u64 ((rd_T61 l0_2 x4_1).f3)]] rfl (by (try simp only [List.map_toArray, List.map_cons, List.map_nil]); first | done | rfl | (simp only [List.length_drop, List.length_take]; rfl)) ?_; (with_reducible refine (hurdleref08_Print.calls ((rd_T61 l0_2 x4_1).f0) ((rd_T61 l0_2 x4_1).f1) ((rd_T61 l0_2 x4_1).f2) ((rd_T61 l0_2 x4_1).f3) t316 _ A25.out).mono ?_); rintro e w28 ⟨rfl, hb⟩; refine ⟨_, rfl, ?_⟩; have n0_ := Aside0.mk (blk_below (g := gb309) (o := .cells #[.int .u32 a0_0, .int .u32 a0_1, .slice (some ad315) l0_2.length c0_2, .int .u32 a0_3] 40 (0, 0)) (by (with_reducible repeat (first | refine blk_drewN ?_ _ | refine blk_drew ?_ | refine blk_alloc ?_ _)); exact BK309.out) hb); have n1_ := Aside0.mk (below_step (by repeat (first | (with_reducible first | exact HB.out | apply below_alloc | apply pw_below_drewN | apply below_drew1 | refine below_set ?_ GE309.out) | exact HB.out)) hb); clear BK309; clear HB; have BK309 := n0_; have HB := n1_; clear n0_ n1_; (try clear hb); (try clear hb2); (try clear hk); (try clear hi)))
                          go_roundg k1
                          case measure => have := HK1.out; omega
                          case rel => exact ⟨((x3_1 ++ (⟨#[32, 97, 110, 100, 32]⟩ : ByteArray)) ++ t316), (wrap64 (x4_1 + 1)), (by first | rfl | (simp; done) | (simp [*]; done)), (by first | rfl | (simp; done) | (simp [*]; done)), H', ⟨by have := HK1.out; omega⟩, ⟨by (with_reducible repeat (first | refine blk_drewN ?_ _ | refine blk_drew ?_ | refine blk_alloc ?_ _)); exact BK309.out⟩, ⟨by repeat (first | (with_reducible first | exact HB.out | apply below_alloc | apply pw_below_drewN | apply below_drew1 | refine below_set ?_ GE309.out) | exact HB.out)⟩⟩
                        · rw [if_neg c26] at H
                          exact absurd H (by simp)
                      · rw [if_neg c24] at H
                        exact absurd H (by simp)
                    · rw [if_neg c23] at H
                      exact absurd H (by simp)
                · rw [if_neg c15] at H
                  have c15b0 : decide (x4_1 < (l0_2.length : Int)) = false := decide_eq_false c15
                  clear c15
                  obtain rfl := Option.some.inj H
                  have hcz29_0 : wr.cell? ⟨gb309, 0, none⟩ = some (.int .u32 a0_0) := (blk_cell BK309.out 0).trans rfl
                  have hcz29_1 : wr.cell? ⟨gb309, 1, none⟩ = some (.int .u32 a0_1) := (blk_cell BK309.out 1).trans rfl
                  have hcz29_2 : wr.cell? ⟨gb309, 2, none⟩ = some (.slice A0_2 l0_2.length c0_2) := (blk_cell BK309.out 2).trans rfl
                  have hcz29_3 : wr.cell? ⟨gb309, 3, none⟩ = some (.int .u32 a0_3) := (blk_cell BK309.out 3).trans rfl
                  have hfz29_0 := blk_frozen BK309.out 0
                  have hfz29_1 := blk_frozen BK309.out 1
                  have hfz29_2 := blk_frozen BK309.out 2
                  have hfz29_3 := blk_frozen BK309.out 3
                  go_wp2
                  go_ret
                  exact ⟨by first | rfl | (simp [errW_none, errW_some] <;> rfl) | (simp [*, errW_none, errW_some] <;> rfl), by repeat (first | (with_reducible first | exact HB.out | apply below_alloc | apply pw_below_drewN | apply below_drew1 | refine below_set ?_ GE309.out) | exact HB.out)⟩
          · rw [if_neg c9] at H
            exact absurd H (by simp)
        · rw [if_neg c7] at H
          exact absurd H (by simp)
      · rw [if_neg c6] at H
        exact absurd H (by simp)
    · rw [if_neg c4] at H
      exact absurd H (by simp)
  · rw [if_neg c3] at H
    exact absurd H (by simp)
end Go.Proofs.Ytekpbgmmogpbdaa.P
namespace Go.Proofs.Ytekpbgmmogpbdaa.P
open Go.RowKit Go.Proofs.Ytekpbgmmogpbdaa.H Go.Proofs.YtekpbgmmogpbdaaW.PrintWords Go.Proofs.YtekpbgmmogpbdaaW.PrintLast Go.Proofs.YtekpbgmmogpbdaaW.PrintMore
attribute [local go_sem] max2_int min2_int max_two min_two max_three min_three max_four min_four
set_option linter.unusedVariables false
set_option linter.unusedSimpArgs false
def hurdleref10_Print.l0 : Nat → ByteArray → Int → List (S40) → Int → Option (ByteArray)
  | 0, _, _, _, _ => none
  | k + 1, x3, x4, x318000, x318001 => if x4 < (x318000.length : Int) then (if 0 ≤ x4 then ((hurdleref10_Line.f k ((rd_T40 x318000 x4).f0) ((rd_T40 x318000 x4).f1) ((rd_T40 x318000 x4).f2) ((rd_T40 x318000 x4).f3)).bind fun t319 => (if x3.size + t319.size ≤ 9223372036854775807 then (if (x3 ++ t319).size + 1 ≤ 9223372036854775807 then (hurdleref10_Print.l0 k ((x3 ++ t319) ++ (⟨#[10]⟩ : ByteArray)) (wrap64 (x4 + 1)) x318000 x318001) else (none)) else (none))) else (none)) else (if x3.size + 8 ≤ 9223372036854775807 then ((hurdleref09_Action.f k x318001).bind fun t320 => (if (x3 ++ (⟨#[100, 101, 102, 97, 117, 108, 116, 32]⟩ : ByteArray)).size + t320.size ≤ 9223372036854775807 then (if ((x3 ++ (⟨#[100, 101, 102, 97, 117, 108, 116, 32]⟩ : ByteArray)) ++ t320).size + 1 ≤ 9223372036854775807 then (some (((x3 ++ (⟨#[100, 101, 102, 97, 117, 108, 116, 32]⟩ : ByteArray)) ++ t320) ++ (⟨#[10]⟩ : ByteArray))) else (none)) else (none))) else (none))
def hurdleref10_Print.f (k : Nat) (l0_0 : List (S40)) (a0_1 : Int) : Option (ByteArray) := hurdleref10_Print.l0 k (⟨#[]⟩ : ByteArray) 0 l0_0 a0_1
set_option maxHeartbeats 8000000 in
set_option maxRecDepth 100000 in
theorem hurdleref10_Print.calls (k : Nat) (A0_0 : Option Addr) (c0_0 : Nat) (l0_0 : List (S40)) (a0_1 : Int) (r : ByteArray) (w : World) (hr0_0 : Kd.C k40 w A0_0 l0_0.length l0_0) (hc0_0 : l0_0.length ≤ c0_0) (h : hurdleref10_Print.f k l0_0 a0_1 = some r) :
    Calls Try.prog 19 #[.agg #[.slice A0_0 l0_0.length c0_0, .int .u32 a0_1]] w fun e w' => e = .returned (.string r) ∧ Below w.heap.size w w' := by
  have hu25 := Try.underlying25
  have hu40 := Try.underlying40
  have HR0_0 := Aside0.mk hr0_0
  have HC0_0 := Aside0.mk hc0_0
  clear hr0_0 hc0_0
  have HB := Aside0.mk (Below.refl w.heap.size w)
  have H : (hurdleref10_Print.l0 k (⟨#[]⟩ : ByteArray) 0 l0_0 a0_1) = some r := h
  clear h
  have H' := Aside0.mk H
  clear H
  go_enter Try.func19, Try.ntmps19
  go_wp2_with (first | ((with_reducible refine gate_dst (N := 1) rfl ?_); refine box_event ?hg (N := 1) ?hd (cs := #[.slice A0_0 l0_0.length c0_0, .int .u32 a0_1]) (t := 25) ?hr ?_; (case hd => rfl); (case hg => rfl); (case hr => first | (go_simp; done) | (go_simp; rfl)); intro gb317 hg w2 hbox hb; have n0_ := Aside0.mk (below_step (by repeat (first | (with_reducible first | exact HB.out | apply below_alloc | apply pw_below_drewN | apply below_drew1) | exact HB.out)) hb); have n1_ := Aside0.mk (hbox); have n2_ := Aside0.mk ((by rw [hg]; exact (below_size (by repeat (first | (with_reducible first | exact HB.out | apply below_alloc | apply pw_below_drewN | apply below_drew1) | exact HB.out))) : w.heap.size ≤ gb317)); have n3_ := Aside0.mk ((by rw [hg]; exact (below_size (by repeat (first | (with_reducible first | exact HB.out | apply below_alloc | apply pw_below_drewN | apply below_drew1) | exact HB.out))) : w.heap.size ≤ gb317)); clear HB; have HB := n0_; have BK317 := n1_; have GW317 := n2_; have GE317 := n3_; clear n0_ n1_ n2_ n3_; clear hb hbox hg))
  go_loopg [3, 4] k (fun kq v3 v4 w' => ∃ (x3_1 : ByteArray) (x4_1 : Int), v3 = .string x3_1 ∧ v4 = .int .i64 x4_1 ∧ Aside0 (hurdleref10_Print.l0 kq x3_1 x4_1 l0_0 a0_1 = some r) ∧ Aside0 (kq ≤ k) ∧ Aside0 (w'.heap[gb317]? = some (.cells #[(.slice A0_0 l0_0.length c0_0), .int .u32 a0_1] 25 (0, 0))) ∧ Aside0 (Below w.heap.size w w'))
  case atStart => exact ⟨((⟨#[]⟩ : ByteArray)), (0), (by first | rfl | (simp; done) | (simp [*]; done)), (by first | rfl | (simp; done) | (simp [*]; done)), H', ⟨Nat.le_refl _⟩, ⟨by (with_reducible repeat (first | refine blk_drewN ?_ _ | refine blk_drew ?_ | refine blk_alloc ?_ _)); exact BK317.out⟩, ⟨by repeat (first | (with_reducible first | exact HB.out | apply below_alloc | apply pw_below_drewN | apply below_drew1 | refine below_set ?_ GE317.out) | exact HB.out)⟩⟩
  case round =>
    clear H'
    try clear c1
    try clear p2
    obtain ⟨x3_1, x4_1, rfl, rfl, HA, HK1, BK317, HB⟩ := hrel
    cases gk with
    | zero => exact absurd HA.out (by simp [hurdleref10_Print.l0])
    | succ k1 =>
      have H := HA.out
      clear HA
      simp only [hurdleref10_Print.l0] at H
      by_cases c3 : x4_1 < (l0_0.length : Int)
      · rw [if_pos c3] at H
        have c3b0 : decide (x4_1 < (l0_0.length : Int)) = true := decide_eq_true c3
        clear c3
        by_cases c4 : 0 ≤ x4_1
        · rw [if_pos c4] at H
          have c4b0 : decide (0 ≤ x4_1) = true := decide_eq_true c4
          clear c4
          replace H := Option.bind_eq_some_iff.mp H
          obtain ⟨t319, A50, H⟩ := H
          replace H : (if x3_1.size + t319.size ≤ 9223372036854775807 then (if (x3_1 ++ t319).size + 1 ≤ 9223372036854775807 then (hurdleref10_Print.l0 k1 ((x3_1 ++ t319) ++ (⟨#[10]⟩ : ByteArray)) (wrap64 (x4_1 + 1)) l0_0 a0_1) else (none)) else (none)) = some r := H
          have A5 := Aside0.mk A50
          clear A50
          by_cases c6 : x3_1.size + t319.size ≤ 9223372036854775807
          · rw [if_pos c6] at H
            have c6b0 := eq_true c6
            have c6b1 : decide (x3_1.size + t319.size ≤ 9223372036854775807) = true := decide_eq_true c6
            try have c6b2 : (9223372036854775807 < x3_1.size + t319.size) = False := eq_false (Nat.not_lt.2 c6)
            by_cases c7 : (x3_1 ++ t319).size + 1 ≤ 9223372036854775807
            · rw [if_pos c7] at H
              have c7b0 := eq_true c7
              have c7b1 : decide ((x3_1 ++ t319).size + 1 ≤ 9223372036854775807) = true := decide_eq_true c7
              try have c7b2 : (9223372036854775807 < (x3_1 ++ t319).size + 1) = False := eq_false (Nat.not_lt.2 c7)
              try have c7b3 : (9223372036854775807 < x3_1.size + t319.size + 1) = False := by have h := c7b2; simp only [ByteArray.size_append] at h; exact h
              have H' := Aside0.mk H
              clear H
              have hcz8_0 : wr.cell? ⟨gb317, 0, none⟩ = some (.slice A0_0 l0_0.length c0_0) := (blk_cell BK317.out 0).trans rfl
              have hcz8_1 : wr.cell? ⟨gb317, 1, none⟩ = some (.int .u32 a0_1) := (blk_cell BK317.out 1).trans rfl
              have hfz8_0 := blk_frozen BK317.out 0
              have hfz8_1 := blk_frozen BK317.out 1
              have p318 : 0 ≤ (x4_1 : Int) := of_decide_eq_true (by first | (with_reducible assumption) | assumption)
              have q318 : x4_1 < (l0_0.length : Int) := of_decide_eq_true (by first | (with_reducible assumption) | assumption)
              obtain ⟨ad318, A318_2, c318_2, e318, hx318_0, hx318_1, hx318_2, hx318_3, hl318_2, hi318_2⟩ := at_T40 HR0_0.out x4_1 p318 q318
              cases e318
              replace hx318_0 := (HB.out.cell (World.block_lt_of_cell? w _ hx318_0)).trans hx318_0
              replace hx318_1 := (HB.out.cell (World.block_lt_of_cell? w _ hx318_1)).trans hx318_1
              replace hx318_2 := (HB.out.cell (World.block_lt_of_cell? w _ hx318_2)).trans hx318_2
              replace hx318_3 := (HB.out.cell (World.block_lt_of_cell? w _ hx318_3)).trans hx318_3
              have HR318_2 := Aside0.mk hi318_2
              have HC318_2 := Aside0.mk hl318_2
              clear hi318_2 hl318_2
              replace p318 := eq_true p318
              replace q318 := eq_true q318
              go_wp2_with (first | ((with_reducible refine gate_callee (f := 36) rfl ?_); refine goesL_ (some 18) rfl rfl Try.func36 (by kernel_rfl) rfl #[.agg #[.int .u32 ((rd_T40 l0_0 x4_1).f0), .int .u32 ((rd_T40 l0_0 x4_1).f1), .slice A318_2 ((rd_T40 l0_0 x4_1).f2).length c318_2, .int .u32 ((rd_T40 l0_0 x4_1).f3)]] rfl (by (try simp only [List.map_toArray, List.map_cons, List.map_nil]); first | done | rfl | (simp only [List.length_drop, List.length_take]; rfl)) ?_; (with_reducible refine (hurdleref10_Line.calls k1 ((rd_T40 l0_0 x4_1).f0) ((rd_T40 l0_0 x4_1).f1) _ _ ((rd_T40 l0_0 x4_1).f2) ((rd_T40 l0_0 x4_1).f3) t319 _ ?side1 ?side2 A5.out).mono ?_); (case side1 => repeat (first | exact (Kd.C_below HR318_2.out HB.out) | (with_reducible refine Kd.C_alloc ?_ _) | (with_reducible refine Kd.C_drewN ?_ _) | (with_reducible refine Kd.C_drew ?_))); (case side2 => exact HC318_2.out); rintro e w9 ⟨rfl, hb⟩; refine ⟨_, rfl, ?_⟩; have n0_ := Aside0.mk (blk_below (g := gb317) (o := .cells #[.slice (some ad318) l0_0.length c0_0, .int .u32 a0_1] 25 (0, 0)) (by (with_reducible repeat (first | refine blk_drewN ?_ _ | refine blk_drew ?_ | refine blk_alloc ?_ _)); exact BK317.out) hb); have n1_ := Aside0.mk (below_step (by repeat (first | (with_reducible first | exact HB.out | apply below_alloc | apply pw_below_drewN | apply below_drew1 | refine below_set ?_ GE317.out) | exact HB.out)) hb); clear BK317; clear HB; have BK317 := n0_; have HB := n1_; clear n0_ n1_; (try clear hb); (try clear hb2); (try clear hk); (try clear hi)))
              go_roundg k1
              case measure => have := HK1.out; omega
              case rel => exact ⟨((x3_1 ++ t319) ++ (⟨#[10]⟩ : ByteArray)), (wrap64 (x4_1 + 1)), (by first | rfl | (simp; done) | (simp [*]; done)), (by first | rfl | (simp; done) | (simp [*]; done)), H', ⟨by have := HK1.out; omega⟩, ⟨by (with_reducible repeat (first | refine blk_drewN ?_ _ | refine blk_drew ?_ | refine blk_alloc ?_ _)); exact BK317.out⟩, ⟨by repeat (first | (with_reducible first | exact HB.out | apply below_alloc | apply pw_below_drewN | apply below_drew1 | refine below_set ?_ GE317.out) | exact HB.out)⟩⟩
            · rw [if_neg c7] at H
              exact absurd H (by simp)
          · rw [if_neg c6] at H
            exact absurd H (by simp)
        · rw [if_neg c4] at H
          exact absurd H (by simp)
      · rw [if_neg c3] at H
        have c3b0 : decide (x4_1 < (l0_0.length : Int)) = false := decide_eq_false c3
        clear c3
        by_cases c10 : x3_1.size + 8 ≤ 9223372036854775807
        · rw [if_pos c10] at H
          have c10b0 := eq_true c10
          have c10b1 : decide (x3_1.size + 8 ≤ 9223372036854775807) = true := decide_eq_true c10
          try have c10b2 : (9223372036854775807 < x3_1.size + 8) = False := eq_false (Nat.not_lt.2 c10)
          replace H := Option.bind_eq_some_iff.mp H
          obtain ⟨t320, A110, H⟩ := H
          replace H : (if (x3_1 ++ (⟨#[100, 101, 102, 97, 117, 108, 116, 32]⟩ : ByteArray)).size + t320.size ≤ 9223372036854775807 then (if ((x3_1 ++ (⟨#[100, 101, 102, 97, 117, 108, 116, 32]⟩ : ByteArray)) ++ t320).size + 1 ≤ 9223372036854775807 then (some (((x3_1 ++ (⟨#[100, 101, 102, 97, 117, 108, 116, 32]⟩ : ByteArray)) ++ t320) ++ (⟨#[10]⟩ : ByteArray))) else (none)) else (none)) = some r := H
          have A11 := Aside0.mk A110
          clear A110
          by_cases c12 : (x3_1 ++ (⟨#[100, 101, 102, 97, 117, 108, 116, 32]⟩ : ByteArray)).size + t320.size ≤ 9223372036854775807
          · rw [if_pos c12] at H
            have c12b0 := eq_true c12
            have c12b1 : decide ((x3_1 ++ (⟨#[100, 101, 102, 97, 117, 108, 116, 32]⟩ : ByteArray)).size + t320.size ≤ 9223372036854775807) = true := decide_eq_true c12
            try have c12b2 : (9223372036854775807 < (x3_1 ++ (⟨#[100, 101, 102, 97, 117, 108, 116, 32]⟩ : ByteArray)).size + t320.size) = False := eq_false (Nat.not_lt.2 c12)
            try have c12b3 : (9223372036854775807 < x3_1.size + 8 + t320.size) = False := by have h := c12b2; simp only [ByteArray.size_append] at h; exact h
            by_cases c13 : ((x3_1 ++ (⟨#[100, 101, 102, 97, 117, 108, 116, 32]⟩ : ByteArray)) ++ t320).size + 1 ≤ 9223372036854775807
            · rw [if_pos c13] at H
              have c13b0 := eq_true c13
              have c13b1 : decide (((x3_1 ++ (⟨#[100, 101, 102, 97, 117, 108, 116, 32]⟩ : ByteArray)) ++ t320).size + 1 ≤ 9223372036854775807) = true := decide_eq_true c13
              try have c13b2 : (9223372036854775807 < ((x3_1 ++ (⟨#[100, 101, 102, 97, 117, 108, 116, 32]⟩ : ByteArray)) ++ t320).size + 1) = False := eq_false (Nat.not_lt.2 c13)
              try have c13b3 : (9223372036854775807 < x3_1.size + 8 + t320.size + 1) = False := by have h := c13b2; simp only [ByteArray.size_append] at h; exact h
              obtain rfl := Option.some.inj H
              have hcz14_0 : wr.cell? ⟨gb317, 0, none⟩ = some (.slice A0_0 l0_0.length c0_0) := (blk_cell BK317.out 0).trans rfl
              have hcz14_1 : wr.cell? ⟨gb317, 1, none⟩ = some (.int .u32 a0_1) := (blk_cell BK317.out 1).trans rfl
              have hfz14_0 := blk_frozen BK317.out 0
              have hfz14_1 := blk_frozen BK317.out 1
              go_wp2_with (first | ((with_reducible refine gate_callee (f := 33) rfl ?_); refine goesL_ (some 25) rfl rfl Try.func33 (by kernel_rfl) rfl #[.int .u32 a0_1] rfl (by (try simp only [List.map_toArray, List.map_cons, List.map_nil]); first | done | rfl | (simp only [List.length_drop, List.length_take]; rfl)) ?_; (with_reducible refine (hurdleref09_Action.calls k1 a0_1 t320 _ A11.out).mono ?_); rintro e w15 ⟨rfl, hb⟩; refine ⟨_, rfl, ?_⟩; have n0_ := Aside0.mk (blk_below (g := gb317) (o := .cells #[.slice A0_0 l0_0.length c0_0, .int .u32 a0_1] 25 (0, 0)) (by (with_reducible repeat (first | refine blk_drewN ?_ _ | refine blk_drew ?_ | refine blk_alloc ?_ _)); exact BK317.out) hb); have n1_ := Aside0.mk (below_step (by repeat (first | (with_reducible first | exact HB.out | apply below_alloc | apply pw_below_drewN | apply below_drew1 | refine below_set ?_ GE317.out) | exact HB.out)) hb); clear BK317; clear HB; have BK317 := n0_; have HB := n1_; clear n0_ n1_; (try clear hb); (try clear hb2); (try clear hk); (try clear hi)))
              go_ret
              exact ⟨by first | rfl | (simp [errW_none, errW_some] <;> rfl) | (simp [*, errW_none, errW_some] <;> rfl), by repeat (first | (with_reducible first | exact HB.out | apply below_alloc | apply pw_below_drewN | apply below_drew1 | refine below_set ?_ GE317.out) | exact HB.out)⟩
            · rw [if_neg c13] at H
              exact absurd H (by simp)
          · rw [if_neg c12] at H
            exact absurd H (by simp)
        · rw [if_neg c10] at H
          exact absurd H (by simp)
def hurdlelaw10_PolicyPrints.f (k : Nat) (l0_0 : List (S40)) (a0_1 : Int) : Option (Bool) := (hurdlelaw10_Great.f k l0_0 a0_1).bind fun t322 => (if t322 = true then ((hurdlelaw10_knows.f k).bind fun t323 => (some t323)) else ((policy_Print.f k l0_0 a0_1).bind fun bt324 => ((hurdleref10_Right.f k l0_0 a0_1).bind fun t326 => ((policy_Right.f k l0_0 a0_1).bind fun t327 => (if (t327 != t326) = true then (some false) else (if t326 = true then ((hurdleref10_Print.f k l0_0 a0_1).bind fun t328 => (if bt324.1.toList = t328.toList then (if bt324.2 = 0 then ((hurdlelaw10_knows.f k).bind fun t329 => (some t329)) else (some false)) else (some false))) else (if bt324.1.toList = ([] : List UInt8) then (if bt324.2 = 1 then ((hurdlelaw10_knows.f k).bind fun t330 => (some t330)) else (some false)) else (some false))))))))
set_option maxHeartbeats 8000000 in
set_option maxRecDepth 100000 in
theorem hurdlelaw10_PolicyPrints.calls (k : Nat) (A0_0 : Option Addr) (c0_0 : Nat) (l0_0 : List (S40)) (a0_1 : Int) (r : Bool) (w : World) (hr0_0 : Kd.C k40 w A0_0 l0_0.length l0_0) (hc0_0 : l0_0.length ≤ c0_0) (h : hurdlelaw10_PolicyPrints.f k l0_0 a0_1 = some r) :
    Calls Try.prog 3 #[.agg #[.slice A0_0 l0_0.length c0_0, .int .u32 a0_1]] w fun e w' => e = .returned (.bool r) ∧ Below w.heap.size w w' := by
  have hu25 := Try.underlying25
  have HR0_0 := Aside0.mk hr0_0
  have HC0_0 := Aside0.mk hc0_0
  clear hr0_0 hc0_0
  have HB := Aside0.mk (Below.refl w.heap.size w)
  have H : ((hurdlelaw10_Great.f k l0_0 a0_1).bind fun t322 => (if t322 = true then ((hurdlelaw10_knows.f k).bind fun t323 => (some t323)) else ((policy_Print.f k l0_0 a0_1).bind fun bt324 => ((hurdleref10_Right.f k l0_0 a0_1).bind fun t326 => ((policy_Right.f k l0_0 a0_1).bind fun t327 => (if (t327 != t326) = true then (some false) else (if t326 = true then ((hurdleref10_Print.f k l0_0 a0_1).bind fun t328 => (if bt324.1.toList = t328.toList then (if bt324.2 = 0 then ((hurdlelaw10_knows.f k).bind fun t329 => (some t329)) else (some false)) else (some false))) else (if bt324.1.toList = ([] : List UInt8) then (if bt324.2 = 1 then ((hurdlelaw10_knows.f k).bind fun t330 => (some t330)) else (some false)) else (some false))))))))) = some r := h
  clear h
  replace H := Option.bind_eq_some_iff.mp H
  obtain ⟨t322, A20, H⟩ := H
  replace H : (if t322 = true then ((hurdlelaw10_knows.f k).bind fun t323 => (some t323)) else ((policy_Print.f k l0_0 a0_1).bind fun bt324 => ((hurdleref10_Right.f k l0_0 a0_1).bind fun t326 => ((policy_Right.f k l0_0 a0_1).bind fun t327 => (if (t327 != t326) = true then (some false) else (if t326 = true then ((hurdleref10_Print.f k l0_0 a0_1).bind fun t328 => (if bt324.1.toList = t328.toList then (if bt324.2 = 0 then ((hurdlelaw10_knows.f k).bind fun t329 => (some t329)) else (some false)) else (some false))) else (if bt324.1.toList = ([] : List UInt8) then (if bt324.2 = 1 then ((hurdlelaw10_knows.f k).bind fun t330 => (some t330)) else (some false)) else (some false)))))))) = some r := H
  have A2 := Aside0.mk A20
  clear A20
  by_cases c3 : t322 = true
  · subst c3
    have H1 : ((hurdlelaw10_knows.f k).bind fun t323 => (some t323)) = some r := by rw [if_pos rfl] at H; exact H
    clear H
    have H := H1
    clear H1
    replace H := Option.bind_eq_some_iff.mp H
    obtain ⟨t323, A40, H⟩ := H
    replace H : (some t323) = some r := H
    have A4 := Aside0.mk A40
    clear A40
    obtain rfl := Option.some.inj H
    go_enter Try.func3, Try.ntmps3
    go_wp2_with (first | ((with_reducible refine gate_dst (N := 1) rfl ?_); refine box_event ?hg (N := 1) ?hd (cs := #[.slice A0_0 l0_0.length c0_0, .int .u32 a0_1]) (t := 25) ?hr ?_; (case hd => rfl); (case hg => rfl); (case hr => first | (go_simp; done) | (go_simp; rfl)); intro gb321 hg w5 hbox hb; have n0_ := Aside0.mk (below_step (by repeat (first | (with_reducible first | exact HB.out | apply below_alloc | apply pw_below_drewN | apply below_drew1) | exact HB.out)) hb); have n1_ := Aside0.mk (hbox); have n2_ := Aside0.mk ((by rw [hg]; exact (below_size (by repeat (first | (with_reducible first | exact HB.out | apply below_alloc | apply pw_below_drewN | apply below_drew1) | exact HB.out))) : w.heap.size ≤ gb321)); have n3_ := Aside0.mk ((by rw [hg]; exact (below_size (by repeat (first | (with_reducible first | exact HB.out | apply below_alloc | apply pw_below_drewN | apply below_drew1) | exact HB.out))) : w.heap.size ≤ gb321)); clear HB; have HB := n0_; have BK321 := n1_; have GW321 := n2_; have GE321 := n3_; clear n0_ n1_ n2_ n3_; clear hb hbox hg; have hcz6_0 : w5.cell? ⟨gb321, 0, none⟩ = some (.slice A0_0 l0_0.length c0_0) := (blk_cell BK321.out 0).trans rfl; have hcz6_1 : w5.cell? ⟨gb321, 1, none⟩ = some (.int .u32 a0_1) := (blk_cell BK321.out 1).trans rfl; have hfz6_0 := blk_frozen BK321.out 0; have hfz6_1 := blk_frozen BK321.out 1) | ((with_reducible refine gate_callee (f := 14) rfl ?_); refine goesL_ (some 7) rfl rfl Try.func14 (by kernel_rfl) rfl #[.agg #[.slice A0_0 l0_0.length c0_0, .int .u32 a0_1]] rfl (by (try simp only [List.map_toArray, List.map_cons, List.map_nil]); first | done | rfl | (simp only [List.length_drop, List.length_take]; rfl)) ?_; (with_reducible refine (hurdlelaw10_Great.calls k _ _ l0_0 a0_1 true _ ?side1 ?side2 A2.out).mono ?_); (case side1 => repeat (first | exact (Kd.C_below HR0_0.out HB.out) | (with_reducible refine Kd.C_alloc ?_ _) | (with_reducible refine Kd.C_drewN ?_ _) | (with_reducible refine Kd.C_drew ?_))); (case side2 => exact HC0_0.out); rintro e w7 ⟨rfl, hb⟩; refine ⟨_, rfl, ?_⟩; have n0_ := Aside0.mk (blk_below (g := gb321) (o := .cells #[.slice A0_0 l0_0.length c0_0, .int .u32 a0_1] 25 (0, 0)) (by (with_reducible repeat (first | refine blk_drewN ?_ _ | refine blk_drew ?_ | refine blk_alloc ?_ _)); exact BK321.out) hb); have n1_ := Aside0.mk (below_step (by repeat (first | (with_reducible first | exact HB.out | apply below_alloc | apply pw_below_drewN | apply below_drew1 | refine below_set ?_ GE321.out) | exact HB.out)) hb); clear BK321; clear HB; have BK321 := n0_; have HB := n1_; clear n0_ n1_; (try clear hb); (try clear hb2); (try clear hk); (try clear hi)) | ((with_reducible refine gate_callee (f := 15) rfl ?_); refine goesL_ (some 8) rfl rfl Try.func15 (by kernel_rfl) rfl #[] rfl (by (try simp only [List.map_toArray, List.map_cons, List.map_nil]); first | done | rfl | (simp only [List.length_drop, List.length_take]; rfl)) ?_; (with_reducible refine (hurdlelaw10_knows.calls k  t323 _ A4.out).mono ?_); rintro e w8 ⟨rfl, hb⟩; refine ⟨_, rfl, ?_⟩; have n0_ := Aside0.mk (blk_below (g := gb321) (o := .cells #[.slice A0_0 l0_0.length c0_0, .int .u32 a0_1] 25 (0, 0)) (by (with_reducible repeat (first | refine blk_drewN ?_ _ | refine blk_drew ?_ | refine blk_alloc ?_ _)); exact BK321.out) hb); have n1_ := Aside0.mk (below_step (by repeat (first | (with_reducible first | exact HB.out | apply below_alloc | apply pw_below_drewN | apply below_drew1 | refine below_set ?_ GE321.out) | exact HB.out)) hb); clear BK321; clear HB; have BK321 := n0_; have HB := n1_; clear n0_ n1_; (try clear hb); (try clear hb2); (try clear hk); (try clear hi)))
    go_ret
    exact ⟨by first | rfl | (simp [errW_none, errW_some] <;> rfl) | (simp [*, errW_none, errW_some] <;> rfl), by repeat (first | (with_reducible first | exact HB.out | apply below_alloc | apply pw_below_drewN | apply below_drew1 | refine below_set ?_ GE321.out) | exact HB.out)⟩
  · replace c3 := Bool.eq_false_iff.mpr c3
    subst c3
    have H1 : ((policy_Print.f k l0_0 a0_1).bind fun bt324 => ((hurdleref10_Right.f k l0_0 a0_1).bind fun t326 => ((policy_Right.f k l0_0 a0_1).bind fun t327 => (if (t327 != t326) = true then (some false) else (if t326 = true then ((hurdleref10_Print.f k l0_0 a0_1).bind fun t328 => (if bt324.1.toList = t328.toList then (if bt324.2 = 0 then ((hurdlelaw10_knows.f k).bind fun t329 => (some t329)) else (some false)) else (some false))) else (if bt324.1.toList = ([] : List UInt8) then (if bt324.2 = 1 then ((hurdlelaw10_knows.f k).bind fun t330 => (some t330)) else (some false)) else (some false))))))) = some r := by rw [if_neg (show ¬ (false = true) by decide)] at H; exact H
    clear H
    have H := H1
    clear H1
    replace H := Option.bind_eq_some_iff.mp H
    obtain ⟨⟨t324, t325⟩, A90, H⟩ := H
    replace H : ((hurdleref10_Right.f k l0_0 a0_1).bind fun t326 => ((policy_Right.f k l0_0 a0_1).bind fun t327 => (if (t327 != t326) = true then (some false) else (if t326 = true then ((hurdleref10_Print.f k l0_0 a0_1).bind fun t328 => (if t324.toList = t328.toList then (if t325 = 0 then ((hurdlelaw10_knows.f k).bind fun t329 => (some t329)) else (some false)) else (some false))) else (if t324.toList = ([] : List UInt8) then (if t325 = 1 then ((hurdlelaw10_knows.f k).bind fun t330 => (some t330)) else (some false)) else (some false)))))) = some r := H
    have A9 := Aside0.mk A90
    clear A90
    replace H := Option.bind_eq_some_iff.mp H
    obtain ⟨t326, A100, H⟩ := H
    replace H : ((policy_Right.f k l0_0 a0_1).bind fun t327 => (if (t327 != t326) = true then (some false) else (if t326 = true then ((hurdleref10_Print.f k l0_0 a0_1).bind fun t328 => (if t324.toList = t328.toList then (if t325 = 0 then ((hurdlelaw10_knows.f k).bind fun t329 => (some t329)) else (some false)) else (some false))) else (if t324.toList = ([] : List UInt8) then (if t325 = 1 then ((hurdlelaw10_knows.f k).bind fun t330 => (some t330)) else (some false)) else (some false))))) = some r := H
    have A10 := Aside0.mk A100
    clear A100
    replace H := Option.bind_eq_some_iff.mp H
    obtain ⟨t327, A110, H⟩ := H
    replace H : (if (t327 != t326) = true then (some false) else (if t326 = true then ((hurdleref10_Print.f k l0_0 a0_1).bind fun t328 => (if t324.toList = t328.toList then (if t325 = 0 then ((hurdlelaw10_knows.f k).bind fun t329 => (some t329)) else (some false)) else (some false))) else (if t324.toList = ([] : List UInt8) then (if t325 = 1 then ((hurdlelaw10_knows.f k).bind fun t330 => (some t330)) else (some false)) else (some false)))) = some r := H
    have A11 := Aside0.mk A110
    clear A110
    by_cases c12 : (t327 != t326) = true
    · rw [if_pos c12] at H
      have c12b0 : (t327 != t326) = true := c12
      (try (have c12b1 : decide (t327 = t326) = false := by simpa using c12))
      (try (have c12b2 : (t327 == t326) = false := by simpa using c12))
      (try (have c12b3 : ¬ (t327 = t326) := by simpa using c12))
      clear c12
      obtain rfl := Option.some.inj H
      go_enter Try.func3, Try.ntmps3
      go_wp2_with (first | ((with_reducible refine gate_dst (N := 1) rfl ?_); refine box_event ?hg (N := 1) ?hd (cs := #[.slice A0_0 l0_0.length c0_0, .int .u32 a0_1]) (t := 25) ?hr ?_; (case hd => rfl); (case hg => rfl); (case hr => first | (go_simp; done) | (go_simp; rfl)); intro gb321 hg w13 hbox hb; have n0_ := Aside0.mk (below_step (by repeat (first | (with_reducible first | exact HB.out | apply below_alloc | apply pw_below_drewN | apply below_drew1) | exact HB.out)) hb); have n1_ := Aside0.mk (hbox); have n2_ := Aside0.mk ((by rw [hg]; exact (below_size (by repeat (first | (with_reducible first | exact HB.out | apply below_alloc | apply pw_below_drewN | apply below_drew1) | exact HB.out))) : w.heap.size ≤ gb321)); have n3_ := Aside0.mk ((by rw [hg]; exact (below_size (by repeat (first | (with_reducible first | exact HB.out | apply below_alloc | apply pw_below_drewN | apply below_drew1) | exact HB.out))) : w.heap.size ≤ gb321)); clear HB; have HB := n0_; have BK321 := n1_; have GW321 := n2_; have GE321 := n3_; clear n0_ n1_ n2_ n3_; clear hb hbox hg; have hcz14_0 : w13.cell? ⟨gb321, 0, none⟩ = some (.slice A0_0 l0_0.length c0_0) := (blk_cell BK321.out 0).trans rfl; have hcz14_1 : w13.cell? ⟨gb321, 1, none⟩ = some (.int .u32 a0_1) := (blk_cell BK321.out 1).trans rfl; have hfz14_0 := blk_frozen BK321.out 0; have hfz14_1 := blk_frozen BK321.out 1) | ((with_reducible refine gate_callee (f := 14) rfl ?_); refine goesL_ (some 7) rfl rfl Try.func14 (by kernel_rfl) rfl #[.agg #[.slice A0_0 l0_0.length c0_0, .int .u32 a0_1]] rfl (by (try simp only [List.map_toArray, List.map_cons, List.map_nil]); first | done | rfl | (simp only [List.length_drop, List.length_take]; rfl)) ?_; (with_reducible refine (hurdlelaw10_Great.calls k _ _ l0_0 a0_1 false _ ?side1 ?side2 A2.out).mono ?_); (case side1 => repeat (first | exact (Kd.C_below HR0_0.out HB.out) | (with_reducible refine Kd.C_alloc ?_ _) | (with_reducible refine Kd.C_drewN ?_ _) | (with_reducible refine Kd.C_drew ?_))); (case side2 => exact HC0_0.out); rintro e w15 ⟨rfl, hb⟩; refine ⟨_, rfl, ?_⟩; have n0_ := Aside0.mk (blk_below (g := gb321) (o := .cells #[.slice A0_0 l0_0.length c0_0, .int .u32 a0_1] 25 (0, 0)) (by (with_reducible repeat (first | refine blk_drewN ?_ _ | refine blk_drew ?_ | refine blk_alloc ?_ _)); exact BK321.out) hb); have n1_ := Aside0.mk (below_step (by repeat (first | (with_reducible first | exact HB.out | apply below_alloc | apply pw_below_drewN | apply below_drew1 | refine below_set ?_ GE321.out) | exact HB.out)) hb); clear BK321; clear HB; have BK321 := n0_; have HB := n1_; clear n0_ n1_; (try clear hb); (try clear hb2); (try clear hk); (try clear hi); have hcz16_0 : w15.cell? ⟨gb321, 0, none⟩ = some (.slice A0_0 l0_0.length c0_0) := (blk_cell BK321.out 0).trans rfl; have hcz16_1 : w15.cell? ⟨gb321, 1, none⟩ = some (.int .u32 a0_1) := (blk_cell BK321.out 1).trans rfl; have hfz16_0 := blk_frozen BK321.out 0; have hfz16_1 := blk_frozen BK321.out 1) | ((with_reducible refine gate_callee (f := 16) rfl ?_); refine goesL_ (some 11) rfl rfl Try.func16 (by kernel_rfl) rfl #[.agg #[.slice A0_0 l0_0.length c0_0, .int .u32 a0_1]] rfl (by (try simp only [List.map_toArray, List.map_cons, List.map_nil]); first | done | rfl | (simp only [List.length_drop, List.length_take]; rfl)) ?_; (with_reducible refine (policy_Print.calls k _ _ l0_0 a0_1 t324 t325 _ ?side1 ?side2 A9.out).mono ?_); (case side1 => repeat (first | exact (Kd.C_below HR0_0.out HB.out) | (with_reducible refine Kd.C_alloc ?_ _) | (with_reducible refine Kd.C_drewN ?_ _) | (with_reducible refine Kd.C_drew ?_))); (case side2 => exact HC0_0.out); rintro e w17 ⟨rfl, hb⟩; refine ⟨_, rfl, ?_⟩; have n0_ := Aside0.mk (blk_below (g := gb321) (o := .cells #[.slice A0_0 l0_0.length c0_0, .int .u32 a0_1] 25 (0, 0)) (by (with_reducible repeat (first | refine blk_drewN ?_ _ | refine blk_drew ?_ | refine blk_alloc ?_ _)); exact BK321.out) hb); have n1_ := Aside0.mk (below_step (by repeat (first | (with_reducible first | exact HB.out | apply below_alloc | apply pw_below_drewN | apply below_drew1 | refine below_set ?_ GE321.out) | exact HB.out)) hb); clear BK321; clear HB; have BK321 := n0_; have HB := n1_; clear n0_ n1_; (try clear hb); (try clear hb2); (try clear hk); (try clear hi); have hcz18_0 : w17.cell? ⟨gb321, 0, none⟩ = some (.slice A0_0 l0_0.length c0_0) := (blk_cell BK321.out 0).trans rfl; have hcz18_1 : w17.cell? ⟨gb321, 1, none⟩ = some (.int .u32 a0_1) := (blk_cell BK321.out 1).trans rfl; have hfz18_0 := blk_frozen BK321.out 0; have hfz18_1 := blk_frozen BK321.out 1) | ((with_reducible refine gate_callee (f := 17) rfl ?_); refine goesL_ (some 15) rfl rfl Try.func17 (by kernel_rfl) rfl #[.agg #[.slice A0_0 l0_0.length c0_0, .int .u32 a0_1]] rfl (by (try simp only [List.map_toArray, List.map_cons, List.map_nil]); first | done | rfl | (simp only [List.length_drop, List.length_take]; rfl)) ?_; (with_reducible refine (hurdleref10_Right.calls k _ _ l0_0 a0_1 t326 _ ?side1 ?side2 A10.out).mono ?_); (case side1 => repeat (first | exact (Kd.C_below HR0_0.out HB.out) | (with_reducible refine Kd.C_alloc ?_ _) | (with_reducible refine Kd.C_drewN ?_ _) | (with_reducible refine Kd.C_drew ?_))); (case side2 => exact HC0_0.out); rintro e w19 ⟨rfl, hb⟩; refine ⟨_, rfl, ?_⟩; have n0_ := Aside0.mk (blk_below (g := gb321) (o := .cells #[.slice A0_0 l0_0.length c0_0, .int .u32 a0_1] 25 (0, 0)) (by (with_reducible repeat (first | refine blk_drewN ?_ _ | refine blk_drew ?_ | refine blk_alloc ?_ _)); exact BK321.out) hb); have n1_ := Aside0.mk (below_step (by repeat (first | (with_reducible first | exact HB.out | apply below_alloc | apply pw_below_drewN | apply below_drew1 | refine below_set ?_ GE321.out) | exact HB.out)) hb); clear BK321; clear HB; have BK321 := n0_; have HB := n1_; clear n0_ n1_; (try clear hb); (try clear hb2); (try clear hk); (try clear hi); have hcz20_0 : w19.cell? ⟨gb321, 0, none⟩ = some (.slice A0_0 l0_0.length c0_0) := (blk_cell BK321.out 0).trans rfl; have hcz20_1 : w19.cell? ⟨gb321, 1, none⟩ = some (.int .u32 a0_1) := (blk_cell BK321.out 1).trans rfl; have hfz20_0 := blk_frozen BK321.out 0; have hfz20_1 := blk_frozen BK321.out 1) | ((with_reducible refine gate_callee (f := 18) rfl ?_); refine goesL_ (some 17) rfl rfl Try.func18 (by kernel_rfl) rfl #[.agg #[.slice A0_0 l0_0.length c0_0, .int .u32 a0_1]] rfl (by (try simp only [List.map_toArray, List.map_cons, List.map_nil]); first | done | rfl | (simp only [List.length_drop, List.length_take]; rfl)) ?_; (with_reducible refine (policy_Right.calls k _ _ l0_0 a0_1 t327 _ ?side1 ?side2 A11.out).mono ?_); (case side1 => repeat (first | exact (Kd.C_below HR0_0.out HB.out) | (with_reducible refine Kd.C_alloc ?_ _) | (with_reducible refine Kd.C_drewN ?_ _) | (with_reducible refine Kd.C_drew ?_))); (case side2 => exact HC0_0.out); rintro e w21 ⟨rfl, hb⟩; refine ⟨_, rfl, ?_⟩; have n0_ := Aside0.mk (blk_below (g := gb321) (o := .cells #[.slice A0_0 l0_0.length c0_0, .int .u32 a0_1] 25 (0, 0)) (by (with_reducible repeat (first | refine blk_drewN ?_ _ | refine blk_drew ?_ | refine blk_alloc ?_ _)); exact BK321.out) hb); have n1_ := Aside0.mk (below_step (by repeat (first | (with_reducible first | exact HB.out | apply below_alloc | apply pw_below_drewN | apply below_drew1 | refine below_set ?_ GE321.out) | exact HB.out)) hb); clear BK321; clear HB; have BK321 := n0_; have HB := n1_; clear n0_ n1_; (try clear hb); (try clear hb2); (try clear hk); (try clear hi)))
      go_ret
      exact ⟨by first | rfl | (simp [errW_none, errW_some] <;> rfl) | (simp [*, errW_none, errW_some] <;> rfl), by repeat (first | (with_reducible first | exact HB.out | apply below_alloc | apply pw_below_drewN | apply below_drew1 | refine below_set ?_ GE321.out) | exact HB.out)⟩
    · rw [if_neg c12] at H
      have c12b0 : (t327 != t326) = false := by simpa using c12
      (try (have c12b1 : decide (t327 = t326) = true := by simpa using c12))
      (try (have c12b2 : (t327 == t326) = true := by simpa using c12))
      clear c12
      by_cases c22 : t326 = true
      · subst c22
        have H1 : ((hurdleref10_Print.f k l0_0 a0_1).bind fun t328 => (if t324.toList = t328.toList then (if t325 = 0 then ((hurdlelaw10_knows.f k).bind fun t329 => (some t329)) else (some false)) else (some false))) = some r := by rw [if_pos rfl] at H; exact H
        clear H
        have H := H1
        clear H1
        replace H := Option.bind_eq_some_iff.mp H
        obtain ⟨t328, A230, H⟩ := H
        replace H : (if t324.toList = t328.toList then (if t325 = 0 then ((hurdlelaw10_knows.f k).bind fun t329 => (some t329)) else (some false)) else (some false)) = some r := H
        have A23 := Aside0.mk A230
        clear A230
        by_cases c24 : t324.toList = t328.toList
        · rw [if_pos c24] at H
          have c24b0 : (t324.toList == t328.toList) = true := beq_iff_eq.mpr c24
          have c24b1 : (t324.toList != t328.toList) = false := bne_eq_false_iff_eq.mpr c24
          clear c24
          by_cases c25 : t325 = 0
          · rw [if_pos c25] at H
            have c25b0 : (t325 == 0) = true := beq_iff_eq.mpr c25
            have c25b1 : (t325 != 0) = false := bne_eq_false_iff_eq.mpr c25
            clear c25
            replace H := Option.bind_eq_some_iff.mp H
            obtain ⟨t329, A260, H⟩ := H
            replace H : (some t329) = some r := H
            have A26 := Aside0.mk A260
            clear A260
            obtain rfl := Option.some.inj H
            go_enter Try.func3, Try.ntmps3
            go_wp2_with (first | ((with_reducible refine gate_dst (N := 1) rfl ?_); refine box_event ?hg (N := 1) ?hd (cs := #[.slice A0_0 l0_0.length c0_0, .int .u32 a0_1]) (t := 25) ?hr ?_; (case hd => rfl); (case hg => rfl); (case hr => first | (go_simp; done) | (go_simp; rfl)); intro gb321 hg w27 hbox hb; have n0_ := Aside0.mk (below_step (by repeat (first | (with_reducible first | exact HB.out | apply below_alloc | apply pw_below_drewN | apply below_drew1) | exact HB.out)) hb); have n1_ := Aside0.mk (hbox); have n2_ := Aside0.mk ((by rw [hg]; exact (below_size (by repeat (first | (with_reducible first | exact HB.out | apply below_alloc | apply pw_below_drewN | apply below_drew1) | exact HB.out))) : w.heap.size ≤ gb321)); have n3_ := Aside0.mk ((by rw [hg]; exact (below_size (by repeat (first | (with_reducible first | exact HB.out | apply below_alloc | apply pw_below_drewN | apply below_drew1) | exact HB.out))) : w.heap.size ≤ gb321)); clear HB; have HB := n0_; have BK321 := n1_; have GW321 := n2_; have GE321 := n3_; clear n0_ n1_ n2_ n3_; clear hb hbox hg; have hcz28_0 : w27.cell? ⟨gb321, 0, none⟩ = some (.slice A0_0 l0_0.length c0_0) := (blk_cell BK321.out 0).trans rfl; have hcz28_1 : w27.cell? ⟨gb321, 1, none⟩ = some (.int .u32 a0_1) := (blk_cell BK321.out 1).trans rfl; have hfz28_0 := blk_frozen BK321.out 0; have hfz28_1 := blk_frozen BK321.out 1) | ((with_reducible refine gate_callee (f := 14) rfl ?_); refine goesL_ (some 7) rfl rfl Try.func14 (by kernel_rfl) rfl #[.agg #[.slice A0_0 l0_0.length c0_0, .int .u32 a0_1]] rfl (by (try simp only [List.map_toArray, List.map_cons, List.map_nil]); first | done | rfl | (simp only [List.length_drop, List.length_take]; rfl)) ?_; (with_reducible refine (hurdlelaw10_Great.calls k _ _ l0_0 a0_1 false _ ?side1 ?side2 A2.out).mono ?_); (case side1 => repeat (first | exact (Kd.C_below HR0_0.out HB.out) | (with_reducible refine Kd.C_alloc ?_ _) | (with_reducible refine Kd.C_drewN ?_ _) | (with_reducible refine Kd.C_drew ?_))); (case side2 => exact HC0_0.out); rintro e w29 ⟨rfl, hb⟩; refine ⟨_, rfl, ?_⟩; have n0_ := Aside0.mk (blk_below (g := gb321) (o := .cells #[.slice A0_0 l0_0.length c0_0, .int .u32 a0_1] 25 (0, 0)) (by (with_reducible repeat (first | refine blk_drewN ?_ _ | refine blk_drew ?_ | refine blk_alloc ?_ _)); exact BK321.out) hb); have n1_ := Aside0.mk (below_step (by repeat (first | (with_reducible first | exact HB.out | apply below_alloc | apply pw_below_drewN | apply below_drew1 | refine below_set ?_ GE321.out) | exact HB.out)) hb); clear BK321; clear HB; have BK321 := n0_; have HB := n1_; clear n0_ n1_; (try clear hb); (try clear hb2); (try clear hk); (try clear hi); have hcz30_0 : w29.cell? ⟨gb321, 0, none⟩ = some (.slice A0_0 l0_0.length c0_0) := (blk_cell BK321.out 0).trans rfl; have hcz30_1 : w29.cell? ⟨gb321, 1, none⟩ = some (.int .u32 a0_1) := (blk_cell BK321.out 1).trans rfl; have hfz30_0 := blk_frozen BK321.out 0; have hfz30_1 := blk_frozen BK321.out 1) | ((with_reducible refine gate_callee (f := 16) rfl ?_); refine goesL_ (some 11) rfl rfl Try.func16 (by kernel_rfl) rfl #[.agg #[.slice A0_0 l0_0.length c0_0, .int .u32 a0_1]] rfl (by (try simp only [List.map_toArray, List.map_cons, List.map_nil]); first | done | rfl | (simp only [List.length_drop, List.length_take]; rfl)) ?_; (with_reducible refine (policy_Print.calls k _ _ l0_0 a0_1 t324 t325 _ ?side1 ?side2 A9.out).mono ?_); (case side1 => repeat (first | exact (Kd.C_below HR0_0.out HB.out) | (with_reducible refine Kd.C_alloc ?_ _) | (with_reducible refine Kd.C_drewN ?_ _) | (with_reducible refine Kd.C_drew ?_))); (case side2 => exact HC0_0.out); rintro e w31 ⟨rfl, hb⟩; refine ⟨_, rfl, ?_⟩; have n0_ := Aside0.mk (blk_below (g := gb321) (o := .cells #[.slice A0_0 l0_0.length c0_0, .int .u32 a0_1] 25 (0, 0)) (by (with_reducible repeat (first | refine blk_drewN ?_ _ | refine blk_drew ?_ | refine blk_alloc ?_ _)); exact BK321.out) hb); have n1_ := Aside0.mk (below_step (by repeat (first | (with_reducible first | exact HB.out | apply below_alloc | apply pw_below_drewN | apply below_drew1 | refine below_set ?_ GE321.out) | exact HB.out)) hb); clear BK321; clear HB; have BK321 := n0_; have HB := n1_; clear n0_ n1_; (try clear hb); (try clear hb2); (try clear hk); (try clear hi); have hcz32_0 : w31.cell? ⟨gb321, 0, none⟩ = some (.slice A0_0 l0_0.length c0_0) := (blk_cell BK321.out 0).trans rfl; have hcz32_1 : w31.cell? ⟨gb321, 1, none⟩ = some (.int .u32 a0_1) := (blk_cell BK321.out 1).trans rfl; have hfz32_0 := blk_frozen BK321.out 0; have hfz32_1 := blk_frozen BK321.out 1) | ((with_reducible refine gate_callee (f := 17) rfl ?_); refine goesL_ (some 15) rfl rfl Try.func17 (by kernel_rfl) rfl #[.agg #[.slice A0_0 l0_0.length c0_0, .int .u32 a0_1]] rfl (by (try simp only [List.map_toArray, List.map_cons, List.map_nil]); first | done | rfl | (simp only [List.length_drop, List.length_take]; rfl)) ?_; (with_reducible refine (hurdleref10_Right.calls k _ _ l0_0 a0_1 true _ ?side1 ?side2 A10.out).mono ?_); (case side1 => repeat (first | exact (Kd.C_below HR0_0.out HB.out) | (with_reducible refine Kd.C_alloc ?_ _) | (with_reducible refine Kd.C_drewN ?_ _) | (with_reducible refine Kd.C_drew ?_))); (case side2 => exact HC0_0.out); rintro e w33 ⟨rfl, hb⟩; refine ⟨_, rfl, ?_⟩; have n0_ := Aside0.mk (blk_below (g := gb321) (o := .cells #[.slice A0_0 l0_0.length c0_0, .int .u32 a0_1] 25 (0, 0)) (by (with_reducible repeat (first | refine blk_drewN ?_ _ | refine blk_drew ?_ | refine blk_alloc ?_ _)); exact BK321.out) hb); have n1_ := Aside0.mk (below_step (by repeat (first | (with_reducible first | exact HB.out | apply below_alloc | apply pw_below_drewN | apply below_drew1 | refine below_set ?_ GE321.out) | exact HB.out)) hb); clear BK321; clear HB; have BK321 := n0_; have HB := n1_; clear n0_ n1_; (try clear hb); (try clear hb2); (try clear hk); (try clear hi); have hcz34_0 : w33.cell? ⟨gb321, 0, none⟩ = some (.slice A0_0 l0_0.length c0_0) := (blk_cell BK321.out 0).trans rfl; have hcz34_1 : w33.cell? ⟨gb321, 1, none⟩ = some (.int .u32 a0_1) := (blk_cell BK321.out 1).trans rfl; have hfz34_0 := blk_frozen BK321.out 0; have hfz34_1 := blk_frozen BK321.out 1) | ((with_reducible refine gate_callee (f := 18) rfl ?_); refine goesL_ (some 17) rfl rfl Try.func18 (by kernel_rfl) rfl #[.agg #[.slice A0_0 l0_0.length c0_0, .int .u32 a0_1]] rfl (by (try simp only [List.map_toArray, List.map_cons, List.map_nil]); first | done | rfl | (simp only [List.length_drop, List.length_take]; rfl)) ?_; (with_reducible refine (policy_Right.calls k _ _ l0_0 a0_1 t327 _ ?side1 ?side2 A11.out).mono ?_); (case side1 => repeat (first | exact (Kd.C_below HR0_0.out HB.out) | (with_reducible refine Kd.C_alloc ?_ _) | (with_reducible refine Kd.C_drewN ?_ _) | (with_reducible refine Kd.C_drew ?_))); (case side2 => exact HC0_0.out); rintro e w35 ⟨rfl, hb⟩; refine ⟨_, rfl, ?_⟩; have n0_ := Aside0.mk (blk_below (g := gb321) (o := .cells #[.slice A0_0 l0_0.length c0_0, .int .u32 a0_1] 25 (0, 0)) (by (with_reducible repeat (first | refine blk_drewN ?_ _ | refine blk_drew ?_ | refine blk_alloc ?_ _)); exact BK321.out) hb); have n1_ := Aside0.mk (below_step (by repeat (first | (with_reducible first | exact HB.out | apply below_alloc | apply pw_below_drewN | apply below_drew1 | refine below_set ?_ GE321.out) | exact HB.out)) hb); clear BK321; clear HB; have BK321 := n0_; have HB := n1_; clear n0_ n1_; (try clear hb); (try clear hb2); (try clear hk); (try clear hi); have hcz36_0 : w35.cell? ⟨gb321, 0, none⟩ = some (.slice A0_0 l0_0.length c0_0) := (blk_cell BK321.out 0).trans rfl; have hcz36_1 : w35.cell? ⟨gb321, 1, none⟩ = some (.int .u32 a0_1) := (blk_cell BK321.out 1).trans rfl; have hfz36_0 := blk_frozen BK321.out 0; have hfz36_1 := blk_frozen BK321.out 1) | ((with_reducible refine gate_callee (f := 19) rfl ?_); refine goesL_ (some 33) rfl rfl Try.func19 (by kernel_rfl) rfl #[.agg #[.slice A0_0 l0_0.length c0_0, .int .u32 a0_1]] rfl (by (try simp only [List.map_toArray, List.map_cons, List.map_nil]); first | done | rfl | (simp only [List.length_drop, List.length_take]; rfl)) ?_; (with_reducible refine (hurdleref10_Print.calls k _ _ l0_0 a0_1 t328 _ ?side1 ?side2 A23.out).mono ?_); (case side1 => repeat (first | exact (Kd.C_below HR0_0.out HB.out) | (with_reducible refine Kd.C_alloc ?_ _) | (with_reducible refine Kd.C_drewN ?_ _) | (with_reducible refine Kd.C_drew ?_))); (case side2 => exact HC0_0.out); rintro e w37 ⟨rfl, hb⟩; refine ⟨_, rfl, ?_⟩; have n0_ := Aside0.mk (blk_below (g := gb321) (o := .cells #[.slice A0_0 l0_0.length c0_0, .int .u32 a0_1] 25 (0, 0)) (by (with_reducible repeat (first | refine blk_drewN ?_ _ | refine blk_drew ?_ | refine blk_alloc ?_ _)); exact BK321.out) hb); have n1_ := Aside0.mk (below_step (by repeat (first | (with_reducible first | exact HB.out | apply below_alloc | apply pw_below_drewN | apply below_drew1 | refine below_set ?_ GE321.out) | exact HB.out)) hb); clear BK321; clear HB; have BK321 := n0_; have HB := n1_; clear n0_ n1_; (try clear hb); (try clear hb2); (try clear hk); (try clear hi)) | (go_at_call 15; (with_reducible refine (hurdlelaw10_knows.calls k  t329 _ A26.out).mono ?_); rintro e w38 ⟨rfl, hb⟩; have n0_ := Aside0.mk (blk_below (g := gb321) (o := .cells #[.slice A0_0 l0_0.length c0_0, .int .u32 a0_1] 25 (0, 0)) (by (with_reducible repeat (first | refine blk_drewN ?_ _ | refine blk_drew ?_ | refine blk_alloc ?_ _)); exact BK321.out) hb); have n1_ := Aside0.mk (below_step (by repeat (first | (with_reducible first | exact HB.out | apply below_alloc | apply pw_below_drewN | apply below_drew1 | refine below_set ?_ GE321.out) | exact HB.out)) hb); clear BK321; clear HB; have BK321 := n0_; have HB := n1_; clear n0_ n1_; (try clear hb); (try clear hb2); (try clear hk); (try clear hi)))
            go_ret
            exact ⟨by first | rfl | (simp [errW_none, errW_some] <;> rfl) | (simp [*, errW_none, errW_some] <;> rfl), by repeat (first | (with_reducible first | exact HB.out | apply below_alloc | apply pw_below_drewN | apply below_drew1 | refine below_set ?_ GE321.out) | exact HB.out)⟩
          · rw [if_neg c25] at H
            have c25b0 : (t325 == 0) = false := beq_eq_false_iff_ne.mpr c25
            have c25b1 : (t325 != 0) = true := bne_iff_ne.mpr c25
            obtain rfl := Option.some.inj H
            go_enter Try.func3, Try.ntmps3
            go_wp2_with (first | ((with_reducible refine gate_dst (N := 1) rfl ?_); refine box_event ?hg (N := 1) ?hd (cs := #[.slice A0_0 l0_0.length c0_0, .int .u32 a0_1]) (t := 25) ?hr ?_; (case hd => rfl); (case hg => rfl); (case hr => first | (go_simp; done) | (go_simp; rfl)); intro gb321 hg w39 hbox hb; have n0_ := Aside0.mk (below_step (by repeat (first | (with_reducible first | exact HB.out | apply below_alloc | apply pw_below_drewN | apply below_drew1) | exact HB.out)) hb); have n1_ := Aside0.mk (hbox); have n2_ := Aside0.mk ((by rw [hg]; exact (below_size (by repeat (first | (with_reducible first | exact HB.out | apply below_alloc | apply pw_below_drewN | apply below_drew1) | exact HB.out))) : w.heap.size ≤ gb321)); have n3_ := Aside0.mk ((by rw [hg]; exact (below_size (by repeat (first | (with_reducible first | exact HB.out | apply below_alloc | apply pw_below_drewN | apply below_drew1) | exact HB.out))) : w.heap.size ≤ gb321)); clear HB; have HB := n0_; have BK321 := n1_; have GW321 := n2_; have GE321 := n3_; clear n0_ n1_ n2_ n3_; clear hb hbox hg; have hcz40_0 : w39.cell? ⟨gb321, 0, none⟩ = some (.slice A0_0 l0_0.length c0_0) := (blk_cell BK321.out 0).trans rfl; have hcz40_1 : w39.cell? ⟨gb321, 1, none⟩ = some (.int .u32 a0_1) := (blk_cell BK321.out 1).trans rfl; have hfz40_0 := blk_frozen BK321.out 0; have hfz40_1 := blk_frozen BK321.out 1) | ((with_reducible refine gate_callee (f := 14) rfl ?_); refine goesL_ (some 7) rfl rfl Try.func14 (by kernel_rfl) rfl #[.agg #[.slice A0_0 l0_0.length c0_0, .int .u32 a0_1]] rfl (by (try simp only [List.map_toArray, List.map_cons, List.map_nil]); first | done | rfl | (simp only [List.length_drop, List.length_take]; rfl)) ?_; (with_reducible refine (hurdlelaw10_Great.calls k _ _ l0_0 a0_1 false _ ?side1 ?side2 A2.out).mono ?_); (case side1 => repeat (first | exact (Kd.C_below HR0_0.out HB.out) | (with_reducible refine Kd.C_alloc ?_ _) | (with_reducible refine Kd.C_drewN ?_ _) | (with_reducible refine Kd.C_drew ?_))); (case side2 => exact HC0_0.out); rintro e w41 ⟨rfl, hb⟩; refine ⟨_, rfl, ?_⟩; have n0_ := Aside0.mk (blk_below (g := gb321) (o := .cells #[.slice A0_0 l0_0.length c0_0, .int .u32 a0_1] 25 (0, 0)) (by (with_reducible repeat (first | refine blk_drewN ?_ _ | refine blk_drew ?_ | refine blk_alloc ?_ _)); exact BK321.out) hb); have n1_ := Aside0.mk (below_step (by repeat (first | (with_reducible first | exact HB.out | apply below_alloc | apply pw_below_drewN | apply below_drew1 | refine below_set ?_ GE321.out) | exact HB.out)) hb); clear BK321; clear HB; have BK321 := n0_; have HB := n1_; clear n0_ n1_; (try clear hb); (try clear hb2); (try clear hk); (try clear hi); have hcz42_0 : w41.cell? ⟨gb321, 0, none⟩ = some (.slice A0_0 l0_0.length c0_0) := (blk_cell BK321.out 0).trans rfl; have hcz42_1 : w41.cell? ⟨gb321, 1, none⟩ = some (.int .u32 a0_1) := (blk_cell BK321.out 1).trans rfl; have hfz42_0 := blk_frozen BK321.out 0; have hfz42_1 := blk_frozen BK321.out 1) | ((with_reducible refine gate_callee (f := 16) rfl ?_); refine goesL_ (some 11) rfl rfl Try.func16 (by kernel_rfl) rfl #[.agg #[.slice A0_0 l0_0.length c0_0, .int .u32 a0_1]] rfl (by (try simp only [List.map_toArray, List.map_cons, List.map_nil]); first | done | rfl | (simp only [List.length_drop, List.length_take]; rfl)) ?_; (with_reducible refine (policy_Print.calls k _ _ l0_0 a0_1 t324 t325 _ ?side1 ?side2 A9.out).mono ?_); (case side1 => repeat (first | exact (Kd.C_below HR0_0.out HB.out) | (with_reducible refine Kd.C_alloc ?_ _) | (with_reducible refine Kd.C_drewN ?_ _) | (with_reducible refine Kd.C_drew ?_))); (case side2 => exact HC0_0.out); rintro e w43 ⟨rfl, hb⟩; refine ⟨_, rfl, ?_⟩; have n0_ := Aside0.mk (blk_below (g := gb321) (o := .cells #[.slice A0_0 l0_0.length c0_0, .int .u32 a0_1] 25 (0, 0)) (by (with_reducible repeat (first | refine blk_drewN ?_ _ | refine blk_drew ?_ | refine blk_alloc ?_ _)); exact BK321.out) hb); have n1_ := Aside0.mk (below_step (by repeat (first | (with_reducible first | exact HB.out | apply below_alloc | apply pw_below_drewN | apply below_drew1 | refine below_set ?_ GE321.out) | exact HB.out)) hb); clear BK321; clear HB; have BK321 := n0_; have HB := n1_; clear n0_ n1_; (try clear hb); (try clear hb2); (try clear hk); (try clear hi); have hcz44_0 : w43.cell? ⟨gb321, 0, none⟩ = some (.slice A0_0 l0_0.length c0_0) := (blk_cell BK321.out 0).trans rfl; have hcz44_1 : w43.cell? ⟨gb321, 1, none⟩ = some (.int .u32 a0_1) := (blk_cell BK321.out 1).trans rfl; have hfz44_0 := blk_frozen BK321.out 0; have hfz44_1 := blk_frozen BK321.out 1) | ((with_reducible refine gate_callee (f := 17) rfl ?_); refine goesL_ (some 15) rfl rfl Try.func17 (by kernel_rfl) rfl #[.agg #[.slice A0_0 l0_0.length c0_0, .int .u32 a0_1]] rfl (by (try simp only [List.map_toArray, List.map_cons, List.map_nil]); first | done | rfl | (simp only [List.length_drop, List.length_take]; rfl)) ?_; (with_reducible refine (hurdleref10_Right.calls k _ _ l0_0 a0_1 true _ ?side1 ?side2 A10.out).mono ?_); (case side1 => repeat (first | exact (Kd.C_below HR0_0.out HB.out) | (with_reducible refine Kd.C_alloc ?_ _) | (with_reducible refine Kd.C_drewN ?_ _) | (with_reducible refine Kd.C_drew ?_))); (case side2 => exact HC0_0.out); rintro e w45 ⟨rfl, hb⟩; refine ⟨_, rfl, ?_⟩; have n0_ := Aside0.mk (blk_below (g := gb321) (o := .cells #[.slice A0_0 l0_0.length c0_0, .int .u32 a0_1] 25 (0, 0)) (by (with_reducible repeat (first | refine blk_drewN ?_ _ | refine blk_drew ?_ | refine blk_alloc ?_ _)); exact BK321.out) hb); have n1_ := Aside0.mk (below_step (by repeat (first | (with_reducible first | exact HB.out | apply below_alloc | apply pw_below_drewN | apply below_drew1 | refine below_set ?_ GE321.out) | exact HB.out)) hb); clear BK321; clear HB; have BK321 := n0_; have HB := n1_; clear n0_ n1_; (try clear hb); (try clear hb2); (try clear hk); (try clear hi); have hcz46_0 : w45.cell? ⟨gb321, 0, none⟩ = some (.slice A0_0 l0_0.length c0_0) := (blk_cell BK321.out 0).trans rfl; have hcz46_1 : w45.cell? ⟨gb321, 1, none⟩ = some (.int .u32 a0_1) := (blk_cell BK321.out 1).trans rfl; have hfz46_0 := blk_frozen BK321.out 0; have hfz46_1 := blk_frozen BK321.out 1) | ((with_reducible refine gate_callee (f := 18) rfl ?_); refine goesL_ (some 17) rfl rfl Try.func18 (by kernel_rfl) rfl #[.agg #[.slice A0_0 l0_0.length c0_0, .int .u32 a0_1]] rfl (by (try simp only [List.map_toArray, List.map_cons, List.map_nil]); first | done | rfl | (simp only [List.length_drop, List.length_take]; rfl)) ?_; (with_reducible refine (policy_Right.calls k _ _ l0_0 a0_1 t327 _ ?side1 ?side2 A11.out).mono ?_); (case side1 => repeat (first | exact (Kd.C_below HR0_0.out HB.out) | (with_reducible refine Kd.C_alloc ?_ _) | (with_reducible refine Kd.C_drewN ?_ _) | (with_reducible refine Kd.C_drew ?_))); (case side2 => exact HC0_0.out); rintro e w47 ⟨rfl, hb⟩; refine ⟨_, rfl, ?_⟩; have n0_ := Aside0.mk (blk_below (g := gb321) (o := .cells #[.slice A0_0 l0_0.length c0_0, .int .u32 a0_1] 25 (0, 0)) (by (with_reducible repeat (first | refine blk_drewN ?_ _ | refine blk_drew ?_ | refine blk_alloc ?_ _)); exact BK321.out) hb); have n1_ := Aside0.mk (below_step (by repeat (first | (with_reducible first | exact HB.out | apply below_alloc | apply pw_below_drewN | apply below_drew1 | refine below_set ?_ GE321.out) | exact HB.out)) hb); clear BK321; clear HB; have BK321 := n0_; have HB := n1_; clear n0_ n1_; (try clear hb); (try clear hb2); (try clear hk); (try clear hi); have hcz48_0 : w47.cell? ⟨gb321, 0, none⟩ = some (.slice A0_0 l0_0.length c0_0) := (blk_cell BK321.out 0).trans rfl; have hcz48_1 : w47.cell? ⟨gb321, 1, none⟩ = some (.int .u32 a0_1) := (blk_cell BK321.out 1).trans rfl; have hfz48_0 := blk_frozen BK321.out 0; have hfz48_1 := blk_frozen BK321.out 1) | ((with_reducible refine gate_callee (f := 19) rfl ?_); refine goesL_ (some 33) rfl rfl Try.func19 (by kernel_rfl) rfl #[.agg #[.slice A0_0 l0_0.length c0_0, .int .u32 a0_1]] rfl (by (try simp only [List.map_toArray, List.map_cons, List.map_nil]); first | done | rfl | (simp only [List.length_drop, List.length_take]; rfl)) ?_; (with_reducible refine (hurdleref10_Print.calls k _ _ l0_0 a0_1 t328 _ ?side1 ?side2 A23.out).mono ?_); (case side1 => repeat (first | exact (Kd.C_below HR0_0.out HB.out) | (with_reducible refine Kd.C_alloc ?_ _) | (with_reducible refine Kd.C_drewN ?_ _) | (with_reducible refine Kd.C_drew ?_))); (case side2 => exact HC0_0.out); rintro e w49 ⟨rfl, hb⟩; refine ⟨_, rfl, ?_⟩; have n0_ := Aside0.mk (blk_below (g := gb321) (o := .cells #[.slice A0_0 l0_0.length c0_0, .int .u32 a0_1] 25 (0, 0)) (by (with_reducible repeat (first | refine blk_drewN ?_ _ | refine blk_drew ?_ | refine blk_alloc ?_ _)); exact BK321.out) hb); have n1_ := Aside0.mk (below_step (by repeat (first | (with_reducible first | exact HB.out | apply below_alloc | apply pw_below_drewN | apply below_drew1 | refine below_set ?_ GE321.out) | exact HB.out)) hb); clear BK321; clear HB; have BK321 := n0_; have HB := n1_; clear n0_ n1_; (try clear hb); (try clear hb2); (try clear hk); (try clear hi)))
            go_ret
            exact ⟨by first | rfl | (simp [errW_none, errW_some] <;> rfl) | (simp [*, errW_none, errW_some] <;> rfl), by repeat (first | (with_reducible first | exact HB.out | apply below_alloc | apply pw_below_drewN | apply below_drew1 | refine below_set ?_ GE321.out) | exact HB.out)⟩
        · rw [if_neg c24] at H
          have c24b0 : (t324.toList == t328.toList) = false := beq_eq_false_iff_ne.mpr c24
          have c24b1 : (t324.toList != t328.toList) = true := bne_iff_ne.mpr c24
          obtain rfl := Option.some.inj H
          go_enter Try.func3, Try.ntmps3
          go_wp2_with (first | ((with_reducible refine gate_dst (N := 1) rfl ?_); refine box_event ?hg (N := 1) ?hd (cs := #[.slice A0_0 l0_0.length c0_0, .int .u32 a0_1]) (t := 25) ?hr ?_; (case hd => rfl); (case hg => rfl); (case hr => first | (go_simp; done) | (go_simp; rfl)); intro gb321 hg w50 hbox hb; have n0_ := Aside0.mk (below_step (by repeat (first | (with_reducible first | exact HB.out | apply below_alloc | apply pw_below_drewN | apply below_drew1) | exact HB.out)) hb); have n1_ := Aside0.mk (hbox); have n2_ := Aside0.mk ((by rw [hg]; exact (below_size (by repeat (first | (with_reducible first | exact HB.out | apply below_alloc | apply pw_below_drewN | apply below_drew1) | exact HB.out))) : w.heap.size ≤ gb321)); have n3_ := Aside0.mk ((by rw [hg]; exact (below_size (by repeat (first | (with_reducible first | exact HB.out | apply below_alloc | apply pw_below_drewN | apply below_drew1) | exact HB.out))) : w.heap.size ≤ gb321)); clear HB; have HB := n0_; have BK321 := n1_; have GW321 := n2_; have GE321 := n3_; clear n0_ n1_ n2_ n3_; clear hb hbox hg; have hcz51_0 : w50.cell? ⟨gb321, 0, none⟩ = some (.slice A0_0 l0_0.length c0_0) := (blk_cell BK321.out 0).trans rfl; have hcz51_1 : w50.cell? ⟨gb321, 1, none⟩ = some (.int .u32 a0_1) := (blk_cell BK321.out 1).trans rfl; have hfz51_0 := blk_frozen BK321.out 0; have hfz51_1 := blk_frozen BK321.out 1) | ((with_reducible refine gate_callee (f := 14) rfl ?_); refine goesL_ (some 7) rfl rfl Try.func14 (by kernel_rfl) rfl #[.agg #[.slice A0_0 l0_0.length c0_0, .int .u32 a0_1]] rfl (by (try simp only [List.map_toArray, List.map_cons, List.map_nil]); first | done | rfl | (simp only [List.length_drop, List.length_take]; rfl)) ?_; (with_reducible refine (hurdlelaw10_Great.calls k _ _ l0_0 a0_1 false _ ?side1 ?side2 A2.out).mono ?_); (case side1 => repeat (first | exact (Kd.C_below HR0_0.out HB.out) | (with_reducible refine Kd.C_alloc ?_ _) | (with_reducible refine Kd.C_drewN ?_ _) | (with_reducible refine Kd.C_drew ?_))); (case side2 => exact HC0_0.out); rintro e w52 ⟨rfl, hb⟩; refine ⟨_, rfl, ?_⟩; have n0_ := Aside0.mk (blk_below (g := gb321) (o := .cells #[.slice A0_0 l0_0.length c0_0, .int .u32 a0_1] 25 (0, 0)) (by (with_reducible repeat (first | refine blk_drewN ?_ _ | refine blk_drew ?_ | refine blk_alloc ?_ _)); exact BK321.out) hb); have n1_ := Aside0.mk (below_step (by repeat (first | (with_reducible first | exact HB.out | apply below_alloc | apply pw_below_drewN | apply below_drew1 | refine below_set ?_ GE321.out) | exact HB.out)) hb); clear BK321; clear HB; have BK321 := n0_; have HB := n1_; clear n0_ n1_; (try clear hb); (try clear hb2); (try clear hk); (try clear hi); have hcz53_0 : w52.cell? ⟨gb321, 0, none⟩ = some (.slice A0_0 l0_0.length c0_0) := (blk_cell BK321.out 0).trans rfl; have hcz53_1 : w52.cell? ⟨gb321, 1, none⟩ = some (.int .u32 a0_1) := (blk_cell BK321.out 1).trans rfl; have hfz53_0 := blk_frozen BK321.out 0; have hfz53_1 := blk_frozen BK321.out 1) | ((with_reducible refine gate_callee (f := 16) rfl ?_); refine goesL_ (some 11) rfl rfl Try.func16 (by kernel_rfl) rfl #[.agg #[.slice A0_0 l0_0.length c0_0, .int .u32 a0_1]] rfl (by (try simp only [List.map_toArray, List.map_cons, List.map_nil]); first | done | rfl | (simp only [List.length_drop, List.length_take]; rfl)) ?_; (with_reducible refine (policy_Print.calls k _ _ l0_0 a0_1 t324 t325 _ ?side1 ?side2 A9.out).mono ?_); (case side1 => repeat (first | exact (Kd.C_below HR0_0.out HB.out) | (with_reducible refine Kd.C_alloc ?_ _) | (with_reducible refine Kd.C_drewN ?_ _) | (with_reducible refine Kd.C_drew ?_))); (case side2 => exact HC0_0.out); rintro e w54 ⟨rfl, hb⟩; refine ⟨_, rfl, ?_⟩; have n0_ := Aside0.mk (blk_below (g := gb321) (o := .cells #[.slice A0_0 l0_0.length c0_0, .int .u32 a0_1] 25 (0, 0)) (by (with_reducible repeat (first | refine blk_drewN ?_ _ | refine blk_drew ?_ | refine blk_alloc ?_ _)); exact BK321.out) hb); have n1_ := Aside0.mk (below_step (by repeat (first | (with_reducible first | exact HB.out | apply below_alloc | apply pw_below_drewN | apply below_drew1 | refine below_set ?_ GE321.out) | exact HB.out)) hb); clear BK321; clear HB; have BK321 := n0_; have HB := n1_; clear n0_ n1_; (try clear hb); (try clear hb2); (try clear hk); (try clear hi); have hcz55_0 : w54.cell? ⟨gb321, 0, none⟩ = some (.slice A0_0 l0_0.length c0_0) := (blk_cell BK321.out 0).trans rfl; have hcz55_1 : w54.cell? ⟨gb321, 1, none⟩ = some (.int .u32 a0_1) := (blk_cell BK321.out 1).trans rfl; have hfz55_0 := blk_frozen BK321.out 0; have hfz55_1 := blk_frozen BK321.out 1) | ((with_reducible refine gate_callee (f := 17) rfl ?_); refine goesL_ (some 15) rfl rfl Try.func17 (by kernel_rfl) rfl #[.agg #[.slice A0_0 l0_0.length c0_0, .int .u32 a0_1]] rfl (by (try simp only [List.map_toArray, List.map_cons, List.map_nil]); first | done | rfl | (simp only [List.length_drop, List.length_take]; rfl)) ?_; (with_reducible refine (hurdleref10_Right.calls k _ _ l0_0 a0_1 true _ ?side1 ?side2 A10.out).mono ?_); (case side1 => repeat (first | exact (Kd.C_below HR0_0.out HB.out) | (with_reducible refine Kd.C_alloc ?_ _) | (with_reducible refine Kd.C_drewN ?_ _) | (with_reducible refine Kd.C_drew ?_))); (case side2 => exact HC0_0.out); rintro e w56 ⟨rfl, hb⟩; refine ⟨_, rfl, ?_⟩; have n0_ := Aside0.mk (blk_below (g := gb321) (o := .cells #[.slice A0_0 l0_0.length c0_0, .int .u32 a0_1] 25 (0, 0)) (by (with_reducible repeat (first | refine blk_drewN ?_ _ | refine blk_drew ?_ | refine blk_alloc ?_ _)); exact BK321.out) hb); have n1_ := Aside0.mk (below_step (by repeat (first | (with_reducible first | exact HB.out | apply below_alloc | apply pw_below_drewN | apply below_drew1 | refine below_set ?_ GE321.out) | exact HB.out)) hb); clear BK321; clear HB; have BK321 := n0_; have HB := n1_; clear n0_ n1_; (try clear hb); (try clear hb2); (try clear hk); (try clear hi); have hcz57_0 : w56.cell? ⟨gb321, 0, none⟩ = some (.slice A0_0 l0_0.length c0_0) := (blk_cell BK321.out 0).trans rfl; have hcz57_1 : w56.cell? ⟨gb321, 1, none⟩ = some (.int .u32 a0_1) := (blk_cell BK321.out 1).trans rfl; have hfz57_0 := blk_frozen BK321.out 0; have hfz57_1 := blk_frozen BK321.out 1) | ((with_reducible refine gate_callee (f := 18) rfl ?_); refine goesL_ (some 17) rfl rfl Try.func18 (by kernel_rfl) rfl #[.agg #[.slice A0_0 l0_0.length c0_0, .int .u32 a0_1]] rfl (by (try simp only [List.map_toArray, List.map_cons, List.map_nil]); first | done | rfl | (simp only [List.length_drop, List.length_take]; rfl)) ?_; (with_reducible refine (policy_Right.calls k _ _ l0_0 a0_1 t327 _ ?side1 ?side2 A11.out).mono ?_); (case side1 => repeat (first | exact (Kd.C_below HR0_0.out HB.out) | (with_reducible refine Kd.C_alloc ?_ _) | (with_reducible refine Kd.C_drewN ?_ _) | (with_reducible refine Kd.C_drew ?_))); (case side2 => exact HC0_0.out); rintro e w58 ⟨rfl, hb⟩; refine ⟨_, rfl, ?_⟩; have n0_ := Aside0.mk (blk_below (g := gb321) (o := .cells #[.slice A0_0 l0_0.length c0_0, .int .u32 a0_1] 25 (0, 0)) (by (with_reducible repeat (first | refine blk_drewN ?_ _ | refine blk_drew ?_ | refine blk_alloc ?_ _)); exact BK321.out) hb); have n1_ := Aside0.mk (below_step (by repeat (first | (with_reducible first | exact HB.out | apply below_alloc | apply pw_below_drewN | apply below_drew1 | refine below_set ?_ GE321.out) | exact HB.out)) hb); clear BK321; clear HB; have BK321 := n0_; have HB := n1_; clear n0_ n1_; (try clear hb); (try clear hb2); (try clear hk); (try clear hi); have hcz59_0 : w58.cell? ⟨gb321, 0, none⟩ = some (.slice A0_0 l0_0.length c0_0) := (blk_cell BK321.out 0).trans rfl; have hcz59_1 : w58.cell? ⟨gb321, 1, none⟩ = some (.int .u32 a0_1) := (blk_cell BK321.out 1).trans rfl; have hfz59_0 := blk_frozen BK321.out 0; have hfz59_1 := blk_frozen BK321.out 1) | ((with_reducible refine gate_callee (f := 19) rfl ?_); refine goesL_ (some 33) rfl rfl Try.func19 (by kernel_rfl) rfl #[.agg #[.slice A0_0 l0_0.length c0_0, .int .u32 a0_1]] rfl (by (try simp only [List.map_toArray, List.map_cons, List.map_nil]); first | done | rfl | (simp only [List.length_drop, List.length_take]; rfl)) ?_; (with_reducible refine (hurdleref10_Print.calls k _ _ l0_0 a0_1 t328 _ ?side1 ?side2 A23.out).mono ?_); (case side1 => repeat (first | exact (Kd.C_below HR0_0.out HB.out) | (with_reducible refine Kd.C_alloc ?_ _) | (with_reducible refine Kd.C_drewN ?_ _) | (with_reducible refine Kd.C_drew ?_))); (case side2 => exact HC0_0.out); rintro e w60 ⟨rfl, hb⟩; refine ⟨_, rfl, ?_⟩; have n0_ := Aside0.mk (blk_below (g := gb321) (o := .cells #[.slice A0_0 l0_0.length c0_0, .int .u32 a0_1] 25 (0, 0)) (by (with_reducible repeat (first | refine blk_drewN ?_ _ | refine blk_drew ?_ | refine blk_alloc ?_ _)); exact BK321.out) hb); have n1_ := Aside0.mk (below_step (by repeat (first | (with_reducible first | exact HB.out | apply below_alloc | apply pw_below_drewN | apply below_drew1 | refine below_set ?_ GE321.out) | exact HB.out)) hb); clear BK321; clear HB; have BK321 := n0_; have HB := n1_; clear n0_ n1_; (try clear hb); (try clear hb2); (try clear hk); (try clear hi)))
          go_ret
          exact ⟨by first | rfl | (simp [errW_none, errW_some] <;> rfl) | (simp [*, errW_none, errW_some] <;> rfl), by repeat (first | (with_reducible first | exact HB.out | apply below_alloc | apply pw_below_drewN | apply below_drew1 | refine below_set ?_ GE321.out) | exact HB.out)⟩
      · replace c22 := Bool.eq_false_iff.mpr c22
        subst c22
        have H1 : (if t324.toList = ([] : List UInt8) then (if t325 = 1 then ((hurdlelaw10_knows.f k).bind fun t330 => (some t330)) else (some false)) else (some false)) = some r := by rw [if_neg (show ¬ (false = true) by decide)] at H; exact H
        clear H
        have H := H1
        clear H1
        by_cases c61 : t324.toList = ([] : List UInt8)
        · rw [if_pos c61] at H
          have c61b0 : (t324.toList == ([] : List UInt8)) = true := beq_iff_eq.mpr c61
          have c61b1 : (t324.toList != ([] : List UInt8)) = false := bne_eq_false_iff_eq.mpr c61
          clear c61
          by_cases c62 : t325 = 1
          · rw [if_pos c62] at H
            have c62b0 : (t325 == 1) = true := beq_iff_eq.mpr c62
            have c62b1 : (t325 != 1) = false := bne_eq_false_iff_eq.mpr c62
            clear c62
            replace H := Option.bind_eq_some_iff.mp H
            obtain ⟨t330, A630, H⟩ := H
            replace H : (some t330) = some r := H
            have A63 := Aside0.mk A630
            clear A630
            obtain rfl := Option.some.inj H
            go_enter Try.func3, Try.ntmps3
            go_wp2_with (first | ((with_reducible refine gate_dst (N := 1) rfl ?_); refine box_event ?hg (N := 1) ?hd (cs := #[.slice A0_0 l0_0.length c0_0, .int .u32 a0_1]) (t := 25) ?hr ?_; (case hd => rfl); (case hg => rfl); (case hr => first | (go_simp; done) | (go_simp; rfl)); intro gb321 hg w64 hbox hb; have n0_ := Aside0.mk (below_step (by repeat (first | (with_reducible first | exact HB.out | apply below_alloc | apply pw_below_drewN | apply below_drew1) | exact HB.out)) hb); have n1_ := Aside0.mk (hbox); have n2_ := Aside0.mk ((by rw [hg]; exact (below_size (by repeat (first | (with_reducible first | exact HB.out | apply below_alloc | apply pw_below_drewN | apply below_drew1) | exact HB.out))) : w.heap.size ≤ gb321)); have n3_ := Aside0.mk ((by rw [hg]; exact (below_size (by repeat (first | (with_reducible first | exact HB.out | apply below_alloc | apply pw_below_drewN | apply below_drew1) | exact HB.out))) : w.heap.size ≤ gb321)); clear HB; have HB := n0_; have BK321 := n1_; have GW321 := n2_; have GE321 := n3_; clear n0_ n1_ n2_ n3_; clear hb hbox hg; have hcz65_0 : w64.cell? ⟨gb321, 0, none⟩ = some (.slice A0_0 l0_0.length c0_0) := (blk_cell BK321.out 0).trans rfl; have hcz65_1 : w64.cell? ⟨gb321, 1, none⟩ = some (.int .u32 a0_1) := (blk_cell BK321.out 1).trans rfl; have hfz65_0 := blk_frozen BK321.out 0; have hfz65_1 := blk_frozen BK321.out 1) | ((with_reducible refine gate_callee (f := 14) rfl ?_); refine goesL_ (some 7) rfl rfl Try.func14 (by kernel_rfl) rfl #[.agg #[.slice A0_0 l0_0.length c0_0, .int .u32 a0_1]] rfl (by (try simp only [List.map_toArray, List.map_cons, List.map_nil]); first | done | rfl | (simp only [List.length_drop, List.length_take]; rfl)) ?_; (with_reducible refine (hurdlelaw10_Great.calls k _ _ l0_0 a0_1 false _ ?side1 ?side2 A2.out).mono ?_); (case side1 => repeat (first | exact (Kd.C_below HR0_0.out HB.out) | (with_reducible refine Kd.C_alloc ?_ _) | (with_reducible refine Kd.C_drewN ?_ _) | (with_reducible refine Kd.C_drew ?_))); (case side2 => exact HC0_0.out); rintro e w66 ⟨rfl, hb⟩; refine ⟨_, rfl, ?_⟩; have n0_ := Aside0.mk (blk_below (g := gb321) (o := .cells #[.slice A0_0 l0_0.length c0_0, .int .u32 a0_1] 25 (0, 0)) (by (with_reducible repeat (first | refine blk_drewN ?_ _ | refine blk_drew ?_ | refine blk_alloc ?_ _)); exact BK321.out) hb); have n1_ := Aside0.mk (below_step (by repeat (first | (with_reducible first | exact HB.out | apply below_alloc | apply pw_below_drewN | apply below_drew1 | refine below_set ?_ GE321.out) | exact HB.out)) hb); clear BK321; clear HB; have BK321 := n0_; have HB := n1_; clear n0_ n1_; (try clear hb); (try clear hb2); (try clear hk); (try clear hi); have hcz67_0 : w66.cell? ⟨gb321, 0, none⟩ = some (.slice A0_0 l0_0.length c0_0) := (blk_cell BK321.out 0).trans rfl; have hcz67_1 : w66.cell? ⟨gb321, 1, none⟩ = some (.int .u32 a0_1) := (blk_cell BK321.out 1).trans rfl; have hfz67_0 := blk_frozen BK321.out 0; have hfz67_1 := blk_frozen BK321.out 1) | ((with_reducible refine gate_callee (f := 16) rfl ?_); refine goesL_ (some 11) rfl rfl Try.func16 (by kernel_rfl) rfl #[.agg #[.slice A0_0 l0_0.length c0_0, .int .u32 a0_1]] rfl (by (try simp only [List.map_toArray, List.map_cons, List.map_nil]); first | done | rfl | (simp only [List.length_drop, List.length_take]; rfl)) ?_; (with_reducible refine (policy_Print.calls k _ _ l0_0 a0_1 t324 t325 _ ?side1 ?side2 A9.out).mono ?_); (case side1 => repeat (first | exact (Kd.C_below HR0_0.out HB.out) | (with_reducible refine Kd.C_alloc ?_ _) | (with_reducible refine Kd.C_drewN ?_ _) | (with_reducible refine Kd.C_drew ?_))); (case side2 => exact HC0_0.out); rintro e w68 ⟨rfl, hb⟩; refine ⟨_, rfl, ?_⟩; have n0_ := Aside0.mk (blk_below (g := gb321) (o := .cells #[.slice A0_0 l0_0.length c0_0, .int .u32 a0_1] 25 (0, 0)) (by (with_reducible repeat (first | refine blk_drewN ?_ _ | refine blk_drew ?_ | refine blk_alloc ?_ _)); exact BK321.out) hb); have n1_ := Aside0.mk (below_step (by repeat (first | (with_reducible first | exact HB.out | apply below_alloc | apply pw_below_drewN | apply below_drew1 | refine below_set ?_ GE321.out) | exact HB.out)) hb); clear BK321; clear HB; have BK321 := n0_; have HB := n1_; clear n0_ n1_; (try clear hb); (try clear hb2); (try clear hk); (try clear hi); have hcz69_0 : w68.cell? ⟨gb321, 0, none⟩ = some (.slice A0_0 l0_0.length c0_0) := (blk_cell BK321.out 0).trans rfl; have hcz69_1 : w68.cell? ⟨gb321, 1, none⟩ = some (.int .u32 a0_1) := (blk_cell BK321.out 1).trans rfl; have hfz69_0 := blk_frozen BK321.out 0; have hfz69_1 := blk_frozen BK321.out 1) | ((with_reducible refine gate_callee (f := 17) rfl ?_); refine goesL_ (some 15) rfl rfl Try.func17 (by kernel_rfl) rfl #[.agg #[.slice A0_0 l0_0.length c0_0, .int .u32 a0_1]] rfl (by (try simp only [List.map_toArray, List.map_cons, List.map_nil]); first | done | rfl | (simp only [List.length_drop, List.length_take]; rfl)) ?_; (with_reducible refine (hurdleref10_Right.calls k _ _ l0_0 a0_1 false _ ?side1 ?side2 A10.out).mono ?_); (case side1 => repeat (first | exact (Kd.C_below HR0_0.out HB.out) | (with_reducible refine Kd.C_alloc ?_ _) | (with_reducible refine Kd.C_drewN ?_ _) | (with_reducible refine Kd.C_drew ?_))); (case side2 => exact HC0_0.out); rintro e w70 ⟨rfl, hb⟩; refine ⟨_, rfl, ?_⟩; have n0_ := Aside0.mk (blk_below (g := gb321) (o := .cells #[.slice A0_0 l0_0.length c0_0, .int .u32 a0_1] 25 (0, 0)) (by (with_reducible repeat (first | refine blk_drewN ?_ _ | refine blk_drew ?_ | refine blk_alloc ?_ _)); exact BK321.out) hb); have n1_ := Aside0.mk (below_step (by repeat (first | (with_reducible first | exact HB.out | apply below_alloc | apply pw_below_drewN | apply below_drew1 | refine below_set ?_ GE321.out) | exact HB.out)) hb); clear BK321; clear HB; have BK321 := n0_; have HB := n1_; clear n0_ n1_; (try clear hb); (try clear hb2); (try clear hk); (try clear hi); have hcz71_0 : w70.cell? ⟨gb321, 0, none⟩ = some (.slice A0_0 l0_0.length c0_0) := (blk_cell BK321.out 0).trans rfl; have hcz71_1 : w70.cell? ⟨gb321, 1, none⟩ = some (.int .u32 a0_1) := (blk_cell BK321.out 1).trans rfl; have hfz71_0 := blk_frozen BK321.out 0; have hfz71_1 := blk_frozen BK321.out 1) | ((with_reducible refine gate_callee (f := 18) rfl ?_); refine goesL_ (some 17) rfl rfl Try.func18 (by kernel_rfl) rfl #[.agg #[.slice A0_0 l0_0.length c0_0, .int .u32 a0_1]] rfl (by (try simp only [List.map_toArray, List.map_cons, List.map_nil]); first | done | rfl | (simp only [List.length_drop, List.length_take]; rfl)) ?_; (with_reducible refine (policy_Right.calls k _ _ l0_0 a0_1 t327 _ ?side1 ?side2 A11.out).mono ?_); (case side1 => repeat (first | exact (Kd.C_below HR0_0.out HB.out) | (with_reducible refine Kd.C_alloc ?_ _) | (with_reducible refine Kd.C_drewN ?_ _) | (with_reducible refine Kd.C_drew ?_))); (case side2 => exact HC0_0.out); rintro e w72 ⟨rfl, hb⟩; refine ⟨_, rfl, ?_⟩; have n0_ := Aside0.mk (blk_below (g := gb321) (o := .cells #[.slice A0_0 l0_0.length c0_0, .int .u32 a0_1] 25 (0, 0)) (by (with_reducible repeat (first | refine blk_drewN ?_ _ | refine blk_drew ?_ | refine blk_alloc ?_ _)); exact BK321.out) hb); have n1_ := Aside0.mk (below_step (by repeat (first | (with_reducible first | exact HB.out | apply below_alloc | apply pw_below_drewN | apply below_drew1 | refine below_set ?_ GE321.out) | exact HB.out)) hb); clear BK321; clear HB; have BK321 := n0_; have HB := n1_; clear n0_ n1_; (try clear hb); (try clear hb2); (try clear hk); (try clear hi)) | (go_at_call 15; (with_reducible refine (hurdlelaw10_knows.calls k  t330 _ A63.out).mono ?_); rintro e w73 ⟨rfl, hb⟩; have n0_ := Aside0.mk (blk_below (g := gb321) (o := .cells #[.slice A0_0 l0_0.length c0_0, .int .u32 a0_1] 25 (0, 0)) (by (with_reducible repeat (first | refine blk_drewN ?_ _ | refine blk_drew ?_ | refine blk_alloc ?_ _)); exact BK321.out) hb); have n1_ := Aside0.mk (below_step (by repeat (first | (with_reducible first | exact HB.out | apply below_alloc | apply pw_below_drewN | apply below_drew1 | refine below_set ?_ GE321.out) | exact HB.out)) hb); clear BK321; clear HB; have BK321 := n0_; have HB := n1_; clear n0_ n1_; (try clear hb); (try clear hb2); (try clear hk); (try clear hi)))
            go_ret
            exact ⟨by first | rfl | (simp [errW_none, errW_some] <;> rfl) | (simp [*, errW_none, errW_some] <;> rfl), by repeat (first | (with_reducible first | exact HB.out | apply below_alloc | apply pw_below_drewN | apply below_drew1 | refine below_set ?_ GE321.out) | exact HB.out)⟩
          · rw [if_neg c62] at H
            have c62b0 : (t325 == 1) = false := beq_eq_false_iff_ne.mpr c62
            have c62b1 : (t325 != 1) = true := bne_iff_ne.mpr c62
            obtain rfl := Option.some.inj H
            go_enter Try.func3, Try.ntmps3
            go_wp2_with (first | ((with_reducible refine gate_dst (N := 1) rfl ?_); refine box_event ?hg (N := 1) ?hd (cs := #[.slice A0_0 l0_0.length c0_0, .int .u32 a0_1]) (t := 25) ?hr ?_; (case hd => rfl); (case hg => rfl); (case hr => first | (go_simp; done) | (go_simp; rfl)); intro gb321 hg w74 hbox hb; have n0_ := Aside0.mk (below_step (by repeat (first | (with_reducible first | exact HB.out | apply below_alloc | apply pw_below_drewN | apply below_drew1) | exact HB.out)) hb); have n1_ := Aside0.mk (hbox); have n2_ := Aside0.mk ((by rw [hg]; exact (below_size (by repeat (first | (with_reducible first | exact HB.out | apply below_alloc | apply pw_below_drewN | apply below_drew1) | exact HB.out))) : w.heap.size ≤ gb321)); have n3_ := Aside0.mk ((by rw [hg]; exact (below_size (by repeat (first | (with_reducible first | exact HB.out | apply below_alloc | apply pw_below_drewN | apply below_drew1) | exact HB.out))) : w.heap.size ≤ gb321)); clear HB; have HB := n0_; have BK321 := n1_; have GW321 := n2_; have GE321 := n3_; clear n0_ n1_ n2_ n3_; clear hb hbox hg; have hcz75_0 : w74.cell? ⟨gb321, 0, none⟩ = some (.slice A0_0 l0_0.length c0_0) := (blk_cell BK321.out 0).trans rfl; have hcz75_1 : w74.cell? ⟨gb321, 1, none⟩ = some (.int .u32 a0_1) := (blk_cell BK321.out 1).trans rfl; have hfz75_0 := blk_frozen BK321.out 0; have hfz75_1 := blk_frozen BK321.out 1) | ((with_reducible refine gate_callee (f := 14) rfl ?_); refine goesL_ (some 7) rfl rfl Try.func14 (by kernel_rfl) rfl #[.agg #[.slice A0_0 l0_0.length c0_0, .int .u32 a0_1]] rfl (by (try simp only [List.map_toArray, List.map_cons, List.map_nil]); first | done | rfl | (simp only [List.length_drop, List.length_take]; rfl)) ?_; (with_reducible refine (hurdlelaw10_Great.calls k _ _ l0_0 a0_1 false _ ?side1 ?side2 A2.out).mono ?_); (case side1 => repeat (first | exact (Kd.C_below HR0_0.out HB.out) | (with_reducible refine Kd.C_alloc ?_ _) | (with_reducible refine Kd.C_drewN ?_ _) | (with_reducible refine Kd.C_drew ?_))); (case side2 => exact HC0_0.out); rintro e w76 ⟨rfl, hb⟩; refine ⟨_, rfl, ?_⟩; have n0_ := Aside0.mk (blk_below (g := gb321) (o := .cells #[.slice A0_0 l0_0.length c0_0, .int .u32 a0_1] 25 (0, 0)) (by (with_reducible repeat (first | refine blk_drewN ?_ _ | refine blk_drew ?_ | refine blk_alloc ?_ _)); exact BK321.out) hb); have n1_ := Aside0.mk (below_step (by repeat (first | (with_reducible first | exact HB.out | apply below_alloc | apply pw_below_drewN | apply below_drew1 | refine below_set ?_ GE321.out) | exact HB.out)) hb); clear BK321; clear HB; have BK321 := n0_; have HB := n1_; clear n0_ n1_; (try clear hb); (try clear hb2); (try clear hk); (try clear hi); have hcz77_0 : w76.cell? ⟨gb321, 0, none⟩ = some (.slice A0_0 l0_0.length c0_0) := (blk_cell BK321.out 0).trans rfl; have hcz77_1 : w76.cell? ⟨gb321, 1, none⟩ = some (.int .u32 a0_1) := (blk_cell BK321.out 1).trans rfl; have hfz77_0 := blk_frozen BK321.out 0; have hfz77_1 := blk_frozen BK321.out 1) | ((with_reducible refine gate_callee (f := 16) rfl ?_); refine goesL_ (some 11) rfl rfl Try.func16 (by kernel_rfl) rfl #[.agg #[.slice A0_0 l0_0.length c0_0, .int .u32 a0_1]] rfl (by (try simp only [List.map_toArray, List.map_cons, List.map_nil]); first | done | rfl | (simp only [List.length_drop, List.length_take]; rfl)) ?_; (with_reducible refine (policy_Print.calls k _ _ l0_0 a0_1 t324 t325 _ ?side1 ?side2 A9.out).mono ?_); (case side1 => repeat (first | exact (Kd.C_below HR0_0.out HB.out) | (with_reducible refine Kd.C_alloc ?_ _) | (with_reducible refine Kd.C_drewN ?_ _) | (with_reducible refine Kd.C_drew ?_))); (case side2 => exact HC0_0.out); rintro e w78 ⟨rfl, hb⟩; refine ⟨_, rfl, ?_⟩; have n0_ := Aside0.mk (blk_below (g := gb321) (o := .cells #[.slice A0_0 l0_0.length c0_0, .int .u32 a0_1] 25 (0, 0)) (by (with_reducible repeat (first | refine blk_drewN ?_ _ | refine blk_drew ?_ | refine blk_alloc ?_ _)); exact BK321.out) hb); have n1_ := Aside0.mk (below_step (by repeat (first | (with_reducible first | exact HB.out | apply below_alloc | apply pw_below_drewN | apply below_drew1 | refine below_set ?_ GE321.out) | exact HB.out)) hb); clear BK321; clear HB; have BK321 := n0_; have HB := n1_; clear n0_ n1_; (try clear hb); (try clear hb2); (try clear hk); (try clear hi); have hcz79_0 : w78.cell? ⟨gb321, 0, none⟩ = some (.slice A0_0 l0_0.length c0_0) := (blk_cell BK321.out 0).trans rfl; have hcz79_1 : w78.cell? ⟨gb321, 1, none⟩ = some (.int .u32 a0_1) := (blk_cell BK321.out 1).trans rfl; have hfz79_0 := blk_frozen BK321.out 0; have hfz79_1 := blk_frozen BK321.out 1) | ((with_reducible refine gate_callee (f := 17) rfl ?_); refine goesL_ (some 15) rfl rfl Try.func17 (by kernel_rfl) rfl #[.agg #[.slice A0_0 l0_0.length c0_0, .int .u32 a0_1]] rfl (by (try simp only [List.map_toArray, List.map_cons, List.map_nil]); first | done | rfl | (simp only [List.length_drop, List.length_take]; rfl)) ?_; (with_reducible refine (hurdleref10_Right.calls k _ _ l0_0 a0_1 false _ ?side1 ?side2 A10.out).mono ?_); (case side1 => repeat (first | exact (Kd.C_below HR0_0.out HB.out) | (with_reducible refine Kd.C_alloc ?_ _) | (with_reducible refine Kd.C_drewN ?_ _) | (with_reducible refine Kd.C_drew ?_))); (case side2 => exact HC0_0.out); rintro e w80 ⟨rfl, hb⟩; refine ⟨_, rfl, ?_⟩; have n0_ := Aside0.mk (blk_below (g := gb321) (o := .cells #[.slice A0_0 l0_0.length c0_0, .int .u32 a0_1] 25 (0, 0)) (by (with_reducible repeat (first | refine blk_drewN ?_ _ | refine blk_drew ?_ | refine blk_alloc ?_ _)); exact BK321.out) hb); have n1_ := Aside0.mk (below_step (by repeat (first | (with_reducible first | exact HB.out | apply below_alloc | apply pw_below_drewN | apply below_drew1 | refine below_set ?_ GE321.out) | exact HB.out)) hb); clear BK321; clear HB; have BK321 := n0_; have HB := n1_; clear n0_ n1_; (try clear hb); (try clear hb2); (try clear hk); (try clear hi); have hcz81_0 : w80.cell? ⟨gb321, 0, none⟩ = some (.slice A0_0 l0_0.length c0_0) := (blk_cell BK321.out 0).trans rfl; have hcz81_1 : w80.cell? ⟨gb321, 1, none⟩ = some (.int .u32 a0_1) := (blk_cell BK321.out 1).trans rfl; have hfz81_0 := blk_frozen BK321.out 0; have hfz81_1 := blk_frozen BK321.out 1) | ((with_reducible refine gate_callee (f := 18) rfl ?_); refine goesL_ (some 17) rfl rfl Try.func18 (by kernel_rfl) rfl #[.agg #[.slice A0_0 l0_0.length c0_0, .int .u32 a0_1]] rfl (by (try simp only [List.map_toArray, List.map_cons, List.map_nil]); first | done | rfl | (simp only [List.length_drop, List.length_take]; rfl)) ?_; (with_reducible refine (policy_Right.calls k _ _ l0_0 a0_1 t327 _ ?side1 ?side2 A11.out).mono ?_); (case side1 => repeat (first | exact (Kd.C_below HR0_0.out HB.out) | (with_reducible refine Kd.C_alloc ?_ _) | (with_reducible refine Kd.C_drewN ?_ _) | (with_reducible refine Kd.C_drew ?_))); (case side2 => exact HC0_0.out); rintro e w82 ⟨rfl, hb⟩; refine ⟨_, rfl, ?_⟩; have n0_ := Aside0.mk (blk_below (g := gb321) (o := .cells #[.slice A0_0 l0_0.length c0_0, .int .u32 a0_1] 25 (0, 0)) (by (with_reducible repeat (first | refine blk_drewN ?_ _ | refine blk_drew ?_ | refine blk_alloc ?_ _)); exact BK321.out) hb); have n1_ := Aside0.mk (below_step (by repeat (first | (with_reducible first | exact HB.out | apply below_alloc | apply pw_below_drewN | apply below_drew1 | refine below_set ?_ GE321.out) | exact HB.out)) hb); clear BK321; clear HB; have BK321 := n0_; have HB := n1_; clear n0_ n1_; (try clear hb); (try clear hb2); (try clear hk); (try clear hi)))
            go_ret
            exact ⟨by first | rfl | (simp [errW_none, errW_some] <;> rfl) | (simp [*, errW_none, errW_some] <;> rfl), by repeat (first | (with_reducible first | exact HB.out | apply below_alloc | apply pw_below_drewN | apply below_drew1 | refine below_set ?_ GE321.out) | exact HB.out)⟩
        · rw [if_neg c61] at H
          have c61b0 : (t324.toList == ([] : List UInt8)) = false := beq_eq_false_iff_ne.mpr c61
          have c61b1 : (t324.toList != ([] : List UInt8)) = true := bne_iff_ne.mpr c61
          obtain rfl := Option.some.inj H
          go_enter Try.func3, Try.ntmps3
          go_wp2_with (first | ((with_reducible refine gate_dst (N := 1) rfl ?_); refine box_event ?hg (N := 1) ?hd (cs := #[.slice A0_0 l0_0.length c0_0, .int .u32 a0_1]) (t := 25) ?hr ?_; (case hd => rfl); (case hg => rfl); (case hr => first | (go_simp; done) | (go_simp; rfl)); intro gb321 hg w83 hbox hb; have n0_ := Aside0.mk (below_step (by repeat (first | (with_reducible first | exact HB.out | apply below_alloc | apply pw_below_drewN | apply below_drew1) | exact HB.out)) hb); have n1_ := Aside0.mk (hbox); have n2_ := Aside0.mk ((by rw [hg]; exact (below_size (by repeat (first | (with_reducible first | exact HB.out | apply below_alloc | apply pw_below_drewN | apply below_drew1) | exact HB.out))) : w.heap.size ≤ gb321)); have n3_ := Aside0.mk ((by rw [hg]; exact (below_size (by repeat (first | (with_reducible first | exact HB.out | apply below_alloc | apply pw_below_drewN | apply below_drew1) | exact HB.out))) : w.heap.size ≤ gb321)); clear HB; have HB := n0_; have BK321 := n1_; have GW321 := n2_; have GE321 := n3_; clear n0_ n1_ n2_ n3_; clear hb hbox hg; have hcz84_0 : w83.cell? ⟨gb321, 0, none⟩ = some (.slice A0_0 l0_0.length c0_0) := (blk_cell BK321.out 0).trans rfl; have hcz84_1 : w83.cell? ⟨gb321, 1, none⟩ = some (.int .u32 a0_1) := (blk_cell BK321.out 1).trans rfl; have hfz84_0 := blk_frozen BK321.out 0; have hfz84_1 := blk_frozen BK321.out 1) | ((with_reducible refine gate_callee (f := 14) rfl ?_); refine goesL_ (some 7) rfl rfl Try.func14 (by kernel_rfl) rfl #[.agg #[.slice A0_0 l0_0.length c0_0, .int .u32 a0_1]] rfl (by (try simp only [List.map_toArray, List.map_cons, List.map_nil]); first | done | rfl | (simp only [List.length_drop, List.length_take]; rfl)) ?_; (with_reducible refine (hurdlelaw10_Great.calls k _ _ l0_0 a0_1 false _ ?side1 ?side2 A2.out).mono ?_); (case side1 => repeat (first | exact (Kd.C_below HR0_0.out HB.out) | (with_reducible refine Kd.C_alloc ?_ _) | (with_reducible refine Kd.C_drewN ?_ _) | (with_reducible refine Kd.C_drew ?_))); (case side2 => exact HC0_0.out); rintro e w85 ⟨rfl, hb⟩; refine ⟨_, rfl, ?_⟩; have n0_ := Aside0.mk (blk_below (g := gb321) (o := .cells #[.slice A0_0 l0_0.length c0_0, .int .u32 a0_1] 25 (0, 0)) (by (with_reducible repeat (first | refine blk_drewN ?_ _ | refine blk_drew ?_ | refine blk_alloc ?_ _)); exact BK321.out) hb); have n1_ := Aside0.mk (below_step (by repeat (first | (with_reducible first | exact HB.out | apply below_alloc | apply pw_below_drewN | apply below_drew1 | refine below_set ?_ GE321.out) | exact HB.out)) hb); clear BK321; clear HB; have BK321 := n0_; have HB := n1_; clear n0_ n1_; (try clear hb); (try clear hb2); (try clear hk); (try clear hi); have hcz86_0 : w85.cell? ⟨gb321, 0, none⟩ = some (.slice A0_0 l0_0.length c0_0) := (blk_cell BK321.out 0).trans rfl; have hcz86_1 : w85.cell? ⟨gb321, 1, none⟩ = some (.int .u32 a0_1) := (blk_cell BK321.out 1).trans rfl; have hfz86_0 := blk_frozen BK321.out 0; have hfz86_1 := blk_frozen BK321.out 1) | ((with_reducible refine gate_callee (f := 16) rfl ?_); refine goesL_ (some 11) rfl rfl Try.func16 (by kernel_rfl) rfl #[.agg #[.slice A0_0 l0_0.length c0_0, .int .u32 a0_1]] rfl (by (try simp only [List.map_toArray, List.map_cons, List.map_nil]); first | done | rfl | (simp only [List.length_drop, List.length_take]; rfl)) ?_; (with_reducible refine (policy_Print.calls k _ _ l0_0 a0_1 t324 t325 _ ?side1 ?side2 A9.out).mono ?_); (case side1 => repeat (first | exact (Kd.C_below HR0_0.out HB.out) | (with_reducible refine Kd.C_alloc ?_ _) | (with_reducible refine Kd.C_drewN ?_ _) | (with_reducible refine Kd.C_drew ?_))); (case side2 => exact HC0_0.out); rintro e w87 ⟨rfl, hb⟩; refine ⟨_, rfl, ?_⟩; have n0_ := Aside0.mk (blk_below (g := gb321) (o := .cells #[.slice A0_0 l0_0.length c0_0, .int .u32 a0_1] 25 (0, 0)) (by (with_reducible repeat (first | refine blk_drewN ?_ _ | refine blk_drew ?_ | refine blk_alloc ?_ _)); exact BK321.out) hb); have n1_ := Aside0.mk (below_step (by repeat (first | (with_reducible first | exact HB.out | apply below_alloc | apply pw_below_drewN | apply below_drew1 | refine below_set ?_ GE321.out) | exact HB.out)) hb); clear BK321; clear HB; have BK321 := n0_; have HB := n1_; clear n0_ n1_; (try clear hb); (try clear hb2); (try clear hk); (try clear hi); have hcz88_0 : w87.cell? ⟨gb321, 0, none⟩ = some (.slice A0_0 l0_0.length c0_0) := (blk_cell BK321.out 0).trans rfl; have hcz88_1 : w87.cell? ⟨gb321, 1, none⟩ = some (.int .u32 a0_1) := (blk_cell BK321.out 1).trans rfl; have hfz88_0 := blk_frozen BK321.out 0; have hfz88_1 := blk_frozen BK321.out 1) | ((with_reducible refine gate_callee (f := 17) rfl ?_); refine goesL_ (some 15) rfl rfl Try.func17 (by kernel_rfl) rfl #[.agg #[.slice A0_0 l0_0.length c0_0, .int .u32 a0_1]] rfl (by (try simp only [List.map_toArray, List.map_cons, List.map_nil]); first | done | rfl | (simp only [List.length_drop, List.length_take]; rfl)) ?_; (with_reducible refine (hurdleref10_Right.calls k _ _ l0_0 a0_1 false _ ?side1 ?side2 A10.out).mono ?_); (case side1 => repeat (first | exact (Kd.C_below HR0_0.out HB.out) | (with_reducible refine Kd.C_alloc ?_ _) | (with_reducible refine Kd.C_drewN ?_ _) | (with_reducible refine Kd.C_drew ?_))); (case side2 => exact HC0_0.out); rintro e w89 ⟨rfl, hb⟩; refine ⟨_, rfl, ?_⟩; have n0_ := Aside0.mk (blk_below (g := gb321) (o := .cells #[.slice A0_0 l0_0.length c0_0, .int .u32 a0_1] 25 (0, 0)) (by (with_reducible repeat (first | refine blk_drewN ?_ _ | refine blk_drew ?_ | refine blk_alloc ?_ _)); exact BK321.out) hb); have n1_ := Aside0.mk (below_step (by repeat (first | (with_reducible first | exact HB.out | apply below_alloc | apply pw_below_drewN | apply below_drew1 | refine below_set ?_ GE321.out) | exact HB.out)) hb); clear BK321; clear HB; have BK321 := n0_; have HB := n1_; clear n0_ n1_; (try clear hb); (try clear hb2); (try clear hk); (try clear hi); have hcz90_0 : w89.cell? ⟨gb321, 0, none⟩ = some (.slice A0_0 l0_0.length c0_0) := (blk_cell BK321.out 0).trans rfl; have hcz90_1 : w89.cell? ⟨gb321, 1, none⟩ = some (.int .u32 a0_1) := (blk_cell BK321.out 1).trans rfl; have hfz90_0 := blk_frozen BK321.out 0; have hfz90_1 := blk_frozen BK321.out 1) | ((with_reducible refine gate_callee (f := 18) rfl ?_); refine goesL_ (some 17) rfl rfl Try.func18 (by kernel_rfl) rfl #[.agg #[.slice A0_0 l0_0.length c0_0, .int .u32 a0_1]] rfl (by (try simp only [List.map_toArray, List.map_cons, List.map_nil]); first | done | rfl | (simp only [List.length_drop, List.length_take]; rfl)) ?_; (with_reducible refine (policy_Right.calls k _ _ l0_0 a0_1 t327 _ ?side1 ?side2 A11.out).mono ?_); (case side1 => repeat (first | exact (Kd.C_below HR0_0.out HB.out) | (with_reducible refine Kd.C_alloc ?_ _) | (with_reducible refine Kd.C_drewN ?_ _) | (with_reducible refine Kd.C_drew ?_))); (case side2 => exact HC0_0.out); rintro e w91 ⟨rfl, hb⟩; refine ⟨_, rfl, ?_⟩; have n0_ := Aside0.mk (blk_below (g := gb321) (o := .cells #[.slice A0_0 l0_0.length c0_0, .int .u32 a0_1] 25 (0, 0)) (by (with_reducible repeat (first | refine blk_drewN ?_ _ | refine blk_drew ?_ | refine blk_alloc ?_ _)); exact BK321.out) hb); have n1_ := Aside0.mk (below_step (by repeat (first | (with_reducible first | exact HB.out | apply below_alloc | apply pw_below_drewN | apply below_drew1 | refine below_set ?_ GE321.out) | exact HB.out)) hb); clear BK321; clear HB; have BK321 := n0_; have HB := n1_; clear n0_ n1_; (try clear hb); (try clear hb2); (try clear hk); (try clear hi)))
          go_ret
          exact ⟨by first | rfl | (simp [errW_none, errW_some] <;> rfl) | (simp [*, errW_none, errW_some] <;> rfl), by repeat (first | (with_reducible first | exact HB.out | apply below_alloc | apply pw_below_drewN | apply below_drew1 | refine below_set ?_ GE321.out) | exact HB.out)⟩
end Go.Proofs.Ytekpbgmmogpbdaa.P
set_option linter.unusedVariables false
set_option linter.unusedSimpArgs false
set_option maxRecDepth 100000
namespace Go.Proofs.Ytekpbgmmogpbdaa.H
open Go.RowKit Go.Proofs.Ytekpbgmmogpbdaa.P Go.Proofs.YtekpbgmmogpbdaaW.PrintWords
theorem Ev_pos {α : Type} {c : Prop} [Decidable c] {g f : Nat → Option α} {r : α} (hc : c) (h : Ev g r) : Ev (fun n => if c then g n else f n) r := Ev.congr (fun _ => if_pos hc) h
theorem Ev_neg {α : Type} {c : Prop} [Decidable c] {g f : Nat → Option α} {r : α} (hc : ¬ c) (h : Ev f r) : Ev (fun n => if c then g n else f n) r := Ev.congr (fun _ => if_neg hc) h
end Go.Proofs.Ytekpbgmmogpbdaa.H
set_option linter.unusedVariables false
set_option linter.unusedSimpArgs false
set_option maxRecDepth 100000
namespace Go.Proofs.Ytekpbgmmogpbdaa.H
open Go.RowKit Go.Proofs.Ytekpbgmmogpbdaa.P Go.Proofs.YtekpbgmmogpbdaaW.PrintWords
def greatB (L : List S40) : Bool := L.any (fun x => decide (20 < x.f2.length)) || decide (100 < L.length)
theorem great_l0 (df : Int) (L : List S40) (hl : L.length ≤ 9223372036854775807) : ∀ (d i : Nat), i + d = L.length →
    Ev (fun k => hurdlelaw10_Great.l0 k (i : Int) L df) ((L.drop i).any (fun x => decide (20 < x.f2.length)) || decide (100 < L.length)) := by
  intro d
  induction d with
  | zero =>
    intro i hi
    refine Ev.step (f := fun _ => some (decide ((L.length : Int) > 100))) (fun k => ?_) ?_
    · simp only [hurdlelaw10_Great.l0]
      rw [if_neg (by omega)]
    · rw [List.drop_eq_nil_of_le (by omega), List.any_nil, Bool.false_or, show decide ((L.length : Int) > 100) = decide (100 < L.length) from decide_eq_decide.2 (by omega)]
      exact Ev.now _
  | succ d ih =>
    intro i hi
    have hlt : i < L.length := by omega
    have hd : L.drop i = L[i] :: L.drop (i + 1) := List.drop_eq_getElem_cons hlt
    by_cases hr : 20 < L[i].f2.length
    · refine Ev.step (f := fun _ => some true) (fun k => ?_) ?_
      · simp only [hurdlelaw10_Great.l0]
        rw [if_pos (by omega), if_pos (by omega), rd40 L i hlt, if_pos (by omega)]
      · rw [hd, List.any_cons, decide_eq_true hr, Bool.true_or, Bool.true_or]
        exact Ev.now _
    · refine Ev.step (f := fun k => hurdlelaw10_Great.l0 k ((i + 1 : Nat) : Int) L df) (fun k => ?_) ?_
      · simp only [hurdlelaw10_Great.l0]
        rw [if_pos (by omega), if_pos (by omega), rd40 L i hlt, if_neg (by omega), show wrap64 ((i : Int) + 1) = ((i + 1 : Nat) : Int) by unfold wrap64; omega]
      · rw [hd, List.any_cons, decide_eq_false hr, Bool.false_or]
        exact ih (i + 1) (by omega)
theorem great_ev (L : List S40) (df : Int) (hl : L.length ≤ 9223372036854775807) : Ev (fun k => hurdlelaw10_Great.f k L df) (greatB L) := great_l0 df L hl L.length 0 (by omega)
theorem great_false {L : List S40} (h : greatB L = false) : L.length ≤ 100 ∧ ∀ x ∈ L, x.f2.length ≤ 20 := by
  unfold greatB at h
  rw [Bool.or_eq_false_iff] at h
  refine ⟨by have := of_decide_eq_false h.2; omega, fun x hx => ?_⟩
  have := List.any_eq_false.1 h.1 x hx
  simp at this
  omega
theorem C_len {α : Type} {d : Kd α} {w : World} {A : Option Addr} {n : Nat} {L : List α} (h : d.C w A n L) : n ≤ 9223372036854775807 := h.2.1
end Go.Proofs.Ytekpbgmmogpbdaa.H
set_option linter.unusedVariables false
set_option linter.unusedSimpArgs false
set_option maxRecDepth 100000
namespace Go.Proofs.Ytekpbgmmogpbdaa.H
open Go.RowKit Go.Proofs.Ytekpbgmmogpbdaa.P Go.Proofs.YtekpbgmmogpbdaaW.PrintWords Go.Proofs.YtekpbgmmogpbdaaW.PrintMore
theorem ref_textP (n : Nat) (h : n < 18446744073709551616) : H.hurdleref01_Text.f (n : Int) = some (strOfNums (textL n)) := by
  unfold H.hurdleref01_Text.f
  rw [if_pos (by unfold u64P; omega)]
  rfl
def fsts (l : NL) : List ByteArray := l.map (·.1)
def snds (l : NL) : List Int := l.map (·.2)
theorem rd_snds (l : NL) (i : Nat) (p : ByteArray × Int) (h : l[i]? = some p) : rd (snds l) (i : Int) = p.2 := by
  unfold rd snds
  rw [Int.toNat_natCast, List.getD_eq_getElem?_getD, List.getElem?_map, h]
  rfl
theorem rd_fsts (l : NL) (i : Nat) (p : ByteArray × Int) (h : l[i]? = some p) : rdOf ByteArray.empty (fsts l) (i : Int) = p.1 := by
  unfold rdOf fsts
  rw [Int.toNat_natCast, List.getD_eq_getElem?_getD, List.getElem?_map, h]
  rfl
theorem wr1 (i : Nat) (h : i < 1000) : wrap64 ((i : Int) + 1) = ((i + 1 : Nat) : Int) := by unfold wrap64; omega
theorem ref_text_l0 (l : NL) (hl : l.length < 900) (n : Nat) (hn : n < 4294967296) (d : Nat) : ∀ (k i : Nat), i + d = l.length → d + 20 < k →
    hurdleref09_text.l0 k (fsts l) (snds l) (n : Int) (i : Int) = some (match (l.drop i).find? (fun p => p.2 == (n : Int)) with | some p => p.1 | none => strOfNums (textL n)) := by
  induction d with
  | zero =>
    intro k i hi hk
    obtain ⟨k, rfl⟩ : ∃ m, k = m + 1 := ⟨k - 1, by omega⟩
    simp only [hurdleref09_text.l0]
    rw [if_neg (by simp [fsts]; omega), List.drop_eq_nil_of_le (by omega), IntWalk.u64_in _ (by omega), ref_textP n (by omega)]
    rfl
  | succ d ih =>
    intro k i hi hk
    obtain ⟨k, rfl⟩ : ∃ m, k = m + 1 := ⟨k - 1, by omega⟩
    have hlt : i < l.length := by omega
    have hg : l[i]? = some l[i] := List.getElem?_eq_getElem hlt
    simp only [hurdleref09_text.l0]
    rw [if_pos (by simp [fsts]; omega), if_pos (by omega), if_pos (by simp [snds]; omega), rd_snds l i _ hg, rd_fsts l i _ hg, List.drop_eq_getElem_cons hlt, List.find?_cons]
    by_cases he : l[i].2 = (n : Int)
    · rw [if_pos he, beq_iff_eq.2 he]
    · rw [if_neg he, beq_eq_false_iff_ne.2 he, wr1 i (by omega)]
      exact ih k (i + 1) (by omega) (by omega)
theorem ref_text_f (l : NL) (g : NGood l) (hl : l.length < 900) (n : Nat) (hn : n < 4294967296) (k : Nat) (hk : l.length + 20 < k) :
    hurdleref09_text.f k (fsts l) (snds l) (n : Int) = some (textOf l n) := by
  have h := ref_text_l0 l hl n hn l.length k 0 (by omega) hk
  have e : hurdleref09_text.f k (fsts l) (snds l) (n : Int) = hurdleref09_text.l0 k (fsts l) (snds l) (n : Int) ((0 : Nat) : Int) := rfl
  rw [e, h, List.drop_zero]
  unfold textOf nameOf
  cases hf : l.find? (fun p => p.2 == (n : Int)) with
  | none => simp only []; rw [if_pos empty_isEmpty]
  | some p => simp only []; rw [if_neg (by rw [nonempty_of (g.some_ p (List.mem_of_find?_eq_some hf))]; decide)]
theorem ref_machines : hurdleref09_Machines.f = some (fsts ML, snds ML) := rfl
theorem ref_machine (n : Nat) (hn : n < 4294967296) : hurdleref09_Machine.f 200 (n : Int) = some (textOf ML n) := by
  unfold hurdleref09_Machine.f
  rw [ref_machines]
  simp only [Option.bind_some]
  rw [ref_text_f ML good_ML (by decide) n hn 200 (by decide)]
  rfl
def callNames : List ByteArray := [⟨#[114, 101, 97, 100]⟩, ⟨#[119, 114, 105, 116, 101]⟩, ⟨#[111, 112, 101, 110]⟩, ⟨#[99, 108, 111, 115, 101]⟩, ⟨#[101, 120, 105, 116]⟩, ⟨#[102, 111, 114, 107]⟩, ⟨#[107, 105, 108, 108]⟩, ⟨#[109, 109, 97, 112]⟩]
def callRows : List (List Int) := [[0, 1, 2, 3, 60, 57, 62, 9], [3, 4, 5, 6, 1, 2, 37, 90], [63, 64, 1000000, 57, 93, 1000000, 129, 222], [3, 4, 5, 6, 1, 2, 37, 1000000]]
theorem calls_l1_miss (a : Int) (x9 : List ByteArray) (x10 : List Int) (i : Nat) (hi : i < 4) (ha : rd (snds ML) (i : Int) ≠ a) (d : Nat) : ∀ (k j : Nat), j + d = 8 → d < k →
    hurdleref09_Calls.l1 k a callNames 1000000 callRows (snds ML) x9 x10 (i : Int) (j : Int) = hurdleref09_Calls.l0 (k - d - 1) a callNames 1000000 callRows (snds ML) x9 x10 ((i + 1 : Nat) : Int) := by
  induction d with
  | zero =>
    intro k j hj hk
    obtain ⟨k, rfl⟩ : ∃ m, k = m + 1 := ⟨k - 1, by omega⟩
    simp only [hurdleref09_Calls.l1]
    rw [if_neg (by omega), wr1 i (by omega)]
    rfl
  | succ d ih =>
    intro k j hj hk
    obtain ⟨k, rfl⟩ : ∃ m, k = m + 1 := ⟨k - 1, by omega⟩
    simp only [hurdleref09_Calls.l1]
    have h4 : (snds ML).length = 4 := rfl
    rw [if_pos (by omega), if_pos (by omega), if_pos (by rw [h4]; omega), if_neg ha, wr1 j (by omega), ih k (j + 1) (by omega) (by omega)]
    rw [show k + 1 - (d + 1) - 1 = k - d - 1 by omega]
theorem calls_l0_miss (a : Int) (x9 : List ByteArray) (x10 : List Int) (i k : Nat) (hi : i < 4) (hk : 10 ≤ k) (ha : rd (snds ML) (i : Int) ≠ a) :
    hurdleref09_Calls.l0 k a callNames 1000000 callRows (snds ML) x9 x10 (i : Int) = hurdleref09_Calls.l0 (k - 10) a callNames 1000000 callRows (snds ML) x9 x10 ((i + 1 : Nat) : Int) := by
  obtain ⟨k, rfl⟩ : ∃ m, k = m + 1 := ⟨k - 1, by omega⟩
  conv => lhs; simp only [hurdleref09_Calls.l0]
  rw [if_pos (by omega)]
  have := calls_l1_miss a x9 x10 i hi ha 8 k 0 (by omega) (by omega)
  rw [show ((0 : Nat) : Int) = 0 from rfl] at this
  rw [this, show k - 8 - 1 = k + 1 - 10 by omega]
theorem calls_f_eq (a : Int) (k : Nat) : hurdleref09_Calls.f k a = hurdleref09_Calls.l0 k a callNames 1000000 callRows (snds ML) [] [] ((0 : Nat) : Int) := by
  unfold hurdleref09_Calls.f
  rw [ref_machines]
  rfl
theorem rd0 : rd (snds ML) ((0 : Nat) : Int) = 3221225534 := rfl
theorem rd1 : rd (snds ML) ((1 : Nat) : Int) = 1073741827 := rfl
theorem rd2 : rd (snds ML) ((2 : Nat) : Int) = 3221225655 := rfl
theorem rd3 : rd (snds ML) ((3 : Nat) : Int) = 1073741864 := rfl
theorem calls_l0_end (a : Int) (k : Nat) (x9 : List ByteArray) (x10 : List Int) : hurdleref09_Calls.l0 (k + 1) a callNames 1000000 callRows (snds ML) x9 x10 ((3 + 1 : Nat) : Int) = some (x9, x10) := by
  simp only [hurdleref09_Calls.l0]
  rw [if_neg (by omega)]
theorem calls_none_k (a : Int) (h0 : a ≠ 3221225534) (h1 : a ≠ 1073741827) (h2 : a ≠ 3221225655) (h3 : a ≠ 1073741864) (k : Nat) : hurdleref09_Calls.f (k + 1 + 40) a = some ([], []) := by
  rw [calls_f_eq, calls_l0_miss a _ _ 0 _ (by omega) (by omega) (by rw [rd0]; exact fun h => h0 h.symm),
    calls_l0_miss a _ _ 1 _ (by omega) (by omega) (by rw [rd1]; exact fun h => h1 h.symm),
    calls_l0_miss a _ _ 2 _ (by omega) (by omega) (by rw [rd2]; exact fun h => h2 h.symm),
    calls_l0_miss a _ _ 3 _ (by omega) (by omega) (by rw [rd3]; exact fun h => h3 h.symm),
    show k + 1 + 40 - 10 - 10 - 10 - 10 = k + 1 by omega, calls_l0_end]
theorem calls_none_f (a : Int) (h0 : a ≠ 3221225534) (h1 : a ≠ 1073741827) (h2 : a ≠ 3221225655) (h3 : a ≠ 1073741864) : hurdleref09_Calls.f 60 a = some ([], []) :=
  calls_none_k a h0 h1 h2 h3 19
theorem ref_calls (a : Int) : hurdleref09_Calls.f 60 a = some (fsts (callsOf a), snds (callsOf a)) := by
  unfold callsOf
  split
  · rename_i h; subst h; kernel_rfl
  · rename_i h0
    split
    · rename_i h; subst h; kernel_rfl
    · rename_i h1
      split
      · rename_i h; subst h; kernel_rfl
      · rename_i h2
        split
        · rename_i h; subst h; kernel_rfl
        · rename_i h3; exact calls_none_f a h0 h1 h2 h3
theorem calls_len (a : Int) : (callsOf a).length ≤ 8 := by
  unfold callsOf
  split
  · decide
  · split
    · decide
    · split
      · decide
      · split
        · decide
        · simp
theorem ref_calls_k (a : Int) (k : Nat) (hk : 60 ≤ k) : hurdleref09_Calls.f k a = some (fsts (callsOf a), snds (callsOf a)) :=
  at_rounds (g := fun k => hurdleref09_Calls.f k a) (hurdleref09_Calls.mono a) hk (ref_calls a)
theorem ref_call (a : Int) (n : Nat) (hn : n < 4294967296) : hurdleref09_Call.f 200 a (n : Int) = some (textOf (callsOf a) n) := by
  unfold hurdleref09_Call.f
  have hl := calls_len a
  rw [ref_calls_k a 200 (by omega)]
  simp only [Option.bind_some]
  rw [ref_text_f _ (good_calls a) (by omega) n hn 200 (by omega)]
  rfl
theorem ref_action (v : Nat) (hv : v < 4294967296) (k : Nat) (hk : 30 ≤ k) : hurdleref09_Action.f k (v : Int) = some (actOf v).1 := by
  obtain ⟨k, rfl⟩ : ∃ m, k = m + 1 := ⟨k - 1, by omega⟩
  unfold hurdleref09_Action.f
  have hmid : ∀ b : Bool, b = true ∧ 327680 ≤ v ∧ v ≤ 331775 ∨ b = false ∧ ¬ (327680 ≤ v ∧ v ≤ 331775) → hurdleref09_Action.j0 (k + 1) (v : Int) b = some (actOf v).1 := by
    intro b hb
    simp only [hurdleref09_Action.j0]
    rcases act_cases v hv with ⟨p, hp, h2, h3, _⟩ | ⟨d, hd, hvd, h3⟩ | ⟨hm, hmm, h3⟩
    · rw [h3]
      have hf : b = false := by
        rcases hb with ⟨_, h⟩ | ⟨h, _⟩
        · exact absurd h2 (AL_mid (v : Int) (by omega) (by omega) p hp)
        · exact h
      subst hf
      rw [if_neg (by decide)]
      rw [← h2]
      unfold AL at hp
      simp only [List.mem_cons, List.not_mem_nil, or_false] at hp
      rcases hp with rfl | rfl | rfl | rfl
      · rw [if_pos rfl]
      · rw [if_neg (by decide), if_pos rfl]
      · rw [if_neg (by decide), if_neg (by decide), if_pos rfl]
      · rw [if_neg (by decide), if_neg (by decide), if_neg (by decide), if_pos rfl]
    · rw [h3]
      have ht : b = true := by
        rcases hb with ⟨h, _⟩ | ⟨_, h⟩
        · exact h
        · exact absurd ⟨by omega, by omega⟩ h
      subst ht
      rw [if_pos rfl, show ((v : Int) - 327680) % 4294967296 = ((d : Nat) : Int) by omega, ref_textP d (by omega)]
      simp only [Option.bind_some]
      have hs := textL_size d (by omega)
      rw [if_pos (by omega)]
      rfl
    · rw [h3]
      have hf : b = false := by
        rcases hb with ⟨_, h⟩ | ⟨h, _⟩
        · exact absurd h hmm
        · exact h
      subst hf
      have m0 := hm (⟨#[107, 105, 108, 108]⟩, 0) (by unfold AL; simp)
      have m1 := hm (⟨#[116, 114, 97, 112]⟩, 196608) (by unfold AL; simp)
      have m2 := hm (⟨#[108, 111, 103]⟩, 2147221504) (by unfold AL; simp)
      have m3 := hm (⟨#[97, 108, 108, 111, 119]⟩, 2147418112) (by unfold AL; simp)
      rw [if_neg (by decide), if_neg (fun h => m0 h.symm), if_neg (fun h => m1 h.symm), if_neg (fun h => m2 h.symm), if_neg (fun h => m3 h.symm)]
  by_cases h1 : (v : Int) ≥ 327680
  · rw [if_pos h1]
    by_cases h2 : (v : Int) ≤ 331775
    · rw [decide_eq_true h2]; exact hmid true (.inl ⟨rfl, by omega, by omega⟩)
    · rw [decide_eq_false h2]; exact hmid false (.inr ⟨rfl, by omega⟩)
  · rw [if_neg h1]; exact hmid false (.inr ⟨rfl, by omega⟩)
end Go.Proofs.Ytekpbgmmogpbdaa.H
set_option linter.unusedVariables false
set_option linter.unusedSimpArgs false
set_option maxRecDepth 100000
namespace Go.Proofs.Ytekpbgmmogpbdaa.H
open Go.RowKit Go.Proofs.Ytekpbgmmogpbdaa.P Go.Proofs.YtekpbgmmogpbdaaW.PrintWords
theorem machine_ev {v : Int} (h : u32P v) : Ev (fun k => hurdleref09_Machine.f k v) (textOf ML v.toNat) := by
  obtain ⟨hn, he⟩ := toN h
  have := ref_machine v.toNat hn
  rw [he] at this
  exact Ev.of (hurdleref09_Machine.mono v) this
theorem call_ev {a v : Int} (h : u32P v) : Ev (fun k => hurdleref09_Call.f k a v) (textOf (callsOf a) v.toNat) := by
  obtain ⟨hn, he⟩ := toN h
  have := ref_call a v.toNat hn
  rw [he] at this
  exact Ev.of (hurdleref09_Call.mono a v) this
theorem action_ev {v : Int} (h : u32P v) : Ev (fun k => hurdleref09_Action.f k v) (actOf v.toNat).1 := by
  obtain ⟨hn, he⟩ := toN h
  refine ⟨30, fun k hk => ?_⟩
  have := ref_action v.toNat hn k hk
  rw [he] at this
  exact this
theorem action_empty {v : Int} (h : u32P v) : ((actOf v.toNat).1.toList == ([] : List UInt8)) = !(actB v) := by
  unfold actB
  rcases act_cases v.toNat (toN h).1 with ⟨p, hp, h2, h3, h4⟩ | ⟨d, hd, h2, h3⟩ | ⟨h1, h2, h3⟩
  · rw [h3, ByteArray.toList_eq]
    cases hh : p.1.data.toList with
    | nil => exact absurd hh h4
    | cons a l => rfl
  · rw [h3, ByteArray.toList_eq, ba_add]
    rfl
  · rw [h3, ByteArray.toList_eq]; rfl
theorem ref_cond_Print_f {c : S61} (h : condOk c) : H.hurdleref08_Print.f c.f0 c.f1 c.f2 c.f3 = some (ofBytes (CTc c)) := by
  obtain ⟨h1, h2, h3, h4, h5⟩ := right_of h
  unfold H.hurdleref08_Print.f
  rw [if_pos ⟨h.1, h.2⟩]
  have e2 : ((c.f2.toNat : Nat) : Int) = c.f2 := by have := h.2.1; unfold u64P at this; omega
  have e3 : ((c.f3.toNat : Nat) : Int) = c.f3 := by have := h.2.2; unfold u64P at this; omega
  have := condText_list c.f0.toNat c.f1.toNat c.f2.toNat c.f3.toNat
  rw [e2, e3] at this
  rw [show condText c.f0.toNat c.f1.toNat c.f2 c.f3 = ofBytes (CTc c) from ba_eq (by rw [this, data_of]; rfl)]
def jnt (i : Nat) : List UInt8 := if i = 0 then [105, 102] else [97, 110, 100]
theorem line_l0 (f0 f1 f3 : Int) (cs : List S61) (hl : cs.length ≤ 1000) (hk : ∀ c ∈ cs, condOk c) : ∀ (d i : Nat) (acc : List UInt8), i + d = cs.length → acc.length ≤ 1000 + 48 * i →
    Ev (fun k => hurdleref10_Line.l0 k (ofBytes acc) (i : Int) f0 f1 cs f3) (ofBytes (acc ++ contT (jnt i) (cs.drop i))) := by
  intro d
  induction d with
  | zero =>
    intro i acc hi ha
    refine Ev.step (f := fun _ => some (ofBytes (acc ++ contT (jnt i) (cs.drop i)))) (fun k => ?_) (Ev.now _)
    simp only [hurdleref10_Line.l0]
    rw [if_neg (by omega), List.drop_eq_nil_of_le (by omega)]
    simp [contT]
  | succ d ih =>
    intro i acc hi ha
    have hlt : i < cs.length := by omega
    have hd : cs.drop i = cs[i] :: cs.drop (i + 1) := List.drop_eq_getElem_cons hlt
    have hc := hk cs[i] (List.getElem_mem hlt)
    have hz := CTc_len hc
    have hj : (jnt i).length ≤ 3 := by unfold jnt; split <;> simp
    have hs4 : (⟨#[32, 105, 102, 32]⟩ : ByteArray).size = 4 := rfl
    have hs5 : (⟨#[32, 97, 110, 100, 32]⟩ : ByteArray).size = 5 := rfl
    refine Ev.step (f := fun k => hurdleref10_Line.l0 k (ofBytes (acc ++ (32 :: (jnt i ++ 32 :: CTc cs[i])))) ((i + 1 : Nat) : Int) f0 f1 cs f3) (fun k => ?_) ?_
    · simp only [hurdleref10_Line.l0]
      rw [if_pos (by omega)]
      by_cases h0 : i = 0
      · rw [if_pos (by omega), if_pos (by rw [size_of]; omega), if_pos (by omega), rd61 cs i hlt, ref_cond_Print_f hc, Option.bind_some, if_pos (by simp only [ByteArray.size_append, size_of]; omega), wS i (by omega)]
        congr 1
        apply ba_eq
        simp only [ba_add, data_of, jnt, if_pos h0, List.append_assoc]
        rfl
      · rw [if_neg (by omega), if_pos (by rw [size_of]; omega), if_pos (by omega), rd61 cs i hlt, ref_cond_Print_f hc, Option.bind_some, if_pos (by simp only [ByteArray.size_append, size_of]; omega), wS i (by omega)]
        congr 1
        apply ba_eq
        simp only [ba_add, data_of, jnt, if_neg h0, List.append_assoc]
        rfl
    · have := ih (i + 1) (acc ++ (32 :: (jnt i ++ 32 :: CTc cs[i]))) (by omega) (by simp only [List.length_cons, List.length_append]; omega)
      rw [show jnt (i + 1) = [97, 110, 100] by unfold jnt; rw [if_neg (by omega)]] at this
      rw [hd]
      simp only [contT]
      rw [show acc ++ 32 :: (jnt i ++ 32 :: (CTc cs[i] ++ contT [97, 110, 100] (cs.drop (i + 1)))) = (acc ++ (32 :: (jnt i ++ 32 :: CTc cs[i]))) ++ contT [97, 110, 100] (cs.drop (i + 1)) by simp]
      exact this
theorem line_ev {x : S40} (h : ruleOk x) : Ev (fun k => hurdleref10_Line.f k x.f0 x.f1 x.f2 x.f3) (ofBytes (ruleT x)) := by
  obtain ⟨h0, h1, ⟨h3, h3'⟩, h4, h5⟩ := h
  have z0 := textOf_sz good_ML ML_sz _ (toN h0).1
  have z1 := textOf_sz (good_calls x.f0) (calls_sz _) _ (toN h1).1
  have z3 := act_sz _ (toN h3).1
  have l0 : (machL x).length ≤ 18 := by unfold machL; rw [← size_list]; exact z0
  have l1 : (callL x).length ≤ 18 := by unfold callL; rw [← size_list]; exact z1
  have l3 : (actL x.f3).length ≤ 24 := by unfold actL; rw [← size_list]; exact z3
  have hs3 : (⟨#[111, 110, 32]⟩ : ByteArray).size = 3 := rfl
  have hs1 : (⟨#[32]⟩ : ByteArray).size = 1 := rfl
  unfold hurdleref10_Line.f
  refine Ev.bind (machine_ev h0) ?_
  refine Ev_pos (by omega) (Ev_pos (by simp only [ByteArray.size_append]; omega) ?_)
  refine Ev.bind (call_ev h1) ?_
  refine Ev_pos (by simp only [ByteArray.size_append]; omega) (Ev_pos (by simp only [ByteArray.size_append]; omega) ?_)
  refine Ev.bind (action_ev h3) ?_
  refine Ev_pos (by simp only [ByteArray.size_append]; omega) ?_
  have e : ((((((⟨#[111, 110, 32]⟩ : ByteArray) ++ textOf ML x.f0.toNat) ++ (⟨#[32]⟩ : ByteArray)) ++ textOf (callsOf x.f0) x.f1.toNat) ++ (⟨#[32]⟩ : ByteArray)) ++ (actOf x.f3.toNat).1) = ofBytes ([111, 110, 32] ++ machL x ++ [32] ++ callL x ++ [32] ++ actL x.f3) :=
    ba_eq (by simp only [ba_add, data_of, machL, callL, actL])
  rw [e, ruleT_eq]
  exact line_l0 x.f0 x.f1 x.f3 x.f2 (by omega) h5 x.f2.length 0 _ (by omega) (by simp only [List.length_append, List.length_cons, List.length_nil]; omega)
theorem refPrint_l0 (df : Int) (hdf : dfOk df) (L : List S40) (hl : L.length ≤ 1000) (hk : ∀ x ∈ L, ruleOk x) : ∀ (d i : Nat) (acc : List UInt8), i + d = L.length → acc.length ≤ 301 * i →
    Ev (fun k => hurdleref10_Print.l0 k (ofBytes acc) (i : Int) L df) (ofBytes (acc ++ polT (L.drop i) df)) := by
  have z3 := act_sz _ (toN hdf.1).1
  have l3 : (actL df).length ≤ 24 := by unfold actL; rw [← size_list]; exact z3
  intro d
  induction d with
  | zero =>
    intro i acc hi ha
    have hs8 : (⟨#[100, 101, 102, 97, 117, 108, 116, 32]⟩ : ByteArray).size = 8 := rfl
    refine Ev.step (f := fun k => (hurdleref09_Action.f k df).bind fun t320 => (if (ofBytes acc ++ (⟨#[100, 101, 102, 97, 117, 108, 116, 32]⟩ : ByteArray)).size + t320.size ≤ 9223372036854775807 then (if ((ofBytes acc ++ (⟨#[100, 101, 102, 97, 117, 108, 116, 32]⟩ : ByteArray)) ++ t320).size + 1 ≤ 9223372036854775807 then (some (((ofBytes acc ++ (⟨#[100, 101, 102, 97, 117, 108, 116, 32]⟩ : ByteArray)) ++ t320) ++ (⟨#[10]⟩ : ByteArray))) else (none)) else (none))) (fun k => ?_) ?_
    · simp only [hurdleref10_Print.l0]
      rw [if_neg (by omega), if_pos (by rw [size_of]; omega)]
    · refine Ev.bind (action_ev hdf.1) ?_
      refine Ev_pos (by simp only [ByteArray.size_append, size_of]; omega) (Ev_pos (by simp only [ByteArray.size_append, size_of]; omega) ?_)
      rw [List.drop_eq_nil_of_le (by omega)]
      rw [show ((ofBytes acc ++ (⟨#[100, 101, 102, 97, 117, 108, 116, 32]⟩ : ByteArray)) ++ (actOf df.toNat).1) ++ (⟨#[10]⟩ : ByteArray) = ofBytes (acc ++ polT [] df) from ba_eq (by simp only [ba_add, data_of, polT, dfltT_eq, actL, List.flatMap_nil, List.nil_append, List.append_assoc])]
      exact Ev.now _
  | succ d ih =>
    intro i acc hi ha
    have hlt : i < L.length := by omega
    have hd : L.drop i = L[i] :: L.drop (i + 1) := List.drop_eq_getElem_cons hlt
    have hx := hk L[i] (List.getElem_mem hlt)
    have hz := ruleT_len hx
    refine Ev.step (f := fun k => (hurdleref10_Line.f k L[i].f0 L[i].f1 L[i].f2 L[i].f3).bind fun t => (if (ofBytes acc).size + t.size ≤ 9223372036854775807 then (if (ofBytes acc ++ t).size + 1 ≤ 9223372036854775807 then (hurdleref10_Print.l0 k ((ofBytes acc ++ t) ++ (⟨#[10]⟩ : ByteArray)) ((i + 1 : Nat) : Int) L df) else (none)) else (none))) (fun k => ?_) ?_
    · simp only [hurdleref10_Print.l0]
      rw [if_pos (by omega), if_pos (by omega), rd40 L i hlt, wS i (by omega)]
    · refine Ev.bind (line_ev hx) ?_
      have e : (ofBytes acc ++ ofBytes (ruleT L[i])) ++ (⟨#[10]⟩ : ByteArray) = ofBytes (acc ++ (ruleT L[i] ++ [10])) := ba_eq (by simp only [ba_add, data_of, List.append_assoc])
      refine Ev.congr (f := fun k => hurdleref10_Print.l0 k (ofBytes (acc ++ (ruleT L[i] ++ [10]))) ((i + 1 : Nat) : Int) L df) (fun k => ?_) ?_
      · rw [if_pos (by simp only [size_of]; omega), if_pos (by simp only [ByteArray.size_append, size_of]; omega), e]
      · rw [hd, show acc ++ polT (L[i] :: L.drop (i + 1)) df = (acc ++ (ruleT L[i] ++ [10])) ++ polT (L.drop (i + 1)) df by simp only [polT, List.flatMap_cons, List.append_assoc]]
        exact ih (i + 1) _ (by omega) (by simp only [List.length_append, List.length_cons, List.length_nil]; omega)
theorem refPrint_ev (L : List S40) (df : Int) (h : polOk L df) : Ev (fun k => hurdleref10_Print.f k L df) (ofBytes (polT L df)) :=
  refPrint_l0 df h.2.2 L (by have := h.1; omega) h.2.1 L.length 0 [] (by omega) (by simp)
theorem ref_Right_f (a b c d : Int) : P.hurdleref08_Right.f a b c d = some (rightB a b) := by
  unfold P.hurdleref08_Right.f rightB
  by_cases h1 : a ≥ 0
  · rw [if_pos h1]
    by_cases h2 : a ≤ 5
    · rw [if_pos h2]
      by_cases h3 : b ≥ 0
      · rw [if_pos h3]; simp [h1, h3]; omega
      · rw [if_neg h3]; simp [h1]; omega
    · rw [if_neg h2]; simp; omega
  · rw [if_neg h1]; simp [h1]
theorem refRight_l1 (df : Int) (L : List S40) (x : S40) (i : Nat) (hi : i ≤ 1000) (hl : x.f2.length ≤ 1000) (r : Bool) (hn : Ev (fun k => hurdleref10_Right.l0 k ((i + 1 : Nat) : Int) L df) r) : ∀ (d j : Nat), j + d = x.f2.length →
    Ev (fun k => hurdleref10_Right.l1 k (i : Int) (j : Int) L df x.f0 x.f1 x.f2 x.f3) (condsB (x.f2.drop j) && r) := by
  intro d
  induction d with
  | zero =>
    intro j hj
    refine Ev.step (f := fun k => hurdleref10_Right.l0 k ((i + 1 : Nat) : Int) L df) (fun k => ?_) ?_
    · simp only [hurdleref10_Right.l1]
      rw [if_neg (by omega), wS i (by omega)]
    · rw [List.drop_eq_nil_of_le (by omega)]
      exact hn
  | succ d ih =>
    intro j hj
    have hlt : j < x.f2.length := by omega
    have hd : x.f2.drop j = x.f2[j] :: x.f2.drop (j + 1) := List.drop_eq_getElem_cons hlt
    by_cases hr : rightB x.f2[j].f0 x.f2[j].f1 = true
    · refine Ev.step (f := fun k => hurdleref10_Right.l1 k (i : Int) ((j + 1 : Nat) : Int) L df x.f0 x.f1 x.f2 x.f3) (fun k => ?_) ?_
      · simp only [hurdleref10_Right.l1]
        rw [if_pos (by omega), if_pos (by omega), rd61 x.f2 j hlt, ref_Right_f, Option.bind_some, if_pos hr, wS j (by omega)]
      · rw [hd, show condsB (x.f2[j] :: x.f2.drop (j + 1)) = condsB (x.f2.drop (j + 1)) by simp only [condsB, List.all_cons, hr, Bool.true_and]]
        exact ih (j + 1) (by omega)
    · refine Ev.step (f := fun _ => some false) (fun k => ?_) ?_
      · simp only [hurdleref10_Right.l1]
        rw [if_pos (by omega), if_pos (by omega), rd61 x.f2 j hlt, ref_Right_f, Option.bind_some, if_neg hr]
      · rw [hd, show condsB (x.f2[j] :: x.f2.drop (j + 1)) = false by simp only [condsB, List.all_cons]; rw [Bool.eq_false_iff.2 hr]; rfl]
        exact Ev.now _
theorem refRight_l0 (df : Int) (L : List S40) (hl : L.length ≤ 1000) (hk : ∀ x ∈ L, u32P x.f3 ∧ x.f2.length ≤ 1000) : ∀ (d i : Nat), i + d = L.length →
    Ev (fun k => hurdleref10_Right.l0 k (i : Int) L df) (rulesB (L.drop i)) := by
  intro d
  induction d with
  | zero =>
    intro i hi
    refine Ev.step (f := fun _ => some true) (fun k => ?_) ?_
    · simp only [hurdleref10_Right.l0]
      rw [if_neg (by omega)]
    · rw [List.drop_eq_nil_of_le (by omega)]
      exact Ev.now _
  | succ d ih =>
    intro i hi
    have hlt : i < L.length := by omega
    have hd : L.drop i = L[i] :: L.drop (i + 1) := List.drop_eq_getElem_cons hlt
    have hx := hk L[i] (List.getElem_mem hlt)
    have hrest := ih (i + 1) (by omega)
    have hj2 : ∀ b : Bool, Ev (fun k => hurdleref10_Right.j2 k (i : Int) b L df L[i].f0 L[i].f1 L[i].f2 L[i].f3) (!b && (condsB L[i].f2 && rulesB (L.drop (i + 1)))) := by
      intro b
      cases b with
      | true => exact Ev.step (f := fun _ => some false) (fun k => by simp only [hurdleref10_Right.j2, if_true]) (Ev.now _)
      | false =>
        refine Ev.step (f := fun k => hurdleref10_Right.l1 k (i : Int) ((0 : Nat) : Int) L df L[i].f0 L[i].f1 L[i].f2 L[i].f3) (fun k => ?_) ?_
        · simp only [hurdleref10_Right.j2, Bool.false_eq_true, if_false]; rfl
        · exact refRight_l1 df L L[i] i (by omega) hx.2 _ hrest L[i].f2.length 0 (by omega)
    rw [hd, show rulesB (L[i] :: L.drop (i + 1)) = (ruleB L[i] && rulesB (L.drop (i + 1))) by simp only [rulesB, List.all_cons]]
    by_cases h4 : (L[i].f2.length : Int) > 4
    · refine Ev.step (f := fun k => hurdleref10_Right.j2 k (i : Int) true L df L[i].f0 L[i].f1 L[i].f2 L[i].f3) (fun k => ?_) ?_
      · simp only [hurdleref10_Right.l0]
        rw [if_pos (by omega), if_pos (by omega), rd40 L i hlt, if_pos h4]
      · have : ruleB L[i] = false := by
          unfold ruleB
          rw [show decide (L[i].f2.length ≤ 4) = false from decide_eq_false (by omega)]
          simp
        rw [this]
        exact hj2 true
    · refine Ev.step (f := fun k => (hurdleref09_Action.f k L[i].f3).bind fun t => hurdleref10_Right.j2 k (i : Int) (t.toList == ([] : List UInt8)) L df L[i].f0 L[i].f1 L[i].f2 L[i].f3) (fun k => ?_) ?_
      · simp only [hurdleref10_Right.l0]
        rw [if_pos (by omega), if_pos (by omega), rd40 L i hlt, if_neg h4]
      · refine Ev.bind (action_ev hx.1) ?_
        rw [action_empty hx.1]
        have := hj2 (!(actB L[i].f3))
        rw [show (ruleB L[i] && rulesB (L.drop (i + 1))) = (!!(actB L[i].f3) && (condsB L[i].f2 && rulesB (L.drop (i + 1)))) by
          unfold ruleB
          rw [show decide (L[i].f2.length ≤ 4) = true from decide_eq_true (by omega), Bool.not_not, Bool.and_true]
          cases condsB L[i].f2 <;> cases actB L[i].f3 <;> rfl]
        exact this
theorem refRight_ev (L : List S40) (df : Int) (h : polK L df) (hl : L.length ≤ 1000) (hc : ∀ x ∈ L, x.f2.length ≤ 1000) : Ev (fun k => hurdleref10_Right.f k L df) (polB L df) := by
  have h0 := refRight_l0 df L hl (fun x hx => ⟨(h.1 x hx).2.2.1, hc x hx⟩) L.length 0 (by omega)
  have hj : ∀ b : Bool, Ev (fun k => hurdleref10_Right.j0 k b L df) (!b && rulesB L) := by
    intro b
    cases b with
    | true => exact Ev.step (f := fun _ => some false) (fun k => by simp only [hurdleref10_Right.j0, if_true]) (Ev.now _)
    | false => exact Ev.step (f := fun k => hurdleref10_Right.l0 k ((0 : Nat) : Int) L df) (fun k => by simp only [hurdleref10_Right.j0, Bool.false_eq_true, if_false]; rfl) h0
  unfold hurdleref10_Right.f polB
  by_cases h64 : (L.length : Int) > 64
  · rw [show decide (L.length ≤ 64) = false from decide_eq_false (by omega), Bool.and_false, Bool.and_false]
    exact Ev_pos h64 (hj true)
  · rw [show decide (L.length ≤ 64) = true from decide_eq_true (by omega), Bool.and_true]
    refine Ev_neg h64 (Ev.bind (action_ev h.2) ?_)
    rw [action_empty h.2, Bool.and_comm]
    have := hj (!(actB df))
    rw [Bool.not_not] at this
    exact this
end Go.Proofs.Ytekpbgmmogpbdaa.H
set_option linter.unusedVariables false
set_option linter.unusedSimpArgs false
set_option maxRecDepth 100000
namespace Go.Proofs.Ytekpbgmmogpbdaa.H
open Go.RowKit Go.Proofs.Ytekpbgmmogpbdaa.P Go.Proofs.YtekpbgmmogpbdaaW.PrintWords Go.ChangeShapes Go.WideShapes
section
variable {H : Type} {enc : TypeId × Value → H} {w : World} {base : Nat} {spare : Nat → Bool} {held : Bool} {fuel : Nat} {x : DataW H × List MemPlace}
theorem open_kd {α : Type} (d : Kd α) (Q : α → Prop) {t e : TypeId} (ht : Try.prog.underlying t = some (.slice e)) (hs : Try.prog.cellsOf e = d.sz) {cs : List Value}
    (el : ∀ (n : Nat) (cs : List Value) (x : DataW H × List MemPlace), cs.length = d.sz → DataW.trod enc Try.prog w base spare held n e cs = some x → ∃ a : α, d.K w a cs ∧ Q a)
    (h : DataW.trod enc Try.prog w base spare held fuel t cs = some x) :
    ∃ A c L, cs = [.slice A L.length c] ∧ L.length ≤ c ∧ d.C w A L.length L ∧ ∀ a ∈ L, Q a := by
  rcases DataW.trod_slice ht h with ⟨rfl, _⟩ | ⟨a, len, cap, elems, rest, n, _, rfl, _, hb, hl, hm, hlen, hel, _⟩
  · exact ⟨none, 0, [], rfl, Nat.le_refl _, ⟨rfl, by simp, fun h => absurd h (by simp)⟩, by simp⟩
  · have key : ∀ i, i < len → ∃ cs', w.cells? base (a.add (i * d.sz)) d.sz = some cs' ∧ ∃ z : α, d.K w z cs' ∧ Q z := by
      intro i hi
      have h1 := hel i hi
      rw [hs, List.getElem?_eq_getElem (show i < elems.length by omega)] at h1
      obtain ⟨cs', h2, h3⟩ := Option.bind_eq_some_iff.1 h1
      exact ⟨cs', h2, el n cs' _ (World.cells?_some h2).2.1 h3⟩
    have : ∃ L : List α, L.length = len ∧ ∀ i (hi : i < L.length), ∃ cs', w.cells? base (a.add (i * d.sz)) d.sz = some cs' ∧ d.K w L[i] cs' ∧ Q L[i] := by
      have : ∀ m, m ≤ len → ∃ L : List α, L.length = m ∧ ∀ i (hi : i < L.length), ∃ cs', w.cells? base (a.add (i * d.sz)) d.sz = some cs' ∧ d.K w L[i] cs' ∧ Q L[i] := by
        intro m
        induction m with
        | zero => intro _; exact ⟨[], rfl, fun i hi => absurd hi (by simp)⟩
        | succ m ih =>
          intro hm
          obtain ⟨L, hL, hp⟩ := ih (by omega)
          obtain ⟨cs', h1, z, h2, h3⟩ := key m (by omega)
          refine ⟨L ++ [z], by simp [hL], fun i hi => ?_⟩
          by_cases hlt : i < L.length
          · obtain ⟨c2, g1, g2, g3⟩ := hp i hlt
            exact ⟨c2, g1, by rw [List.getElem_append_left hlt]; exact g2, by rw [List.getElem_append_left hlt]; exact g3⟩
          · have e : i = m := by simp at hi; omega
            subst e
            have hz : (L ++ [z])[i] = z := by rw [List.getElem_append_right (by omega)]; simp [hL]
            exact ⟨cs', h1, by rw [hz]; exact h2, by rw [hz]; exact h3⟩
      exact this len (Nat.le_refl _)
    obtain ⟨L, hL, hp⟩ := this
    subst hL
    refine ⟨some a, cap, L, rfl, hl, ⟨rfl, ?_, fun _ => ⟨a, rfl, fun j p hj => ?_⟩⟩, fun z hz => ?_⟩
    · unfold maxLen at hm; omega
    · obtain ⟨hlt, rfl⟩ := List.getElem?_eq_some_iff.1 hj
      obtain ⟨cs', h1, h2, h3⟩ := hp j hlt
      obtain ⟨_, h5, h6⟩ := World.cells?_some h1
      refine ⟨cs', h5, h2, fun i u hu => ?_⟩
      have hi : i < d.sz := by rw [← h5]; exact (List.getElem?_eq_some_iff.1 hu).1
      have := h6 i hi
      rw [hu] at this
      rw [← Go.Proofs.YtekpbgmmogpbdaaW.PrintWords.add_add]
      exact this
    · obtain ⟨i, hi, rfl⟩ := List.mem_iff_getElem.1 hz
      obtain ⟨_, _, _, h⟩ := hp i hi
      exact h
theorem wf32 {n : Int} (h : (Lit.int .u32 n).wf = true) : u32P n := by have := bounds_u32 h; unfold u32P; omega
theorem wf64 {n : Int} (h : (Lit.int .u64 n).wf = true) : u64P n := by have := bounds_u64 h; unfold u64P; omega
theorem el_cond (n : Nat) (cs : List Value) (x : DataW H × List MemPlace) (hl : cs.length = 4) (h : DataW.trod enc Try.prog w base spare held n 61 cs = some x) : ∃ a : S61, k61.K w a cs ∧ condK a := by
  obtain ⟨xs, m, _, hx, hl2, hlx, hfi⟩ := DataW.trod_struct Try.underlying61 h
  have h1 : Try.prog.cellsOf 3 = 1 := by kernel_rfl
  have h2 : Try.prog.cellsOf 41 = 1 := by kernel_rfl
  match cs, hl with
  | [c0, c1, c2, c3], _ =>
    match xs, hlx with
    | [y0, y1, y2, y3], _ =>
      have f0 : DataW.trod enc Try.prog w base spare held m 3 ((List.drop 0 [c0, c1, c2, c3]).take (Try.prog.cellsOf 3)) = some y0 := hfi 0 _ rfl
      have f1 : DataW.trod enc Try.prog w base spare held m 3 ((List.drop 1 [c0, c1, c2, c3]).take (Try.prog.cellsOf 3)) = some y1 := hfi 1 _ rfl
      have f2 : DataW.trod enc Try.prog w base spare held m 41 ((List.drop 2 [c0, c1, c2, c3]).take (Try.prog.cellsOf 41)) = some y2 := hfi 2 _ rfl
      have f3 : DataW.trod enc Try.prog w base spare held m 41 ((List.drop 3 [c0, c1, c2, c3]).take (Try.prog.cellsOf 41)) = some y3 := hfi 3 _ rfl
      simp only [h1, h2, Value.cells, List.drop_zero, List.drop_succ_cons, List.take_succ_cons, List.take_zero] at f0 f1 f2 f3
      obtain ⟨x0, e0, g0, w0⟩ := DataW.trod_int Try.underlying3 f0
      obtain ⟨x1, e1, g1, w1⟩ := DataW.trod_int Try.underlying3 f1
      obtain ⟨x2, e2, g2, w2⟩ := DataW.trod_int Try.underlying41 f2
      obtain ⟨x3, e3, g3, w3⟩ := DataW.trod_int Try.underlying41 f3
      simp only [List.cons.injEq, and_true] at e0 e1 e2 e3
      subst e0 e1 e2 e3
      exact ⟨⟨x0, x1, x2, x3⟩, k61_mk w ⟨x0, x1, x2, x3⟩, wf64 w2, wf64 w3⟩
theorem el_rule (n : Nat) (cs : List Value) (x : DataW H × List MemPlace) (hl : cs.length = 4) (h : DataW.trod enc Try.prog w base spare held n 40 cs = some x) : ∃ a : S40, k40.K w a cs ∧ ruleK a := by
  obtain ⟨xs, m, _, hx, hl2, hlx, hfi⟩ := DataW.trod_struct Try.underlying40 h
  have h1 : Try.prog.cellsOf 23 = 1 := by kernel_rfl
  have h2 : Try.prog.cellsOf 38 = 1 := by kernel_rfl
  match cs, hl with
  | [c0, c1, c2, c3], _ =>
    match xs, hlx with
    | [y0, y1, y2, y3], _ =>
      have f0 : DataW.trod enc Try.prog w base spare held m 23 ((List.drop 0 [c0, c1, c2, c3]).take (Try.prog.cellsOf 23)) = some y0 := hfi 0 _ rfl
      have f1 : DataW.trod enc Try.prog w base spare held m 23 ((List.drop 1 [c0, c1, c2, c3]).take (Try.prog.cellsOf 23)) = some y1 := hfi 1 _ rfl
      have f2 : DataW.trod enc Try.prog w base spare held m 38 ((List.drop 2 [c0, c1, c2, c3]).take (Try.prog.cellsOf 38)) = some y2 := hfi 2 _ rfl
      have f3 : DataW.trod enc Try.prog w base spare held m 23 ((List.drop 3 [c0, c1, c2, c3]).take (Try.prog.cellsOf 23)) = some y3 := hfi 3 _ rfl
      simp only [h1, h2, Value.cells, List.drop_zero, List.drop_succ_cons, List.take_succ_cons, List.take_zero] at f0 f1 f2 f3
      obtain ⟨x0, e0, g0, w0⟩ := DataW.trod_int Try.underlying23 f0
      obtain ⟨x1, e1, g1, w1⟩ := DataW.trod_int Try.underlying23 f1
      obtain ⟨A, c, L, e2, hc, hr, hk⟩ := open_kd k61 condK Try.underlying38 (by kernel_rfl) el_cond f2
      obtain ⟨x3, e3, g3, w3⟩ := DataW.trod_int Try.underlying23 f3
      simp only [List.cons.injEq, and_true] at e0 e1 e2 e3
      subst e0 e1 e2 e3
      exact ⟨⟨x0, x1, L, x3⟩, k40_mk w ⟨x0, x1, L, x3⟩ hc hr, wf32 w0, wf32 w1, wf32 w3, hk⟩
theorem open_policy {r : Reach} {b0 : Nat} {v : Value} {d : DataW H} {ps : List MemPlace} (hval : Value.okWide Try.prog w r b0 25 v) (hd : DataW.Trod enc Try.prog w base spare held 25 v d ps) :
    ∃ (A : Option Addr) (c : Nat) (L : List S40) (df : Int), v = .agg #[.slice A L.length c, .int .u32 df] ∧ L.length ≤ c ∧ k40.C w A L.length L ∧ polK L df := by
  obtain ⟨cs, rfl, hsz⟩ := okWide_struct Try.underlying25 hval
  obtain ⟨fuel, hf⟩ := hd
  obtain ⟨xs, n, _, hx, hl, hlx, hfi⟩ := DataW.trod_struct Try.underlying25 hf
  have h9 : Try.prog.cellsOf 25 = 2 := by kernel_rfl
  have h1 : Try.prog.cellsOf 23 = 1 := by kernel_rfl
  have h2 : Try.prog.cellsOf 22 = 1 := by kernel_rfl
  have hc9 : cs.toList.length = 2 := by simpa [h9] using hsz
  obtain ⟨L, hL⟩ : ∃ L, cs.toList = L := ⟨_, rfl⟩
  have hcs : cs = L.toArray := by rw [← hL]
  rw [hL] at hc9
  subst hcs
  match L, hc9 with
  | [c0, c1], _ =>
    match xs, hlx with
    | [y0, y1], _ =>
      have f0 : DataW.trod enc Try.prog w base spare held n 22 ((List.drop 0 [c0, c1]).take (Try.prog.cellsOf 22)) = some y0 := hfi 0 _ rfl
      have f1 : DataW.trod enc Try.prog w base spare held n 23 ((List.drop 1 [c0, c1]).take (Try.prog.cellsOf 23)) = some y1 := hfi 1 _ rfl
      simp only [h1, h2, Value.cells, List.drop_zero, List.drop_succ_cons, List.take_succ_cons, List.take_zero] at f0 f1
      obtain ⟨A, c, L, e0, hc, hr, hk⟩ := open_kd k40 ruleK Try.underlying22 (by kernel_rfl) el_rule f0
      obtain ⟨df, e1, g1, w1⟩ := DataW.trod_int Try.underlying23 f1
      simp only [List.cons.injEq, and_true] at e0 e1
      subst e0 e1
      exact ⟨A, c, L, df, rfl, hc, hr, hk, wf32 w1⟩
end
end Go.Proofs.Ytekpbgmmogpbdaa.H
set_option linter.unusedVariables false
set_option linter.unusedSimpArgs false
set_option maxRecDepth 100000
namespace Go.Proofs.Ytekpbgmmogpbdaa.H
open Go.RowKit Go.Proofs.Ytekpbgmmogpbdaa.P Go.Proofs.YtekpbgmmogpbdaaW.PrintWords Go.Proofs.YtekpbgmmogpbdaaW.PrintLast
theorem kn_bindR : Ev (fun k => (hurdlelaw10_knows.f k).bind fun t => some t) true := Ev.bind knows_ev (Ev.now _)
theorem prints_ev (L : List S40) (df : Int) (h : polK L df) (hl : L.length ≤ 9223372036854775807) : Ev (fun k => hurdlelaw10_PolicyPrints.f k L df) true := by
  unfold hurdlelaw10_PolicyPrints.f
  refine Ev.bind (great_ev L df hl) ?_
  by_cases hg : greatB L = true
  · exact Ev_pos hg kn_bindR
  · refine Ev_neg hg ?_
    obtain ⟨g1, g2⟩ := great_false (Bool.eq_false_iff.2 hg)
    have hc : ∀ x ∈ L, x.f2.length ≤ 1000 := fun x hx => by have := g2 x hx; omega
    refine Ev.bind (print_ev L df h (by omega) hc) ?_
    refine Ev.bind (refRight_ev L df h (by omega) hc) ?_
    refine Ev.bind (right_ev L df h (by omega) hc) ?_
    refine Ev_neg (by simp) ?_
    by_cases hb : polB L df = true
    · have ho := (polOk_iff h).1 hb
      refine Ev_pos hb ?_
      simp only [if_pos hb]
      refine Ev.bind (refPrint_ev L df ho) ?_
      exact Ev_pos rfl (Ev_pos (by trivial) kn_bindR)
    · refine Ev_neg hb ?_
      simp only [if_neg hb]
      exact Ev_pos (by rw [ByteArray.toList_eq]) (Ev_pos (by trivial) kn_bindR)
theorem PolicyPrints_row (A : Option Addr) (c : Nat) (L : List S40) (df : Int) (W : World) (hc : L.length ≤ c) (hr : k40.C W A L.length L) (hk : polK L df) :
    Calls Try.prog 3 #[.agg #[.slice A L.length c, .int .u32 df]] W fun e w' => e = .returned (.bool true) ∧ Below W.heap.size W w' := by
  obtain ⟨k, h⟩ := Ev.rounds (prints_ev L df hk (C_len hr))
  exact (hurdlelaw10_PolicyPrints.calls k A c L df true W hr hc h).mono (fun e w' h => h)
end Go.Proofs.Ytekpbgmmogpbdaa.H
namespace Go.Proofs.Ytekpbgmmogpbdaa.policyPrints
open Go.ChangeShapes Go.WideShapes Go.ChangeAt Go.RowKit
open Go.ChangeMaps (open_string shut_string)
set_option linter.unusedVariables false
theorem laidOut : laidOutB Try.prog = true := by kernel_rfl
theorem own : ownKnob Try.prog.godebug = none := by kernel_rfl
set_option maxRecDepth 100000 in
theorem lifted (os : Os) (started : os.Started) (H : Type) (enc : TypeId × Value → H) :
    ReturnsInHanded {} Try.checked os 3 .any (Rows.policyPrintsSpec.pre6 enc Try.prog Try.f3 Rows.policyPrintsRow.domain false) (Rows.policyPrintsSpec.post enc Try.prog Try.f3 false true false false) := by
  refine returnsInHanded_of_change_sized (C := Try.checked) own started (by kernel_rfl) Try.func3
    (ChangeSpec.witness6 (enc := enc) (C := Try.checked) false ⟨#[], #[.agg #[.slice none 0 0, .int .u32 0]], []⟩ 8 (by kernel_rfl) (by kernel_rfl) (by kernel_rfl) (by kernel_rfl)) ?_
  intro W base args ds gs before hval0 hW hcnd hsz0 _
  have hsz : (DataW.weightsEach Try.prog (Try.f3.params.toList ++ Rows.policyPrintsSpec.plain.varTypes Try.prog) (ds ++ gs)).all (· ≤ reachBytes) = true := hsz0
  have hval : ∀ (j : Nat) t v, Try.f3.params[j]? = some t → args[j]? = some v → Value.okWide Try.prog W .any base t v := hval0
  have hW' := hW
  obtain ⟨p, q, hA0, hV, rfl, hfz, hnd⟩ := hW
  have hA : DataW.TrodAll enc Try.prog W 0 (fun _ => true) true Try.f3.params.toList args.toList ds p := hA0
  rw [Try.params3] at hA hval hsz
  obtain ⟨v0, vs0, d0, ds0, p0, q0, hargs, rfl, rfl, h0, r0⟩ := trodAll_cons hA
  obtain ⟨rfl, rfl, rfl⟩ := trodAll_nil r0
  obtain rfl : args = #[v0] := by cases args; simp_all
  obtain ⟨rfl, rfl⟩ := trodVars_none hV
  have k0 := h0
  have lt0 : ∀ x ∈ p0, x.block < W.heap.size := by obtain ⟨m, hm⟩ := k0; exact DataW.trod_lt m _ _ _ hm
  obtain ⟨A0, c0, L0, f0, rfl, hc0, hr0, b0⟩ := Go.Proofs.Ytekpbgmmogpbdaa.H.open_policy (hval 0 25 v0 rfl rfl) h0
  clear hA0 hval0 hsz0 hsz
  refine (Go.Proofs.Ytekpbgmmogpbdaa.H.PolicyPrints_row A0 c0 L0 f0 W hc0 hr0 b0).mono fun e W' ⟨he, bel⟩ => ?_
  subst he
  exact ⟨_, rfl, _, _, _, [], _, [], hW', trodAll_mk1 (shut_bool Try.underlying4 _), (trodAll_cons_mk (Below.trod laidOut (by kernel_rfl) (of_decide_eq_true (by kernel_rfl)) k0 bel lt0) trodAll_mk0), rfl, bel.frame _, fun h => by cases h⟩
theorem over : Rows.policyPrintsRow.holds Try.pinned (OpenSpec.ofChange Rows.policyPrintsSpec) :=
  OpenClaim.holds_of_wide 3 Try.f3 rfl rfl rfl rfl rfl rfl rfl ⟨rfl, rfl, rfl, rfl, rfl⟩ rfl rfl rfl rfl rfl (by kernel_rfl) Try.func3 (by kernel_rfl)
    (of_decide_eq_true (by kernel_rfl)) (by unfold Func.isWrapper; first | (rw [if_pos (by decide +kernel)]; kernel_rfl) | (rw [if_neg (by decide +kernel)]; exact ⟨rfl, rfl⟩))
    (fun os started H enc _ => lifted os started H enc)
theorem proved : Rows.PolicyPrintsSaid := over
#print axioms proved
end Go.Proofs.Ytekpbgmmogpbdaa.policyPrints
namespace Go.Proofs.Ytekpbgmmogpbdaa
theorem policyPrints_holds : Rows.PolicyPrintsSaid := policyPrints.proved
end Go.Proofs.Ytekpbgmmogpbdaa
