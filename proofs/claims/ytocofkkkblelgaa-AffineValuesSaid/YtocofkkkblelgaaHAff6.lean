/-
Package affine: the other functions.
-/
import Derived.Test.YtocofkkkblelgaaProg
import Derived.WalkKit
import Derived.WalkSpells
import Derived.WalkLawsBesides
import Derived.Handy
import Derived.Lib.Hide
import Derived.Deep.QuietTactic
import Derived.BigQuiet
import Derived.StillTailTactics
import Derived.Test.YtocofkkkblelgaaHArr
import Derived.Test.YtocofkkkblelgaaHAff5
import Derived.Test.YtocofkkkblelgaaWEqStruct
import Derived.Test.YtocofkkkblelgaaWWords
set_option linter.unusedVariables false
set_option linter.unusedSimpArgs false
namespace Go.Proofs.Ytocofkkkblelgaa.H
open Go.RowKit Go.Proofs.YtocofkkkblelgaaW.PrintWords



def apart (f0 g0 : Int) (fs gs : List Int) : List Int × Bool :=
  if (f0 != g0) = true then (z34, true) else
    match (List.range 34).find? (fun i => fs.getD i 0 != gs.getD i 0) with
    | some i => (z34.set i 1, true)
    | none => (z34, false)
theorem find_first (p : Nat → Bool) (n k : Nat) (hk : k < n) (h1 : ∀ j, j < k → p j = false) (h2 : p k = true) : (List.range n).find? p = some k := by
  rw [List.find?_range_eq_some]
  exact ⟨h2, by simpa using hk, fun j hj => by simp [h1 j hj]⟩
theorem find_none (p : Nat → Bool) (n : Nat) (h1 : ∀ j, j < n → p j = false) : (List.range n).find? p = none := by
  rw [List.find?_eq_none]
  intro x hx
  simp [h1 x (by simpa using hx)]
theorem alloc4 (w : World) (A B C D : Obj) :
    ((((w.alloc A).alloc B).alloc C).alloc D).heap[w.heap.size]? = some A ∧ ((((w.alloc A).alloc B).alloc C).alloc D).heap[w.heap.size + 1]? = some B ∧
    ((((w.alloc A).alloc B).alloc C).alloc D).heap[w.heap.size + 1 + 1]? = some C ∧ ((((w.alloc A).alloc B).alloc C).alloc D).heap[w.heap.size + 1 + 1 + 1]? = some D ∧
    Below w.heap.size w ((((w.alloc A).alloc B).alloc C).alloc D) := by
  have e : ((((w.alloc A).alloc B).alloc C).alloc D).heap = (((w.heap.push A).push B).push C).push D := rfl
  rw [e]
  refine ⟨?_, ?_, ?_, ?_, ?_⟩
  · simp only [Array.getElem?_push, Array.size_push]; rw [if_neg (by omega), if_neg (by omega), if_neg (by omega), if_pos trivial]
  · simp only [Array.getElem?_push, Array.size_push]; rw [if_neg (by omega), if_neg (by omega), if_pos trivial]
  · simp only [Array.getElem?_push, Array.size_push]; rw [if_neg (by omega), if_pos trivial]
  · simp only [Array.getElem?_push, Array.size_push]; rw [if_pos trivial]
  · exact (((((Below.refl _ _).alloc (Nat.le_refl _) _).alloc (by simp) _).alloc (by simp; omega) _).alloc (by simp; omega) _)
theorem info_arr (vs : List Int) (h : vs.length = 34) : (Try.prog.info? 23).map (·.size) = some (nums .u32 vs).toArray.size := by
  rw [show (nums .u32 vs).toArray.size = 34 from by simp [nums, h]]; kernel_rfl

set_option maxHeartbeats 2000000 in
theorem Apart_walk (f0 g0 : Int) (fs gs : List Int) (hf : fs.length = 34) (hg : gs.length = 34) (hfu : U32s fs) (hgu : U32s gs) (w : World) :
    Calls Try.prog 26 #[FV f0 fs, FV g0 gs] w fun e w' => e = .returned (.tuple #[.agg (nums .u32 (apart f0 g0 fs gs).1).toArray, .bool (apart f0 g0 fs gs).2]) ∧ Below w.heap.size w w' := by
  unfold FV
  have HSZ := Lib.hid (size_form f0 fs hf)
  have HEX := Lib.hid (ext34 f0 fs hf)
  have HFL := Lib.hid hf
  have HGL := Lib.hid hg
  have HIX := Lib.hid (idx34 fs hf)
  have HIZ := Lib.hid (info_arr z34 z34_len)
  have HOZ := Lib.hid (oneCell_nums .u32 z34)
  have hap : ∀ r, apart f0 g0 fs gs = r → Calls Try.prog 26 #[.agg (Value.int .u32 f0 :: nums .u32 fs).toArray, .agg (Value.int .u32 g0 :: nums .u32 gs).toArray] w fun e w' => e = .returned (.tuple #[.agg (nums .u32 r.1).toArray, .bool r.2]) ∧ Below w.heap.size w w' := by
    intro r hr
    have HR := Lib.hid hr
    obtain ⟨q0, q1, q2, q3, q4⟩ := alloc4 w (Obj.cells (Value.int .u32 f0 :: nums .u32 fs).toArray 25) (Obj.cells (Value.int .u32 g0 :: nums .u32 gs).toArray 25) (Obj.cells #[Value.int .u32 0, Value.int .u32 0, Value.int .u32 0, Value.int .u32 0, Value.int .u32 0, Value.int .u32 0, Value.int .u32 0, Value.int .u32 0, Value.int .u32 0, Value.int .u32 0, Value.int .u32 0, Value.int .u32 0, Value.int .u32 0, Value.int .u32 0, Value.int .u32 0, Value.int .u32 0, Value.int .u32 0, Value.int .u32 0, Value.int .u32 0, Value.int .u32 0, Value.int .u32 0, Value.int .u32 0, Value.int .u32 0, Value.int .u32 0, Value.int .u32 0, Value.int .u32 0, Value.int .u32 0, Value.int .u32 0, Value.int .u32 0, Value.int .u32 0, Value.int .u32 0, Value.int .u32 0, Value.int .u32 0, Value.int .u32 0] 23) (Obj.cells #[Value.int .u32 0, Value.int .u32 0, Value.int .u32 0, Value.int .u32 0, Value.int .u32 0, Value.int .u32 0, Value.int .u32 0, Value.int .u32 0, Value.int .u32 0, Value.int .u32 0, Value.int .u32 0, Value.int .u32 0, Value.int .u32 0, Value.int .u32 0, Value.int .u32 0, Value.int .u32 0, Value.int .u32 0, Value.int .u32 0, Value.int .u32 0, Value.int .u32 0, Value.int .u32 0, Value.int .u32 0, Value.int .u32 0, Value.int .u32 0, Value.int .u32 0, Value.int .u32 0, Value.int .u32 0, Value.int .u32 0, Value.int .u32 0, Value.int .u32 0, Value.int .u32 0, Value.int .u32 0, Value.int .u32 0, Value.int .u32 0] 23)
    have Q0 := Lib.hid q0
    have Q1 := Lib.hid q1
    have Q2 := Lib.hid q2
    have Q3 := Lib.hid (show ((((w.alloc (Obj.cells (Value.int .u32 f0 :: nums .u32 fs).toArray 25)).alloc (Obj.cells (Value.int .u32 g0 :: nums .u32 gs).toArray 25)).alloc (Obj.cells #[Value.int .u32 0, Value.int .u32 0, Value.int .u32 0, Value.int .u32 0, Value.int .u32 0, Value.int .u32 0, Value.int .u32 0, Value.int .u32 0, Value.int .u32 0, Value.int .u32 0, Value.int .u32 0, Value.int .u32 0, Value.int .u32 0, Value.int .u32 0, Value.int .u32 0, Value.int .u32 0, Value.int .u32 0, Value.int .u32 0, Value.int .u32 0, Value.int .u32 0, Value.int .u32 0, Value.int .u32 0, Value.int .u32 0, Value.int .u32 0, Value.int .u32 0, Value.int .u32 0, Value.int .u32 0, Value.int .u32 0, Value.int .u32 0, Value.int .u32 0, Value.int .u32 0, Value.int .u32 0, Value.int .u32 0, Value.int .u32 0] 23)).alloc (Obj.cells #[Value.int .u32 0, Value.int .u32 0, Value.int .u32 0, Value.int .u32 0, Value.int .u32 0, Value.int .u32 0, Value.int .u32 0, Value.int .u32 0, Value.int .u32 0, Value.int .u32 0, Value.int .u32 0, Value.int .u32 0, Value.int .u32 0, Value.int .u32 0, Value.int .u32 0, Value.int .u32 0, Value.int .u32 0, Value.int .u32 0, Value.int .u32 0, Value.int .u32 0, Value.int .u32 0, Value.int .u32 0, Value.int .u32 0, Value.int .u32 0, Value.int .u32 0, Value.int .u32 0, Value.int .u32 0, Value.int .u32 0, Value.int .u32 0, Value.int .u32 0, Value.int .u32 0, Value.int .u32 0, Value.int .u32 0, Value.int .u32 0] 23)).heap[w.heap.size + 1 + 1 + 1]? = some (Obj.cells (nums .u32 z34).toArray 23 (0, 0)) from q3)
    have Q4 := Lib.hid q4
    clear q0 q1 q2 q3 q4 hr hf hg hfu hgu
    by_cases h0 : f0 = g0
    · have h0' : (f0 != g0) = false := by simpa using h0
      have hrz : (match (List.range 34).find? (fun i => fs.getD i 0 != gs.getD i 0) with | some i => (z34.set i 1, true) | none => (z34, false)) = r := by
        rw [← HR.out]; unfold apart; rw [if_neg (by rw [h0']; decide)]
      have HRZ := Lib.hid hrz
      clear h0 HR hrz
      go_enter Try.func26, Try.ntmps26
      go_wp2_with (refine wpList_load_sub rfl 23 (.tmp 15) rfl w.heap.size 1 34 rfl _ _ _ _ Q0.out Try.underlying23 rfl (by kernel_rfl) (by simp [HSZ.out]) ?_; rw [HEX.out])
      generalize hW : ((((w.alloc (Obj.cells (Value.int .u32 f0 :: nums .u32 fs).toArray 25)).alloc (Obj.cells (Value.int .u32 g0 :: nums .u32 gs).toArray 25)).alloc (Obj.cells #[Value.int .u32 0, Value.int .u32 0, Value.int .u32 0, Value.int .u32 0, Value.int .u32 0, Value.int .u32 0, Value.int .u32 0, Value.int .u32 0, Value.int .u32 0, Value.int .u32 0, Value.int .u32 0, Value.int .u32 0, Value.int .u32 0, Value.int .u32 0, Value.int .u32 0, Value.int .u32 0, Value.int .u32 0, Value.int .u32 0, Value.int .u32 0, Value.int .u32 0, Value.int .u32 0, Value.int .u32 0, Value.int .u32 0, Value.int .u32 0, Value.int .u32 0, Value.int .u32 0, Value.int .u32 0, Value.int .u32 0, Value.int .u32 0, Value.int .u32 0, Value.int .u32 0, Value.int .u32 0, Value.int .u32 0, Value.int .u32 0] 23)).alloc (Obj.cells #[Value.int .u32 0, Value.int .u32 0, Value.int .u32 0, Value.int .u32 0, Value.int .u32 0, Value.int .u32 0, Value.int .u32 0, Value.int .u32 0, Value.int .u32 0, Value.int .u32 0, Value.int .u32 0, Value.int .u32 0, Value.int .u32 0, Value.int .u32 0, Value.int .u32 0, Value.int .u32 0, Value.int .u32 0, Value.int .u32 0, Value.int .u32 0, Value.int .u32 0, Value.int .u32 0, Value.int .u32 0, Value.int .u32 0, Value.int .u32 0, Value.int .u32 0, Value.int .u32 0, Value.int .u32 0, Value.int .u32 0, Value.int .u32 0, Value.int .u32 0, Value.int .u32 0, Value.int .u32 0, Value.int .u32 0, Value.int .u32 0] 23)) = W0 at *
      clear hW
      go_loopw [17] (fun i wr => ∃ k : Nat, k ≤ 34 ∧ i = .int .i64 (k : Int) ∧ (∀ j, j < k → (fs.getD j 0 != gs.getD j 0) = false) ∧ wr = W0) (fun i _ => 34 - (intOf i).toNat)
      case atStart => exact ⟨0, by omega, rfl, fun j hj => by omega, rfl⟩
      case round =>
        obtain ⟨k, hk, rfl, hall, rfl⟩ := hrel
        have HALL := Lib.hid hall
        clear hall
        by_cases hlt : k < 34
        · have hix := HIX.out k hlt
          have c1 : wr.cell? ⟨w.heap.size + 1, 1 + k, none⟩ = some (.int .u32 (gs.getD k 0)) := cell_row Q1.out (1 + k) _ (by rw [Nat.add_comm, List.getElem?_cons_succ]; exact nums_get .u32 gs k (by have := HGL.out; omega))
          have c2 : wr.cell? ⟨w.heap.size + 1 + 1 + 1, k, none⟩ = some (.int .u32 (z34.getD k 0)) := cell_row Q3.out k _ (nums_get .u32 z34 k (by rw [z34_len]; omega))
          have f2 : wr.frozen? ⟨w.heap.size + 1 + 1 + 1, k, none⟩ = false := frozen_of_row _ _ _ _ _ Q3.out
          cases hne : (fs.getD k 0 != gs.getD k 0) with
          | false =>
            have hall2 : ∀ j, j < k + 1 → (fs.getD j 0 != gs.getD j 0) = false := by
              intro j hj
              by_cases e : j = k
              · rw [e]; exact hne
              · exact HALL.out j (by omega)
            have HALL2 := Lib.hid hall2
            clear hall2
            generalize fs.getD k 0 = x at *
            generalize gs.getD k 0 = y at *
            go_wp2_with fail
            refine ⟨⟨k + 1, by omega, by go_num, HALL2.out, trivial⟩, ?_⟩
            simp [intOf]; omega
          | true =>
            have HFF := Lib.hid (find_first (fun i => fs.getD i 0 != gs.getD i 0) 34 k hlt HALL.out hne)
            have hrz := HRZ.out
            rw [HFF.out] at hrz
            subst hrz
            have hl : (z34.set k 1).length = 34 := by simp [z34_len]
            have HI := Lib.hid (info_arr (z34.set k 1) hl)
            have HO := Lib.hid (oneCell_nums .u32 (z34.set k 1))
            have HS := Lib.hid (show 34 = (nums .u32 (z34.set k 1)).toArray.size by simp [nums, z34_len])
            have r3 := heap_set_row Q3.out k (.int .u32 1)
            rw [nums_set] at r3
            have R3 := Lib.hid r3
            have R2 := Lib.hid ((heap_setCell_other wr ⟨w.heap.size + 1 + 1 + 1, k, none⟩ (w.heap.size + 1 + 1) (.int .u32 1) (by simp)).trans Q2.out)
            generalize fs.getD k 0 = x at *
            generalize gs.getD k 0 = y at *
            generalize z34.getD k 0 = z at *
            clear hl r3 HFF
            go_wp2_with (first | (refine wpList_load_row rfl 23 (.tmp 6) rfl (w.heap.size + 1 + 1 + 1) rfl _ _ _ _ R3.out Try.underlying23 rfl HI.out ?_) | (refine wpList_store_row rfl 23 (.tmp 4) (.tmp 29) rfl rfl (w.heap.size + 1 + 1) rfl (nums .u32 (z34.set k 1)).toArray rfl _ _ R2.out HS.out HI.out HO.out ?_))
            have hfin := heap_setRow_same _ (w.heap.size + 1 + 1) (nums .u32 (z34.set k 1)).toArray _ 23 _ R2.out
            refine bodyPost_ret (results_ct rfl _ _ (w.heap.size + 1 + 1) _ _ _ _ rfl hfin Try.underlying23 rfl HI.out) rfl ?_
            exact ⟨rfl, Q4.out.trans ((show Below w.heap.size wr (wr.setCell ⟨w.heap.size + 1 + 1 + 1, k, none⟩ (.int .u32 1)) from ⟨rfl, rfl, rfl, by simp [World.setCell], fun q hq => heap_setCell_other _ _ _ _ (by simp; omega)⟩).trans ⟨rfl, rfl, rfl, by simp [World.setRow], fun k hk => heap_setRow_other _ _ _ _ (by omega)⟩)⟩
        · obtain rfl : k = 34 := by omega
          have HFN := Lib.hid (find_none (fun i => fs.getD i 0 != gs.getD i 0) 34 HALL.out)
          have hrz := HRZ.out
          rw [HFN.out] at hrz
          subst hrz
          go_wp2_with (first | (refine wpList_load_row rfl 23 (.tmp 6) rfl (w.heap.size + 1 + 1 + 1) rfl _ _ _ _ Q3.out Try.underlying23 rfl HIZ.out ?_) | (refine wpList_store_row rfl 23 (.tmp 4) (.tmp 31) rfl rfl (w.heap.size + 1 + 1) rfl (nums .u32 z34).toArray rfl _ _ Q2.out rfl HIZ.out HOZ.out ?_))
          have hfin := heap_setRow_same _ (w.heap.size + 1 + 1) (nums .u32 z34).toArray _ 23 _ Q2.out
          refine bodyPost_ret (results_ct rfl _ _ (w.heap.size + 1 + 1) _ _ _ _ rfl hfin Try.underlying23 rfl HIZ.out) rfl ?_
          exact ⟨rfl, Q4.out.trans ⟨rfl, rfl, rfl, by simp [World.setRow], fun k hk => heap_setRow_other _ _ _ _ (by omega)⟩⟩
    · have h0' : (f0 != g0) = true := by simpa using h0
      have hrz : r = (z34, true) := by rw [← HR.out]; unfold apart; rw [if_pos h0']
      subst hrz
      clear h0 HR
      go_enter Try.func26, Try.ntmps26
      go_wp2_with (first | (refine wpList_load_row rfl 23 (.tmp 6) rfl (w.heap.size + 1 + 1 + 1) rfl _ _ _ _ Q3.out Try.underlying23 rfl HIZ.out ?_) | (refine wpList_store_row rfl 23 (.tmp 4) (.tmp 14) rfl rfl (w.heap.size + 1 + 1) rfl (nums .u32 z34).toArray rfl _ _ Q2.out rfl HIZ.out HOZ.out ?_))
      have hfin := heap_setRow_same _ (w.heap.size + 1 + 1) (nums .u32 z34).toArray _ 23 _ Q2.out
      refine bodyPost_ret (results_ct rfl _ _ (w.heap.size + 1 + 1) _ _ _ _ rfl hfin Try.underlying23 rfl HIZ.out) rfl ?_
      exact ⟨rfl, Q4.out.trans ⟨rfl, rfl, rfl, by simp [World.setRow], fun k hk => heap_setRow_other _ _ _ _ (by omega)⟩⟩
  exact hap _ rfl
end Go.Proofs.Ytocofkkkblelgaa.H
