/-
Package data: of.
-/
import Derived.Test.YtgfmeiddicodoaaProg
import Derived.WalkKit
import Derived.WalkSpells
import Derived.WalkLawsBesides
import Derived.Handy
import Derived.Lib.Hide
import Derived.Deep.QuietTactic
import Derived.BigQuiet
import Derived.Test.YtgfmeiddicodoaaHData
set_option linter.unusedVariables false
set_option linter.unusedSimpArgs false
namespace Go.Proofs.Ytgfmeiddicodoaa.H
open Go.RowKit Go.Proofs.YtgfmeiddicodoaaW.PrintWords

set_option maxHeartbeats 2000000 in
theorem of_walk (ws : List Int) (hl : ws.length = 16) (hu : U32s ws) (w : World) :
    Calls Try.prog 42 #[.agg (nums .u32 ws).toArray] w fun e w' => e = .returned (dataV (ws.getD 0 0) (ws.getD 1 0) (arg2 ws 2) (argsOf ws)) ∧ Below w.heap.size w w' := by
  have HGET := Lib.hid (get_walk ws hl hu)
  have b2 := hu 2
  have b3 := hu 3
  have hor := or32 _ _ b2 b3
  have HU := Lib.hid hu
  have HLL := Lib.hid hl
  have HS := Lib.hid (ocs_six ws)
  have g0 := nums_get .u32 ws 0 (by omega)
  have g1 := nums_get .u32 ws 1 (by omega)
  have g2 := nums_get .u32 ws 2 (by omega)
  have g3 := nums_get .u32 ws 3 (by omega)
  clear hu hl
  generalize hx0 : ws.getD 0 0 = x0 at *
  generalize hx1 : ws.getD 1 0 = x1 at *
  generalize hx2 : ws.getD 2 0 = x2 at *
  generalize hx3 : ws.getD 3 0 = x3 at *
  have HX0 := Lib.hid hx0
  have HX1 := Lib.hid hx1
  have HX2 := Lib.hid hx2
  have HX3 := Lib.hid hx3
  have HAR := Lib.hid (rfl : arg2 ws 2 = ws.getD 2 0 + ws.getD 3 0 * 4294967296)
  clear hx0 hx1 hx2 hx3
  go_enter Try.func42, Try.ntmps42
  go_wp2_with fail
  obtain ⟨q1, q2, q3, q4, q5⟩ := alloc4 w (Obj.cells (nums IntKind.u32 ws).toArray 55) (Obj.cells #[Value.int IntKind.u32 0, Value.int IntKind.u32 0, Value.int IntKind.u64 0, Value.int IntKind.u64 0, Value.int IntKind.u64 0, Value.int IntKind.u64 0, Value.int IntKind.u64 0, Value.int IntKind.u64 0, Value.int IntKind.u64 0] 26) (Obj.cells #[Value.int IntKind.i64 4] 3) (Obj.cells #[Value.int IntKind.u32 x0, Value.int IntKind.u32 x1, Value.int IntKind.u64 (x2 + x3 * 4294967296), Value.int IntKind.u64 0, Value.int IntKind.u64 0, Value.int IntKind.u64 0, Value.int IntKind.u64 0, Value.int IntKind.u64 0, Value.int IntKind.u64 0] 26)
  have hoc : #[Value.int IntKind.u32 x0, Value.int IntKind.u32 x1, Value.int IntKind.u64 (x2 + x3 * 4294967296), Value.int IntKind.u64 0, Value.int IntKind.u64 0, Value.int IntKind.u64 0, Value.int IntKind.u64 0, Value.int IntKind.u64 0, Value.int IntKind.u64 0] = (ocs ws 0).toArray := by
    unfold ocs arg2; rw [HX0.out, HX1.out, HX2.out, HX3.out]
  have q4' := q4.trans (congrArg (fun c => some (Obj.cells c 26 (0, 0))) hoc)
  clear hoc
  generalize hW : ((((w.alloc (Obj.cells (nums IntKind.u32 ws).toArray 55)).alloc (Obj.cells #[Value.int IntKind.u32 0, Value.int IntKind.u32 0, Value.int IntKind.u64 0, Value.int IntKind.u64 0, Value.int IntKind.u64 0, Value.int IntKind.u64 0, Value.int IntKind.u64 0, Value.int IntKind.u64 0, Value.int IntKind.u64 0] 26)).alloc (Obj.cells #[Value.int IntKind.i64 4] 3)).alloc (Obj.cells #[Value.int IntKind.u32 x0, Value.int IntKind.u32 x1, Value.int IntKind.u64 (x2 + x3 * 4294967296), Value.int IntKind.u64 0, Value.int IntKind.u64 0, Value.int IntKind.u64 0, Value.int IntKind.u64 0, Value.int IntKind.u64 0, Value.int IntKind.u64 0] 26)) = W0 at *
  have Q1 := Lib.hid q1
  have Q2 := Lib.hid q2
  have Q3 := Lib.hid q3
  have Q4 := Lib.hid q4'
  have Q5 := Lib.hid q5
  clear q1 q2 q3 q4 q4' q5 hW hor g0 g1 g2 g3 b2 b3
  go_loopw [21] (fun i wr => ∃ k : Nat, k ≤ 6 ∧ i = .int .i64 (k : Int) ∧ wr.heap[w.heap.size + 1 + 1 + 1]? = some (.cells (ocs ws k).toArray 26 (0, 0)) ∧
      wr.heap[w.heap.size + 1 + 1]? = some (.cells #[.int .i64 ((4 + 2 * k : Nat) : Int)] 3 (0, 0)) ∧ But2 (w.heap.size + 1 + 1) (w.heap.size + 1 + 1 + 1) W0 wr) (fun i _ => 6 - (intOf i).toNat)
  case atStart => exact ⟨0, by omega, rfl, Q4.out, Q3.out, But2.refl _ _ _⟩
  case round =>
    obtain ⟨k, hk, rfl, hg, ha, hb⟩ := hrel
    have HG := Lib.hid hg
    have HA := Lib.hid ha
    have HB := Lib.hid hb
    clear hg ha hb
    by_cases hlt : k < 6
    · go_wp2_with fail
      have hh0 : wr.heap[w.heap.size]? = some (Obj.cells (nums IntKind.u32 ws).toArray 55 (0, 0)) := (HB.out.block _ (by omega) (by omega)).trans Q1.out
      refine (HGET.out (w.heap.size) (w.heap.size + 1 + 1) (by omega) (4 + 2 * k) (by omega) _ hh0 HA.out).mono ?_
      clear hh0
      rintro e W3 ⟨rfl, hb, ha⟩
      have hd : W3.heap[w.heap.size + 1 + 1 + 1]? = _ := (hb.block _ (by omega) (by omega)).trans HG.out
      have hl9 := ocs_length ws k
      have c1 : W3.cell? ⟨w.heap.size + 1 + 1 + 1, 3 + k, none⟩ = some ((ocs ws k)[3 + k]'(by omega)) := cell_row hd (3 + k) _ (List.getElem?_eq_getElem (by omega))
      have f1 : W3.frozen? ⟨w.heap.size + 1 + 1 + 1, 3 + k, none⟩ = false := frozen_of_row W3 _ _ _ _ hd
      generalize (ocs ws k)[3 + k]'(by omega) = old at *
      have HB3 := Lib.hid (But2.trans HB.out (⟨hb.os, hb.tape, hb.output, hb.size, fun i h1 h2 => hb.block i h1 h1⟩ : But2 (w.heap.size + 1 + 1) (w.heap.size + 1 + 1 + 1) wr W3))
      have HA3 := Lib.hid ha
      have HD3 := Lib.hid hd
      clear hb ha hd hl9
      generalize hv : arg2 ws (4 + 2 * k) = v at *
      have HV := Lib.hid hv
      clear hv
      go_wp2
      go_roundw
      case rel =>
        refine ⟨k + 1, by omega, by go_num, ?_, ?_, HB3.out.set2 _ _⟩
        · rw [heap_set_row HD3.out, ← HV.out]; rfl
        · rw [heap_setCell_other _ _ _ _ (by simp)]
          have := HA3.out
          rw [this]; congr 3
      case measure => simp [intOf]; omega
    · obtain rfl : k = 6 := by omega
      have hd := HG.out
      rw [HS.out] at hd
      have hone : ∀ v ∈ (Value.int .u32 x0 :: Value.int .u32 x1 :: Value.int .u64 (arg2 ws 2) :: nums .u64 (argsOf ws)).toArray.toList, v.oneCell' = true := by
        intro v hv
        simp [nums] at hv
        rcases hv with rfl | rfl | rfl | ⟨a, -, rfl⟩ <;> rfl
      have hres : wr.heap[w.heap.size + 1]? = _ := (HB.out.block _ (by omega) (by omega)).trans Q2.out
      have hi : ((Try.prog.info? 26).map (·.size) = some (Value.int .u32 x0 :: Value.int .u32 x1 :: Value.int .u64 (arg2 ws 2) :: nums .u64 (argsOf ws)).toArray.size) := by
        rw [show (Value.int .u32 x0 :: Value.int .u32 x1 :: Value.int .u64 (arg2 ws 2) :: nums .u64 (argsOf ws)).toArray.size = 9 from by simp [nums, argsOf]]; kernel_rfl
      have hlen : (Value.int .u32 x0 :: Value.int .u32 x1 :: Value.int .u64 (arg2 ws 2) :: nums .u64 (argsOf ws)).toArray.size = 9 := by simp [nums, argsOf]
      generalize hR : (Value.int .u32 x0 :: Value.int .u32 x1 :: Value.int .u64 (arg2 ws 2) :: nums .u64 (argsOf ws)).toArray = R at hd hone hlen hi
      have HR := Lib.hid hR
      have HD := Lib.hid hd
      have RES := Lib.hid hres
      have ONE := Lib.hid hone
      have LEN := Lib.hid hlen
      have HI := Lib.hid hi
      clear hd hone hres hlen hi hR
      go_wp2_with (first | (refine wpList_load_row rfl 26 (.tmp 5) rfl (w.heap.size + 1 + 1 + 1) rfl _ _ _ _ HD.out Try.underlying26 rfl HI.out ?_) | (refine wpList_store_row rfl 26 (.tmp 2) (.tmp 30) rfl rfl (w.heap.size + 1) rfl R rfl _ _ RES.out (by simp [LEN.out]) HI.out ONE.out ?_))
      have hfin := heap_setRow_same wr (w.heap.size + 1) R _ 26 _ RES.out
      refine bodyPost_ret (results_cell_row rfl _ _ (w.heap.size + 1) _ _ _ _ rfl hfin Try.underlying26 rfl HI.out) rfl ?_
      refine ⟨by rw [← HR.out]; rfl, ?_⟩
      refine (Q5.out.trans (HB.out.below (by omega) (by omega))).trans ⟨rfl, rfl, rfl, by simp [World.setRow], fun k hk => heap_setRow_other _ _ _ _ (by omega)⟩
end Go.Proofs.Ytgfmeiddicodoaa.H
