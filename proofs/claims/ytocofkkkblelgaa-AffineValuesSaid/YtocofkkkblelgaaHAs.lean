/-
Package hurdlelaw14: As and row.
-/
import Derived.Test.YtocofkkkblelgaaProg
import Derived.WalkKit
import Derived.WalkSpells
import Derived.WalkLawsBesides
import Derived.Handy
import Derived.Lib.Hide
import Derived.Deep.QuietTactic
import Derived.BigQuiet
import Derived.StillTailTactics
import Derived.Laws.ResultCell
import Derived.Test.YtocofkkkblelgaaHAff9
import Derived.Test.YtocofkkkblelgaaHOpenA
import Derived.Test.YtocofkkkblelgaaHApp
import Derived.Test.YtocofkkkblelgaaWWords
set_option linter.unusedVariables false
set_option linter.unusedSimpArgs false
namespace Go.Proofs.Ytocofkkkblelgaa.H
open Go.RowKit Go.Proofs.YtocofkkkblelgaaW.PrintWords

theorem info22d : (Try.prog.info? 22).map (fun i => (i.zero, i.size, i.bytes)) = some (some (.int .u32 0), 1, 4) := by kernel_rfl
theorem take_snoc (l : List Int) (k : Nat) (h : k < l.length) : l.take (k + 1) = l.take k ++ [l.getD k 0] := by
  rw [List.take_add_one, List.getElem?_eq_getElem h]
  simp [List.getD_eq_getElem?_getD, List.getElem?_eq_getElem h]

set_option maxHeartbeats 2000000 in
theorem row_walk (vs : List Int) (hv : IsVal vs) (w : World) :
    Calls Try.prog 25 #[.agg (nums .u32 vs).toArray] w fun e w' => ∃ v, e = .returned v ∧ w'.ownsRow w.heap.size 22 1 v 34 (nums .u32 vs) ∧ Below w.heap.size w w' := by
  obtain ⟨hl, hu⟩ := hv
  have Q0 := Lib.hid (heap_alloc_new w (Obj.cells (nums .u32 vs).toArray 23))
  have Q3 := Lib.hid ((Below.refl w.heap.size w).alloc (Nat.le_refl _) (Obj.cells (nums .u32 vs).toArray 23))
  have HL := Lib.hid hl
  have HU := Lib.hid hu
  clear hl hu
  go_enter Try.func25, Try.ntmps25
  go_wp2_with fail
  generalize hW : w.alloc (Obj.cells (nums .u32 vs).toArray 23) = W0 at *
  clear hW
  have HN := Lib.hid (World.ownsRow_nil W0 w.heap.size 22 1)
  go_loopw [3, 4] (fun v i wr => ∃ k : Nat, k ≤ 34 ∧ i = .int .i64 (k : Int) ∧ wr.ownsRow w.heap.size 22 1 v (vs.take k).length (nums .u32 (vs.take k)) ∧ wr.heap[w.heap.size]? = some (.cells (nums .u32 vs).toArray 23 (0, 0)) ∧ Below w.heap.size w wr) (fun _ i _ => 34 - (intOf i).toNat)
  case atStart => exact ⟨0, by omega, rfl, HN.out, Q0.out, Q3.out⟩
  case round =>
    obtain ⟨k, hk, rfl, ho, hg, hb⟩ := hrel
    have HO := Lib.hid ho
    have HG := Lib.hid hg
    have HB := Lib.hid hb
    clear ho hg hb
    by_cases hlt : k < 34
    · have c1 : wr.cell? ⟨w.heap.size, k, none⟩ = some (.int .u32 (vs.getD k 0)) := cell_row HG.out k _ (nums_get .u32 vs k (by rw [HL.out]; omega))
      have HT := Lib.hid (take_snoc vs k (by rw [HL.out]; omega))
      generalize vs.getD k 0 = x at *
      have HLE := Lib.hid (show (vs.take k).length ≤ 34 by simp; omega)
      go_wp2_with (at_builtin; go_must (refine print_append_num (w0 := w) w.heap.size rfl (.tmp 9) (.tmp 13) 30 22 .u32 4 rfl Try.underlying30 info22d (by decide) _ (vs.take k) x rfl rfl HO.out HB.out HB.out.size (by have := HLE.out; omega) ?_); intro v' w2 ho hb1 hg1 _; have HO2 := Lib.hid ho; have HB1 := Lib.hid hb1; have HG2 := Lib.hid (blk_grown HG.out hg1 (own_ne HO.out HG.out (by decide))); clear ho hb1 hg1)
      refine ⟨⟨k + 1, by omega, by go_num, by rw [HT.out]; exact HO2.out, HG2.out, HB1.out⟩, ?_⟩
      simp [intOf]; omega
    · obtain rfl : k = 34 := by omega
      have ho := HO.out
      rw [List.take_of_length_le (by rw [HL.out]; omega), HL.out] at ho
      have HO6 := Lib.hid ho
      clear ho
      go_wp2
      go_ret
      exact ⟨_, rfl, HO6.out, HB.out⟩

set_option maxHeartbeats 2000000 in
theorem As_walk (f0 : Int) (fs : List Int) (hf : IsForm f0 fs) (w : World) :
    Calls Try.prog 11 #[FV f0 fs] w fun e w' => ∃ v, e = .returned (.agg #[.int .u32 f0, v]) ∧ w'.ownsRow w.heap.size 22 1 v 34 (nums .u32 fs) ∧ Below w.heap.size w w' := by
  obtain ⟨hl, h0, hu⟩ := hf
  unfold FV
  obtain ⟨q1, q2, q3, q4, q5⟩ := alloc3 w (Obj.cells (Value.int .u32 f0 :: nums .u32 fs).toArray 25) (Obj.cells #[Value.int .u32 0, Value.slice none 0 0] 32) (Obj.cells #[Value.int .u32 f0, Value.slice none 0 0] 32)
  have HL := Lib.hid hl
  have HU := Lib.hid hu
  have c0 : (w.alloc (Obj.cells (Value.int .u32 f0 :: nums .u32 fs).toArray 25)).cell? ⟨w.heap.size, 0, none⟩ = some (.int .u32 f0) := blk_cell (heap_alloc_new w _) 0
  have q1' := Lib.hid q1
  have q2' := Lib.hid q2
  have q3' := Lib.hid q3
  have q5' := Lib.hid q5
  clear hl hu q1 q2 q3 q4 q5
  go_enter Try.func11, Try.ntmps11
  go_wp2_with fail
  generalize hW : ((w.alloc (Obj.cells (Value.int .u32 f0 :: nums .u32 fs).toArray 25)).alloc (Obj.cells #[Value.int .u32 0, Value.slice none 0 0] 32)).alloc (Obj.cells #[Value.int .u32 f0, Value.slice none 0 0] 32) = W0 at *
  clear hW c0
  have HN := Lib.hid (World.ownsRow_nil W0 w.heap.size 22 1)
  go_loopw [4] (fun i wr => ∃ (k : Nat) (v : Value) (xs : List Int), k ≤ 34 ∧ xs = fs.take k ∧ i = .int .i64 (k : Int) ∧ wr.ownsRow w.heap.size 22 1 v xs.length (nums .u32 xs) ∧ wr.heap[w.heap.size]? = some (.cells (Value.int .u32 f0 :: nums .u32 fs).toArray 25 (0, 0)) ∧
      wr.heap[w.heap.size + 1]? = some (.cells #[Value.int .u32 0, Value.slice none 0 0] 32 (0, 0)) ∧ wr.heap[w.heap.size + 1 + 1]? = some (.cells #[Value.int .u32 f0, v] 32 (0, 0)) ∧ Below w.heap.size w wr) (fun i _ => 34 - (intOf i).toNat)
  case atStart => exact ⟨0, _, [], by omega, rfl, rfl, HN.out, q1'.out, q2'.out, q3'.out, q5'.out⟩
  case round =>
    obtain ⟨k, v, xs, hk, hxs, rfl, ho, g1, g2, g3, hb⟩ := hrel
    have HXS := Lib.hid hxs
    have HXL := Lib.hid (show xs.length = k by rw [hxs, List.length_take, HL.out]; omega)
    clear hxs
    obtain ⟨Av, cv, rfl⟩ := own_slice ho
    have HO := Lib.hid ho
    have G1 := Lib.hid g1
    have G2 := Lib.hid g2
    have G3 := Lib.hid g3
    have HB := Lib.hid hb
    clear ho g1 g2 g3 hb q1' q2' q3' q5' HN
    by_cases hlt : k < 34
    · have HX := Lib.hid (show (Value.int .u32 f0 :: nums .u32 fs)[1 + k]? = some (.int .u32 (fs.getD k 0)) by rw [Nat.add_comm, List.getElem?_cons_succ]; exact nums_get .u32 fs k (by rw [HL.out]; omega))
      have HT := Lib.hid (take_snoc fs k (by rw [HL.out]; omega))
      generalize fs.getD k 0 = x at *
      have HLE := Lib.hid (show xs.length ≤ 34 by rw [HXL.out]; omega)
      go_wp2_with fail
      have hNewE : (wr.drew.ownsRow w.heap.size 22 1 (.slice Av xs.length cv) xs.length (nums .u32 xs)) ∧ (wr.drew.heap[(w.heap.size + 1)]? = some (.cells #[Value.int .u32 0, Value.slice none 0 0] 32 (0, 0))) ∧ (Below w.heap.size w wr.drew) := ⟨HO.out, G2.out, HB.out.drew⟩
      have hEx := Lib.hid hNewE
      clear hNewE
      refine Go.Proofs.YtocofkkkblelgaaW.PrintLast.wp_region_last_drew (S := fun w' => (w'.heap[w.heap.size]? = some (.cells (Value.int .u32 f0 :: nums .u32 fs).toArray 25 (0, 0))) ∧ (w'.heap[(w.heap.size + 1 + 1)]? = some (.cells #[Value.int .u32 f0, Value.slice Av xs.length cv] 32 (0, 0)))) (ds := [9]) (by kernel_rfl) ⟨G1.out, G3.out⟩ (fun hNewS => ?_)
      have hHeld := Lib.hid hNewS
      clear hNewS
      refine lastTake 0 (v := ?_) rfl (by kernel_rfl) (by kernel_rfl) (by kernel_rfl) (by kernel_rfl) (by kernel_rfl) (fun _ _ _ h => h) hHeld.out (yieldsIf_of rfl ?_) ?_
      rotate_left
      · (intro w hSw; go_simp <;> with_reducible rfl)
      try simp only [Act.put, List.setIfInBounds_toArray, List.set_cons_zero, List.set_cons_succ]
      refine lastTake 1 rfl (by kernel_rfl) (by kernel_rfl) (by kernel_rfl) (by kernel_rfl) (by kernel_rfl) (fun _ _ _ h => h) hHeld.out (yieldsIf_cell rfl 30 (.tmp 12) rfl _ rfl _ _ (fun _ h => blk_cell h.2 1) Try.underlying30 rfl) ?_
      try simp only [Act.put, List.setIfInBounds_toArray, List.set_cons_zero, List.set_cons_succ]
      refine lastTake 2 (v := ?_) rfl (by kernel_rfl) (by kernel_rfl) (by kernel_rfl) (by kernel_rfl) (by kernel_rfl) (fun _ _ _ h => h) hHeld.out (yieldsIf_of rfl ?_) ?_
      rotate_left
      · (intro w hSw; go_simp <;> with_reducible rfl)
      try simp only [Act.put, List.setIfInBounds_toArray, List.set_cons_zero, List.set_cons_succ]
      refine lastTake 3 (v := ?_) rfl (by kernel_rfl) (by kernel_rfl) (by kernel_rfl) (by kernel_rfl) (by kernel_rfl) (fun _ _ _ h => h) hHeld.out (yieldsIf_of rfl ?_) ?_
      rotate_left
      · (intro w hSw; go_simp <;> with_reducible rfl)
      try simp only [Act.put, List.setIfInBounds_toArray, List.set_cons_zero, List.set_cons_succ]
      refine lastTake 4 (v := ?_) rfl (by kernel_rfl) (by kernel_rfl) (by kernel_rfl) (by kernel_rfl) (by kernel_rfl) (fun _ _ _ h => h) hHeld.out (yieldsIf_of rfl ?_) ?_
      rotate_left
      · (intro w hSw; go_simp <;> with_reducible rfl)
      try simp only [Act.put, List.setIfInBounds_toArray, List.set_cons_zero, List.set_cons_succ]
      refine lastTake 5 rfl (by kernel_rfl) (by kernel_rfl) (by kernel_rfl) (by kernel_rfl) (by kernel_rfl) (fun _ _ _ h => h) hHeld.out (yieldsIf_cell rfl 22 (.tmp 16) rfl _ rfl (.int .u32 x) _ (fun _ h => cell_row h.1 (1 + k) _ HX.out) Try.underlying22 rfl) ?_
      try simp only [Act.put, List.setIfInBounds_toArray, List.set_cons_zero, List.set_cons_succ]
      refine lastOne 6 (by kernel_rfl) rfl (by decide) (fun K hK => ?_)
      go_simp
      have hNewE : (ReadsInt (wr.drew.alloc (.cells #[.int .u32 x] 22)) .u32 (some ⟨wr.heap.size, 0, none⟩) 1 [x]) ∧ ((wr.drew.alloc (.cells #[.int .u32 x] 22)).ownsRow w.heap.size 22 1 (.slice Av xs.length cv) xs.length (nums .u32 xs)) ∧ ((wr.drew.alloc (.cells #[.int .u32 x] 22)).heap[(w.heap.size + 1)]? = some (.cells #[Value.int .u32 0, Value.slice none 0 0] 32 (0, 0))) ∧ (Below w.heap.size w (wr.drew.alloc (.cells #[.int .u32 x] 22))) := ⟨reads_new wr.drew _ 22, own_alloc (hEx.out.1) _, blk_alloc (hEx.out.2.1) _, (hEx.out.2.2).alloc (hEx.out.2.2).size _⟩
      refine hK.out _ _ ⟨blk_alloc (hHeld.out.1) _, blk_alloc (hHeld.out.2) _⟩ (fun hNewS => ?_)
      clear hK K
      clear hHeld hEx
      have hHeld := Lib.hid hNewS
      have hEx := Lib.hid hNewE
      clear hNewS hNewE
      try simp only [Act.put, List.setIfInBounds_toArray, List.set_cons_zero, List.set_cons_succ]
      refine lastOne 7 (by kernel_rfl) rfl (by decide) (fun K hK => ?_)
      rw [if_pos (by rfl)]
      refine wp_append_row (W := (wr.drew.alloc (.cells #[.int .u32 x] 22))) w.heap.size (.tmp 13) (.tmp 18) 30 22 .u32 4 rfl Try.underlying30 info22d (by decide) _ xs [x] _ 1 1 rfl rfl hEx.out.2.1 hEx.out.1 (hEx.out.2.2.2).size (by have := HLE.out; omega) ?_
      intro v1 v1 hown hg hat
      generalize hys : xs ++ [x] = ys at hown
      have HYS := Lib.hid hys
      clear hys
      obtain ⟨A2, c3, rfl⟩ := own_slice hown
      have hNewE : (v1.ownsRow w.heap.size 22 1 (.slice A2 ys.length c3) ys.length (nums .u32 ys)) ∧ (v1.heap[(w.heap.size + 1)]? = some (.cells #[Value.int .u32 0, Value.slice none 0 0] 32 (0, 0))) ∧ (Below w.heap.size w v1) := ⟨hown, blk_grown (hEx.out.2.2.1) hg (own_ne hEx.out.2.1 (hEx.out.2.2.1) (by decide)), (hEx.out.2.2.2).grown hg (hEx.out.2.2.2).size (own_base hEx.out.2.1)⟩
      refine hK.out _ _ ⟨blk_grown (hHeld.out.1) hg (own_ne hEx.out.2.1 (hHeld.out.1) (by decide)), blk_grown (hHeld.out.2) hg (own_ne hEx.out.2.1 (hHeld.out.2) (by decide))⟩ (fun hNewS => ?_)
      clear hK K
      clear hHeld hEx
      have hHeld := Lib.hid hNewS
      have hEx := Lib.hid hNewE
      clear hNewS hNewE
      clear hown hg hat
      try simp only [Act.put, List.setIfInBounds_toArray, List.set_cons_zero, List.set_cons_succ]
      refine lastTake 8 (v := ?_) rfl (by kernel_rfl) (by kernel_rfl) (by kernel_rfl) (by kernel_rfl) (by kernel_rfl) (fun _ _ _ h => h) hHeld.out (yieldsIf_of rfl ?_) ?_
      rotate_left
      · (intro w hSw; go_simp <;> with_reducible rfl)
      try simp only [Act.put, List.setIfInBounds_toArray, List.set_cons_zero, List.set_cons_succ]
      have hc3 := (blk_cell hHeld.out.2 1 : v1.cell? ⟨w.heap.size + 1 + 1, 1, none⟩ = _)
      have hf3 : v1.frozen? ⟨w.heap.size + 1 + 1, 1, none⟩ = false := blk_frozen hHeld.out.2 1
      refine lastEnd 9 (by kernel_rfl) rfl (by decide) (fun K hK => ?_)
      rw [if_pos (by rfl)]
      go_simp
      have hNewE : ((v1.setCell ⟨w.heap.size + 1 + 1, 1, none⟩ (Value.slice A2 ys.length c3)).heap[w.heap.size]? = some (.cells (Value.int .u32 f0 :: nums .u32 fs).toArray 25 (0, 0))) ∧ ((v1.setCell ⟨w.heap.size + 1 + 1, 1, none⟩ (Value.slice A2 ys.length c3)).heap[(w.heap.size + 1 + 1)]? = some (.cells #[Value.int .u32 f0, (Value.slice A2 ys.length c3)] 32 (0, 0))) ∧ ((v1.setCell ⟨w.heap.size + 1 + 1, 1, none⟩ (Value.slice A2 ys.length c3)).ownsRow w.heap.size 22 1 (.slice A2 ys.length c3) ys.length (nums .u32 ys)) ∧ ((v1.setCell ⟨w.heap.size + 1 + 1, 1, none⟩ (Value.slice A2 ys.length c3)).heap[(w.heap.size + 1)]? = some (.cells #[Value.int .u32 0, Value.slice none 0 0] 32 (0, 0))) ∧ (Below w.heap.size w (v1.setCell ⟨w.heap.size + 1 + 1, 1, none⟩ (Value.slice A2 ys.length c3))) := ⟨(heap_setCell_other _ _ _ _ (by simp; omega)).trans hHeld.out.1, blk_set hHeld.out.2 1 _, own_setCell hEx.out.1 (own_ne hEx.out.1 hHeld.out.2 (by decide)) _, (heap_setCell_other _ _ _ _ (by simp)).trans hEx.out.2.1, (hEx.out.2.2).trans ⟨rfl, rfl, rfl, by simp [World.setCell], fun q hq => heap_setCell_other _ _ _ _ (by simp; omega)⟩⟩
      refine hK.out _ _ ?_
      clear hK K
      clear hHeld hEx
      have hEx := Lib.hid hNewE
      clear hNewE
      clear hc3 hf3
      try simp only [Act.put, List.setIfInBounds_toArray, List.set_cons_zero, List.set_cons_succ]
      refine Go.Proofs.YtocofkkkblelgaaW.PrintLast.wpAnyLast_done (by kernel_rfl) ?_ _
      have HEX := hEx
      clear hEx
      go_wp2_with fail
      refine ⟨⟨k + 1, _, _, by omega, (by rw [HT.out, ← HXS.out, HYS.out] : ys = _), by go_num, HEX.out.2.2.1, HEX.out.1, HEX.out.2.2.2.1, HEX.out.2.1, HEX.out.2.2.2.2⟩, by simp [intOf]; omega⟩
    · obtain rfl : k = 34 := by omega
      have hx : xs = fs := by rw [HXS.out, List.take_of_length_le (by rw [HL.out]; omega)]
      subst hx
      have d1 : wr.cell? ⟨w.heap.size + 1 + 1, 0, none⟩ = some (.int .u32 f0) := blk_cell G3.out 0
      have d2 : wr.cell? ⟨w.heap.size + 1 + 1, 1, none⟩ = some (.slice Av xs.length cv) := blk_cell G3.out 1
      have e1 : wr.cell? ⟨w.heap.size + 1, 0, none⟩ = some (.int .u32 0) := blk_cell G2.out 0
      have e2 : wr.cell? ⟨w.heap.size + 1, 1, none⟩ = some (.slice none 0 0) := blk_cell G2.out 1
      have f1 : wr.frozen? ⟨w.heap.size + 1, 0, none⟩ = false := blk_frozen G2.out 0
      have f2 : wr.frozen? ⟨w.heap.size + 1, 1, none⟩ = false := blk_frozen G2.out 1
      go_wp2
      have hfin : ((wr.setCell ⟨w.heap.size + 1, 0, none⟩ (.int .u32 f0)).setCell ⟨w.heap.size + 1, 1, none⟩ (.slice Av xs.length cv)).heap[w.heap.size + 1]? = some (.cells #[.int .u32 f0, .slice Av xs.length cv] 32 (0, 0)) := blk_set (blk_set G2.out 0 _) 1 _
      refine bodyPost_ret (results_cell_row rfl _ _ (w.heap.size + 1) _ _ _ _ rfl hfin Try.underlying32 rfl (by rw [show (#[.int .u32 f0, .slice Av xs.length cv] : Array Value).size = 2 from rfl]; kernel_rfl)) rfl ?_
      have hne := own_ne HO.out G2.out (by decide)
      have ho := own_setCell (own_setCell HO.out (p := ⟨w.heap.size + 1, 0, none⟩) hne (.int .u32 f0)) (p := ⟨w.heap.size + 1, 1, none⟩) hne (.slice Av xs.length cv)
      rw [HL.out] at ho
      refine ⟨.slice Av 34 cv, by rw [HL.out], ?_, HB.out.trans ⟨rfl, rfl, rfl, by simp [World.setCell], fun q hq => ?_⟩⟩
      · rw [HL.out]; exact ho
      · rw [heap_setCell_other _ _ _ _ (by simp; omega), heap_setCell_other _ _ _ _ (by simp; omega)]
end Go.Proofs.Ytocofkkkblelgaa.H
