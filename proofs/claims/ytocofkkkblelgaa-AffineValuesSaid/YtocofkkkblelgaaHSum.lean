/-
Package hurdleref14: Sum.
-/
import Derived.Test.YtocofkkkblelgaaHAs
set_option linter.unusedVariables false
set_option linter.unusedSimpArgs false
namespace Go.Proofs.Ytocofkkkblelgaa.H
open Go.RowKit Go.Proofs.YtocofkkkblelgaaW.PrintWords

def sumOp (a b x y : Int) : Int := (x * a + y * b) % 4294967296
theorem sumOp_wrap (a b x y : Int) : sumOp a b x y = IntKind.u32.wrap (IntKind.u32.wrap (x * a) + IntKind.u32.wrap (y * b)) := by
  unfold sumOp
  show _ = ((x * a) % 4294967296 + (y * b) % 4294967296) % 4294967296
  generalize x * a = p
  generalize y * b = q
  omega
def sumL (a b : Int) (xs ys : List Int) : List Int := List.zipWith (sumOp a b) xs ys

set_option maxHeartbeats 4000000 in
theorem Sum_walk (c1 a c2 b : Int) (fs gs : List Int) (ad1 ad2 : Addr) (n1 n2 : Nat) (hl1 : fs.length = 34) (hl2 : gs.length = 34) (w : World) (hr1 : ReadsInt w .u32 (some ad1) 34 fs) (hr2 : ReadsInt w .u32 (some ad2) 34 gs) :
    Calls Try.prog 14 #[.agg #[.int .u32 c1, .slice (some ad1) 34 n1], .int .u32 a, .agg #[.int .u32 c2, .slice (some ad2) 34 n2], .int .u32 b] w fun e w' =>
      ∃ v, e = .returned (.agg #[.int .u32 (sumOp a b c1 c2), v]) ∧ w'.ownsRow w.heap.size 22 1 v 34 (nums .u32 (sumL a b fs gs)) ∧ Below w.heap.size w w' := by
  have HR1 := Lib.hid hr1
  have HR2 := Lib.hid hr2
  have HL1 := Lib.hid hl1
  have HL2 := Lib.hid hl2
  clear hr1 hr2 hl1 hl2
  go_enter Try.func14, Try.ntmps14
  go_wp2_with fail
  generalize hp : c1 * a % 4294967296 = p at *
  generalize hq : c2 * b % 4294967296 = q at *
  generalize hC : (c1 * a + c2 * b) % 4294967296 = C at *
  have HC := Lib.hid hC
  clear hp hq hC
  obtain ⟨q1, q2, q3, q4, q5⟩ := alloc4 w (Obj.cells #[Value.int .u32 c1, Value.slice (some ad1) 34 n1] 32) (Obj.cells #[Value.int .u32 c2, Value.slice (some ad2) 34 n2] 32) (Obj.cells #[Value.int .u32 0, Value.slice none 0 0] 32) (Obj.cells #[Value.int .u32 C, Value.slice none 0 0] 32)
  generalize hW : (((w.alloc (Obj.cells #[Value.int .u32 c1, Value.slice (some ad1) 34 n1] 32)).alloc (Obj.cells #[Value.int .u32 c2, Value.slice (some ad2) 34 n2] 32)).alloc (Obj.cells #[Value.int .u32 0, Value.slice none 0 0] 32)).alloc (Obj.cells #[Value.int .u32 C, Value.slice none 0 0] 32) = W0 at *
  clear hW
  have q1' := Lib.hid q1
  have q2' := Lib.hid q2
  have q3' := Lib.hid q3
  have q4' := Lib.hid q4
  have q5' := Lib.hid q5
  clear q1 q2 q3 q4 q5
  have HN := Lib.hid (World.ownsRow_nil W0 w.heap.size 22 1)
  go_loopw [10] (fun i wr => ∃ (k : Nat) (v : Value) (xs : List Int), k ≤ 34 ∧ xs = (sumL a b fs gs).take k ∧ i = .int .i64 (k : Int) ∧ wr.ownsRow w.heap.size 22 1 v xs.length (nums .u32 xs) ∧ wr.heap[w.heap.size]? = some (.cells #[Value.int .u32 c1, Value.slice (some ad1) 34 n1] 32 (0, 0)) ∧ wr.heap[(w.heap.size + 1)]? = some (.cells #[Value.int .u32 c2, Value.slice (some ad2) 34 n2] 32 (0, 0)) ∧ wr.heap[(w.heap.size + 1 + 1)]? = some (.cells #[Value.int .u32 0, Value.slice none 0 0] 32 (0, 0)) ∧ wr.heap[(w.heap.size + 1 + 1 + 1)]? = some (.cells #[Value.int .u32 C, v] 32 (0, 0)) ∧ Below w.heap.size w wr) (fun i _ => 34 - (intOf i).toNat)
  case atStart => exact ⟨0, _, [], by omega, rfl, rfl, HN.out, q1'.out, q2'.out, q3'.out, q4'.out, q5'.out⟩
  case round =>
    obtain ⟨k, v, xs, hk, hxs, rfl, ho, g1, g2, g3, g4, hb⟩ := hrel
    have HSL := Lib.hid (show (sumL a b fs gs).length = 34 by simp [sumL, HL1.out, HL2.out])
    have HXS := Lib.hid hxs
    have HXL := Lib.hid (show xs.length = k by rw [hxs, List.length_take, HSL.out]; omega)
    clear hxs
    obtain ⟨Av, cv, rfl⟩ := own_slice ho
    have HO := Lib.hid ho
    have G1 := Lib.hid g1
    have G2 := Lib.hid g2
    have G3 := Lib.hid g3
    have G4 := Lib.hid g4
    have HB := Lib.hid hb
    clear ho g1 g2 g3 g4 hb q1' q2' q3' q4' q5' HN
    by_cases hlt : k < 34
    · have HX1 : RowKit.Hid (w.cell? (ad1.add k) = some (.int .u32 (fs.getD k 0))) := Lib.hid (by obtain ⟨ad, e, hc⟩ := HR1.out.2.2 (by omega); injection e with e; subst e; exact hc k hlt)
      have HX2 : RowKit.Hid (w.cell? (ad2.add k) = some (.int .u32 (gs.getD k 0))) := Lib.hid (by obtain ⟨ad, e, hc⟩ := HR2.out.2.2 (by omega); injection e with e; subst e; exact hc k hlt)
      have HT := Lib.hid (take_snoc (sumL a b fs gs) k (by rw [HSL.out]; omega))
      rw [show (sumL a b fs gs).getD k 0 = sumOp a b (fs.getD k 0) (gs.getD k 0) by
        simp [sumL, List.getD_eq_getElem?_getD, List.getElem?_zipWith, List.getElem?_eq_getElem (show k < fs.length by rw [HL1.out]; omega), List.getElem?_eq_getElem (show k < gs.length by rw [HL2.out]; omega)]] at HT
      rw [sumOp_wrap] at HT
      generalize fs.getD k 0 = x1 at *
      generalize gs.getD k 0 = x2 at *
      have HLE := Lib.hid (show xs.length ≤ 34 by rw [HXL.out]; omega)
      go_wp2_with fail
      have hNewE : (wr.drew.ownsRow w.heap.size 22 1 (.slice Av xs.length cv) xs.length (nums .u32 xs)) ∧ (wr.drew.heap[(w.heap.size + 1 + 1)]? = some (.cells #[Value.int .u32 0, Value.slice none 0 0] 32 (0, 0))) ∧ (Below w.heap.size w wr.drew) := ⟨HO.out, G3.out, HB.out.drew⟩
      have hEx := Lib.hid hNewE
      clear hNewE
      refine Go.Proofs.YtocofkkkblelgaaW.PrintLast.wp_region_last_drew (S := fun w' => (w'.heap[w.heap.size]? = some (.cells #[Value.int .u32 c1, Value.slice (some ad1) 34 n1] 32 (0, 0))) ∧ (w'.heap[(w.heap.size + 1)]? = some (.cells #[Value.int .u32 c2, Value.slice (some ad2) 34 n2] 32 (0, 0))) ∧ (w'.heap[(w.heap.size + 1 + 1 + 1)]? = some (.cells #[Value.int .u32 C, Value.slice Av xs.length cv] 32 (0, 0))) ∧ (w'.cell? (ad1.add k) = some (.int .u32 x1)) ∧ (w'.cell? (ad2.add k) = some (.int .u32 x2))) (ds := [20]) (by kernel_rfl) ⟨G1.out, G2.out, G4.out, (HB.out.cell (World.block_lt_of_cell? w _ HX1.out)).trans HX1.out, (HB.out.cell (World.block_lt_of_cell? w _ HX2.out)).trans HX2.out⟩ (fun hNewS => ?_)
      have hHeld := Lib.hid hNewS
      clear hNewS
      refine lastTake 0 (v := ?_) rfl (by kernel_rfl) (by kernel_rfl) (by kernel_rfl) (by kernel_rfl) (by kernel_rfl) (fun _ _ _ h => h) hHeld.out (yieldsIf_of rfl ?_) ?_
      rotate_left
      · (intro w hSw; go_simp <;> with_reducible rfl)
      try simp only [Act.put, List.setIfInBounds_toArray, List.set_cons_zero, List.set_cons_succ]
      refine lastTake 1 rfl (by kernel_rfl) (by kernel_rfl) (by kernel_rfl) (by kernel_rfl) (by kernel_rfl) (fun _ _ _ h => h) hHeld.out (yieldsIf_cell rfl 30 (.tmp 25) rfl _ rfl _ _ (fun _ h => blk_cell h.2.2.1 1) Try.underlying30 rfl) ?_
      try simp only [Act.put, List.setIfInBounds_toArray, List.set_cons_zero, List.set_cons_succ]
      refine lastTake 2 (v := ?_) rfl (by kernel_rfl) (by kernel_rfl) (by kernel_rfl) (by kernel_rfl) (by kernel_rfl) (fun _ _ _ h => h) hHeld.out (yieldsIf_of rfl ?_) ?_
      rotate_left
      · (intro w hSw; go_simp <;> with_reducible rfl)
      try simp only [Act.put, List.setIfInBounds_toArray, List.set_cons_zero, List.set_cons_succ]
      refine lastTake 3 rfl (by kernel_rfl) (by kernel_rfl) (by kernel_rfl) (by kernel_rfl) (by kernel_rfl) (fun _ _ _ h => h) hHeld.out (yieldsIf_cell rfl 30 (.tmp 27) rfl _ rfl _ _ (fun _ h => blk_cell h.1 1) Try.underlying30 rfl) ?_
      try simp only [Act.put, List.setIfInBounds_toArray, List.set_cons_zero, List.set_cons_succ]
      refine lastTake 4 (v := ?_) rfl (by kernel_rfl) (by kernel_rfl) (by kernel_rfl) (by kernel_rfl) (by kernel_rfl) (fun _ _ _ h => h) hHeld.out (yieldsIf_of rfl ?_) ?_
      rotate_left
      · (intro w hSw; go_simp <;> with_reducible rfl)
      try simp only [Act.put, List.setIfInBounds_toArray, List.set_cons_zero, List.set_cons_succ]
      refine lastTake 5 (v := ?_) rfl (by kernel_rfl) (by kernel_rfl) (by kernel_rfl) (by kernel_rfl) (by kernel_rfl) (fun _ _ _ h => h) hHeld.out (yieldsIf_of rfl ?_) ?_
      rotate_left
      · (intro w hSw; go_simp <;> with_reducible rfl)
      try simp only [Act.put, List.setIfInBounds_toArray, List.set_cons_zero, List.set_cons_succ]
      refine lastTake 6 rfl (by kernel_rfl) (by kernel_rfl) (by kernel_rfl) (by kernel_rfl) (by kernel_rfl) (fun _ _ _ h => h) hHeld.out (yieldsIf_cell rfl 22 (.tmp 30) rfl _ rfl _ _ (fun _ h => h.2.2.2.1) Try.underlying22 rfl) ?_
      try simp only [Act.put, List.setIfInBounds_toArray, List.set_cons_zero, List.set_cons_succ]
      refine lastTake 7 (v := ?_) rfl (by kernel_rfl) (by kernel_rfl) (by kernel_rfl) (by kernel_rfl) (by kernel_rfl) (fun _ _ _ h => h) hHeld.out (yieldsIf_of rfl ?_) ?_
      rotate_left
      · (intro w hSw; go_simp <;> with_reducible rfl)
      try simp only [Act.put, List.setIfInBounds_toArray, List.set_cons_zero, List.set_cons_succ]
      refine lastTake 8 (v := ?_) rfl (by kernel_rfl) (by kernel_rfl) (by kernel_rfl) (by kernel_rfl) (by kernel_rfl) (fun _ _ _ h => h) hHeld.out (yieldsIf_of rfl ?_) ?_
      rotate_left
      · (intro w hSw; go_simp <;> with_reducible rfl)
      try simp only [Act.put, List.setIfInBounds_toArray, List.set_cons_zero, List.set_cons_succ]
      refine lastTake 9 (v := ?_) rfl (by kernel_rfl) (by kernel_rfl) (by kernel_rfl) (by kernel_rfl) (by kernel_rfl) (fun _ _ _ h => h) hHeld.out (yieldsIf_of rfl ?_) ?_
      rotate_left
      · (intro w hSw; go_simp <;> with_reducible rfl)
      try simp only [Act.put, List.setIfInBounds_toArray, List.set_cons_zero, List.set_cons_succ]
      refine lastTake 10 rfl (by kernel_rfl) (by kernel_rfl) (by kernel_rfl) (by kernel_rfl) (by kernel_rfl) (fun _ _ _ h => h) hHeld.out (yieldsIf_cell rfl 30 (.tmp 34) rfl _ rfl _ _ (fun _ h => blk_cell h.2.1 1) Try.underlying30 rfl) ?_
      try simp only [Act.put, List.setIfInBounds_toArray, List.set_cons_zero, List.set_cons_succ]
      refine lastTake 11 (v := ?_) rfl (by kernel_rfl) (by kernel_rfl) (by kernel_rfl) (by kernel_rfl) (by kernel_rfl) (fun _ _ _ h => h) hHeld.out (yieldsIf_of rfl ?_) ?_
      rotate_left
      · (intro w hSw; go_simp <;> with_reducible rfl)
      try simp only [Act.put, List.setIfInBounds_toArray, List.set_cons_zero, List.set_cons_succ]
      refine lastTake 12 (v := ?_) rfl (by kernel_rfl) (by kernel_rfl) (by kernel_rfl) (by kernel_rfl) (by kernel_rfl) (fun _ _ _ h => h) hHeld.out (yieldsIf_of rfl ?_) ?_
      rotate_left
      · (intro w hSw; go_simp <;> with_reducible rfl)
      try simp only [Act.put, List.setIfInBounds_toArray, List.set_cons_zero, List.set_cons_succ]
      refine lastTake 13 rfl (by kernel_rfl) (by kernel_rfl) (by kernel_rfl) (by kernel_rfl) (by kernel_rfl) (fun _ _ _ h => h) hHeld.out (yieldsIf_cell rfl 22 (.tmp 37) rfl _ rfl _ _ (fun _ h => h.2.2.2.2) Try.underlying22 rfl) ?_
      try simp only [Act.put, List.setIfInBounds_toArray, List.set_cons_zero, List.set_cons_succ]
      refine lastTake 14 (v := ?_) rfl (by kernel_rfl) (by kernel_rfl) (by kernel_rfl) (by kernel_rfl) (by kernel_rfl) (fun _ _ _ h => h) hHeld.out (yieldsIf_of rfl ?_) ?_
      rotate_left
      · (intro w hSw; go_simp <;> with_reducible rfl)
      try simp only [Act.put, List.setIfInBounds_toArray, List.set_cons_zero, List.set_cons_succ]
      refine lastTake 15 (v := ?_) rfl (by kernel_rfl) (by kernel_rfl) (by kernel_rfl) (by kernel_rfl) (by kernel_rfl) (fun _ _ _ h => h) hHeld.out (yieldsIf_of rfl ?_) ?_
      rotate_left
      · (intro w hSw; go_simp <;> with_reducible rfl)
      try simp only [Act.put, List.setIfInBounds_toArray, List.set_cons_zero, List.set_cons_succ]
      refine lastTake 16 (v := ?_) rfl (by kernel_rfl) (by kernel_rfl) (by kernel_rfl) (by kernel_rfl) (by kernel_rfl) (fun _ _ _ h => h) hHeld.out (yieldsIf_of rfl ?_) ?_
      rotate_left
      · (intro w hSw; go_simp <;> with_reducible rfl)
      try simp only [Act.put, List.setIfInBounds_toArray, List.set_cons_zero, List.set_cons_succ]
      refine lastOne 17 (by kernel_rfl) rfl (by decide) (fun K hK => ?_)
      go_simp
      have hNewE : (ReadsInt (wr.drew.alloc (.cells #[.int .u32 (IntKind.u32.wrap (IntKind.u32.wrap (x1 * a) + IntKind.u32.wrap (x2 * b)))] 22)) .u32 (some ⟨wr.heap.size, 0, none⟩) 1 [(IntKind.u32.wrap (IntKind.u32.wrap (x1 * a) + IntKind.u32.wrap (x2 * b)))]) ∧ ((wr.drew.alloc (.cells #[.int .u32 (IntKind.u32.wrap (IntKind.u32.wrap (x1 * a) + IntKind.u32.wrap (x2 * b)))] 22)).ownsRow w.heap.size 22 1 (.slice Av xs.length cv) xs.length (nums .u32 xs)) ∧ ((wr.drew.alloc (.cells #[.int .u32 (IntKind.u32.wrap (IntKind.u32.wrap (x1 * a) + IntKind.u32.wrap (x2 * b)))] 22)).heap[(w.heap.size + 1 + 1)]? = some (.cells #[Value.int .u32 0, Value.slice none 0 0] 32 (0, 0))) ∧ (Below w.heap.size w (wr.drew.alloc (.cells #[.int .u32 (IntKind.u32.wrap (IntKind.u32.wrap (x1 * a) + IntKind.u32.wrap (x2 * b)))] 22))) := ⟨reads_new wr.drew _ 22, own_alloc (hEx.out.1) _, blk_alloc (hEx.out.2.1) _, (hEx.out.2.2).alloc (hEx.out.2.2).size _⟩
      refine hK.out _ _ ⟨blk_alloc (hHeld.out.1) _, blk_alloc (hHeld.out.2.1) _, blk_alloc (hHeld.out.2.2.1) _, ((hNewE.2.2.2).cell (World.block_lt_of_cell? w _ HX1.out)).trans HX1.out, ((hNewE.2.2.2).cell (World.block_lt_of_cell? w _ HX2.out)).trans HX2.out⟩ (fun hNewS => ?_)
      clear hK K
      clear hHeld hEx
      have hHeld := Lib.hid hNewS
      have hEx := Lib.hid hNewE
      clear hNewS hNewE
      try simp only [Act.put, List.setIfInBounds_toArray, List.set_cons_zero, List.set_cons_succ]
      refine lastOne 18 (by kernel_rfl) rfl (by decide) (fun K hK => ?_)
      rw [if_pos (by rfl)]
      refine wp_append_row (W := (wr.drew.alloc (.cells #[.int .u32 (IntKind.u32.wrap (IntKind.u32.wrap (x1 * a) + IntKind.u32.wrap (x2 * b)))] 22))) w.heap.size (.tmp 26) (.tmp 42) 30 22 .u32 4 rfl Try.underlying30 info22d (by decide) _ xs [(IntKind.u32.wrap (IntKind.u32.wrap (x1 * a) + IntKind.u32.wrap (x2 * b)))] _ 1 1 rfl rfl hEx.out.2.1 hEx.out.1 (hEx.out.2.2.2).size (by have := HLE.out; omega) ?_
      intro v1 v1 hown hg hat
      generalize hys : xs ++ [(IntKind.u32.wrap (IntKind.u32.wrap (x1 * a) + IntKind.u32.wrap (x2 * b)))] = ys at hown
      have HYS := Lib.hid hys
      clear hys
      obtain ⟨A2, c3, rfl⟩ := own_slice hown
      have hNewE : (v1.ownsRow w.heap.size 22 1 (.slice A2 ys.length c3) ys.length (nums .u32 ys)) ∧ (v1.heap[(w.heap.size + 1 + 1)]? = some (.cells #[Value.int .u32 0, Value.slice none 0 0] 32 (0, 0))) ∧ (Below w.heap.size w v1) := ⟨hown, blk_grown (hEx.out.2.2.1) hg (own_ne hEx.out.2.1 (hEx.out.2.2.1) (by decide)), (hEx.out.2.2.2).grown hg (hEx.out.2.2.2).size (own_base hEx.out.2.1)⟩
      refine hK.out _ _ ⟨blk_grown (hHeld.out.1) hg (own_ne hEx.out.2.1 (hHeld.out.1) (by decide)), blk_grown (hHeld.out.2.1) hg (own_ne hEx.out.2.1 (hHeld.out.2.1) (by decide)), blk_grown (hHeld.out.2.2.1) hg (own_ne hEx.out.2.1 (hHeld.out.2.2.1) (by decide)), ((hNewE.2.2).cell (World.block_lt_of_cell? w _ HX1.out)).trans HX1.out, ((hNewE.2.2).cell (World.block_lt_of_cell? w _ HX2.out)).trans HX2.out⟩ (fun hNewS => ?_)
      clear hK K
      clear hHeld hEx
      have hHeld := Lib.hid hNewS
      have hEx := Lib.hid hNewE
      clear hNewS hNewE
      clear hown hg hat
      try simp only [Act.put, List.setIfInBounds_toArray, List.set_cons_zero, List.set_cons_succ]
      refine lastTake 19 (v := ?_) rfl (by kernel_rfl) (by kernel_rfl) (by kernel_rfl) (by kernel_rfl) (by kernel_rfl) (fun _ _ _ h => h) hHeld.out (yieldsIf_of rfl ?_) ?_
      rotate_left
      · (intro w hSw; go_simp <;> with_reducible rfl)
      try simp only [Act.put, List.setIfInBounds_toArray, List.set_cons_zero, List.set_cons_succ]
      have hc3 := (blk_cell hHeld.out.2.2.1 1 : v1.cell? ⟨w.heap.size + 1 + 1 + 1, 1, none⟩ = _)
      have hf3 : v1.frozen? ⟨w.heap.size + 1 + 1 + 1, 1, none⟩ = false := blk_frozen hHeld.out.2.2.1 1
      refine lastEnd 20 (by kernel_rfl) rfl (by decide) (fun K hK => ?_)
      rw [if_pos (by rfl)]
      go_simp
      have hNewE : ((v1.setCell ⟨w.heap.size + 1 + 1 + 1, 1, none⟩ (Value.slice A2 ys.length c3)).heap[w.heap.size]? = some (.cells #[Value.int .u32 c1, Value.slice (some ad1) 34 n1] 32 (0, 0))) ∧ ((v1.setCell ⟨w.heap.size + 1 + 1 + 1, 1, none⟩ (Value.slice A2 ys.length c3)).heap[(w.heap.size + 1)]? = some (.cells #[Value.int .u32 c2, Value.slice (some ad2) 34 n2] 32 (0, 0))) ∧ ((v1.setCell ⟨w.heap.size + 1 + 1 + 1, 1, none⟩ (Value.slice A2 ys.length c3)).heap[(w.heap.size + 1 + 1 + 1)]? = some (.cells #[Value.int .u32 C, (Value.slice A2 ys.length c3)] 32 (0, 0))) ∧ ((v1.setCell ⟨w.heap.size + 1 + 1 + 1, 1, none⟩ (Value.slice A2 ys.length c3)).ownsRow w.heap.size 22 1 (.slice A2 ys.length c3) ys.length (nums .u32 ys)) ∧ ((v1.setCell ⟨w.heap.size + 1 + 1 + 1, 1, none⟩ (Value.slice A2 ys.length c3)).heap[(w.heap.size + 1 + 1)]? = some (.cells #[Value.int .u32 0, Value.slice none 0 0] 32 (0, 0))) ∧ (Below w.heap.size w (v1.setCell ⟨w.heap.size + 1 + 1 + 1, 1, none⟩ (Value.slice A2 ys.length c3))) := ⟨(heap_setCell_other _ _ _ _ (by simp <;> omega)).trans hHeld.out.1, (heap_setCell_other _ _ _ _ (by simp <;> omega)).trans hHeld.out.2.1, blk_set hHeld.out.2.2.1 1 _, own_setCell hEx.out.1 (own_ne hEx.out.1 hHeld.out.2.2.1 (by decide)) _, (heap_setCell_other _ _ _ _ (by simp <;> omega)).trans hEx.out.2.1, (hEx.out.2.2).trans ⟨rfl, rfl, rfl, by simp [World.setCell], fun q hq => heap_setCell_other _ _ _ _ (by simp; omega)⟩⟩
      refine hK.out _ _ ?_
      clear hK K
      clear hHeld hEx
      have hEx := Lib.hid hNewE
      clear hNewE
      clear hc3 hf3
      try simp only [Act.put, List.setIfInBounds_toArray, List.set_cons_zero, List.set_cons_succ]
      refine Go.Proofs.YtocofkkkblelgaaW.PrintLast.wpAnyLast_done (by kernel_rfl) ?_ _
      have HEX := hEx
      clear hEx
      go_wp2_with fail
      go_roundw
      case measure => simp [intOf]; omega
      case rel => exact ⟨k + 1, _, _, by omega, (by rw [HT.out, ← HXS.out, HYS.out] : ys = _), by go_num, HEX.out.2.2.2.1, HEX.out.1, HEX.out.2.1, HEX.out.2.2.2.2.1, HEX.out.2.2.1, HEX.out.2.2.2.2.2⟩
    · obtain rfl : k = 34 := by omega
      have hx : xs = sumL a b fs gs := by rw [HXS.out, List.take_of_length_le (by rw [HSL.out]; omega)]
      have HXX := Lib.hid hx
      clear hx
      have d1 : wr.cell? ⟨w.heap.size + 1 + 1 + 1, 0, none⟩ = some (.int .u32 C) := blk_cell G4.out 0
      have d2 : wr.cell? ⟨w.heap.size + 1 + 1 + 1, 1, none⟩ = some (.slice Av xs.length cv) := blk_cell G4.out 1
      have e1 : wr.cell? ⟨w.heap.size + 1 + 1, 0, none⟩ = some (.int .u32 0) := blk_cell G3.out 0
      have e2 : wr.cell? ⟨w.heap.size + 1 + 1, 1, none⟩ = some (.slice none 0 0) := blk_cell G3.out 1
      have f1 : wr.frozen? ⟨w.heap.size + 1 + 1, 0, none⟩ = false := blk_frozen G3.out 0
      have f2 : wr.frozen? ⟨w.heap.size + 1 + 1, 1, none⟩ = false := blk_frozen G3.out 1
      go_wp2
      have hfin : ((wr.setCell ⟨w.heap.size + 1 + 1, 0, none⟩ (.int .u32 C)).setCell ⟨w.heap.size + 1 + 1, 1, none⟩ (.slice Av xs.length cv)).heap[w.heap.size + 1 + 1]? = some (.cells #[.int .u32 C, .slice Av xs.length cv] 32 (0, 0)) := blk_set (blk_set G3.out 0 _) 1 _
      refine bodyPost_ret (results_cell_row rfl _ _ (w.heap.size + 1 + 1) _ _ _ _ rfl hfin Try.underlying32 rfl (by rw [show (#[.int .u32 C, .slice Av xs.length cv] : Array Value).size = 2 from rfl]; kernel_rfl)) rfl ?_
      have hne := own_ne HO.out G3.out (by decide)
      have ho := own_setCell (own_setCell HO.out (p := ⟨w.heap.size + 1 + 1, 0, none⟩) hne (.int .u32 C)) (p := ⟨w.heap.size + 1 + 1, 1, none⟩) hne (.slice Av xs.length cv)
      rw [HXL.out] at ho
      refine ⟨.slice Av 34 cv, by rw [HXL.out, ← HC.out]; rfl, ?_, HB.out.trans ⟨rfl, rfl, rfl, by simp [World.setCell], fun q hq => ?_⟩⟩
      · rw [HXL.out, ← HXX.out]; exact ho
      · rw [heap_setCell_other _ _ _ _ (by simp; omega), heap_setCell_other _ _ _ _ (by simp; omega)]
end Go.Proofs.Ytocofkkkblelgaa.H
