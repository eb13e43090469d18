/-
CondOrders.
-/
import Derived.Test.YthdkgpmpopjnaaaProg
import Derived.WalkKit
import Derived.WalkSpells
import Derived.WalkLawsBesides
import Derived.Handy
import Derived.Lib.Hide
import Derived.Deep.QuietTactic
import Derived.BigQuiet
import Derived.Test.YthdkgpmpopjnaaaHRHolds
import Derived.Test.YthdkgpmpopjnaaaHApp
import Derived.Test.YthdkgpmpopjnaaaWWords
set_option linter.unusedVariables false
set_option linter.unusedSimpArgs false
namespace Go.Proofs.Ythdkgpmpopjnaaa.H
open Go.RowKit Go.Proofs.YthdkgpmpopjnaaaW.PrintWords

theorem take_snocB (l : List Bool) (k : Nat) (h : k < l.length) : (l.map Value.bool).take (k + 1) = (l.map Value.bool).take k ++ [.bool (l.getD k false)] := by
  rw [List.take_add_one, List.getElem?_eq_getElem (by simpa using h)]
  simp [List.getD_eq_getElem?_getD, List.getElem?_eq_getElem h]
theorem info_bool : (Try.prog.info? 4).map (fun i => (i.zero, i.size, i.bytes)) = some (some (.bool false), 1, 1) := by kernel_rfl
set_option maxHeartbeats 4000000 in
theorem CondOrders_no (arg cmp m v : Int) (DR : Array Value) (RR : Gives Try.prog 15 #[.agg #[.int .i64 arg, .int .i64 cmp, .int .u64 m, .int .u64 v]] (.bool false)) (KN : Gives Try.prog 18 #[] (.bool true)) (w : World) :
    Calls Try.prog 7 #[.agg #[.int .i64 arg, .int .i64 cmp, .int .u64 m, .int .u64 v], .agg DR] w fun e w' => e = .returned (.bool true) ∧ Below w.heap.size w w' := by
  replace RR := Lib.hid RR
  replace KN := Lib.hid KN
  have HIC := Lib.hid (info_cond (.int .i64 arg) (.int .i64 cmp) (.int .u64 m) (.int .u64 v))
  have q1 := Lib.hid (alloc2d w (Obj.cells #[.int .i64 arg, .int .i64 cmp, .int .u64 m, .int .u64 v] 24) (Obj.cells DR 28)).1
  have q2 := Lib.hid (alloc2d w (Obj.cells #[.int .i64 arg, .int .i64 cmp, .int .u64 m, .int .u64 v] 24) (Obj.cells DR 28)).2.1
  have q4 := Lib.hid (alloc2d w (Obj.cells #[.int .i64 arg, .int .i64 cmp, .int .u64 m, .int .u64 v] 24) (Obj.cells DR 28)).2.2.2
  go_enter Try.func7, Try.ntmps7
  go_wp2_with (refine wpList_load_row rfl 24 (.tmp 2) rfl _ rfl _ _ _ _ q1.out Try.underlying24 rfl HIC.out ?_)
  refine (RR.out _).mono ?_
  rintro e w1 ⟨rfl, hb⟩
  have q1_1 := Lib.hid (blk_below q1.out hb)
  have q2_1 := Lib.hid (blk_below q2.out hb)
  have q4_1 := Lib.hid (below_more q4.out (Nat.le_refl _) hb)
  clear hb q1 q2 q4
  go_wp2_with fail
  refine (KN.out _).mono ?_
  rintro e w2 ⟨rfl, hb⟩
  have q4_2 := Lib.hid (below_more q4_1.out (Nat.le_refl _) hb)
  clear hb  q4_1
  go_wp2_with fail
  go_ret
  exact ⟨rfl, q4_2.out⟩
set_option maxHeartbeats 8000000 in
theorem CondOrders_lt (j : Nat) (hj : (j : Int) < 6) (cmp m v : Int) (DR : Array Value) (HID : (Try.prog.info? 28).map (·.size) = some DR.size) (bs : List Bool) (hbs : bs = [false, true, true, true, false, false]) (HO : ∀ k : Nat, k < 6 → Gives Try.prog 16 #[.agg #[.int .i64 (j : Int), .int .i64 (k : Int), .int .u64 m, .int .u64 v], .agg DR] (.bool (bs.getD k false))) (RR : Gives Try.prog 15 #[.agg #[.int .i64 (j : Int), .int .i64 cmp, .int .u64 m, .int .u64 v]] (.bool true)) (KN : Gives Try.prog 18 #[] (.bool true)) (w : World) :
    Calls Try.prog 7 #[.agg #[.int .i64 (j : Int), .int .i64 cmp, .int .u64 m, .int .u64 v], .agg DR] w fun e w' => e = .returned (.bool true) ∧ Below w.heap.size w w' := by
  replace RR := Lib.hid RR
  replace KN := Lib.hid KN
  replace HO := Lib.hid HO
  replace HID := Lib.hid HID
  have HL := Lib.hid (show bs.length = 6 by rw [hbs]; rfl)
  replace hbs := Lib.hid hbs
  have HC := Lib.hid (fun c : Int => info_cond (.int .i64 (j : Int)) (.int .i64 c) (.int .u64 m) (.int .u64 v))
  have q1 := Lib.hid (alloc2d w (Obj.cells #[.int .i64 (j : Int), .int .i64 cmp, .int .u64 m, .int .u64 v] 24) (Obj.cells DR 28)).1
  have q2 := Lib.hid (alloc2d w (Obj.cells #[.int .i64 (j : Int), .int .i64 cmp, .int .u64 m, .int .u64 v] 24) (Obj.cells DR 28)).2.1
  have q4 := Lib.hid (alloc2d w (Obj.cells #[.int .i64 (j : Int), .int .i64 cmp, .int .u64 m, .int .u64 v] 24) (Obj.cells DR 28)).2.2.2
  go_enter Try.func7, Try.ntmps7
  go_wp2_with (refine wpList_load_row rfl 24 (.tmp 2) rfl _ rfl _ _ _ _ q1.out Try.underlying24 rfl (HC.out cmp) ?_)
  refine (RR.out _).mono ?_
  rintro e w1 ⟨rfl, hb⟩
  have q1_1 := Lib.hid (blk_below q1.out hb)
  have q2_1 := Lib.hid (blk_below q2.out hb)
  have q4_1 := Lib.hid (below_more q4.out (Nat.le_refl _) hb)
  clear hb q1 q2 q4
  have HN := Lib.hid (World.ownsRow_nil w1 w.heap.size 4 1)
  go_wp2_with fail
  go_loopw [6, 7] (fun s i wr => ∃ (k : Nat) (cc : Int), k ≤ 6 ∧ i = .int .i64 (k : Int) ∧ wr.ownsRow w.heap.size 4 1 s ((bs.map Value.bool).take k).length ((bs.map Value.bool).take k) ∧ wr.heap[w.heap.size]? = some (.cells #[.int .i64 (j : Int), .int .i64 cc, .int .u64 m, .int .u64 v] 24 (0, 0)) ∧ wr.heap[w.heap.size + 1]? = some (.cells DR 28 (0, 0)) ∧ Below w.heap.size w wr) (fun _ i _ => 6 - (intOf i).toNat)
  case atStart => exact ⟨0, cmp, by omega, rfl, HN.out, q1_1.out, q2_1.out, q4_1.out⟩
  case round =>
    obtain ⟨k, cc, hk, rfl, ho, hg, hd, hb⟩ := hrel
    have OW := Lib.hid ho
    have HG := Lib.hid hg
    have HD := Lib.hid hd
    have HB := Lib.hid hb
    clear ho hg hd hb q1_1 q2_1 q4_1 HN
    by_cases hlt : k < 6
    · have HK := Lib.hid (HO.out k hlt)
      have c1 := (blk_cell HG.out 1 : wr.cell? ⟨w.heap.size, 1, none⟩ = _)
      have f1 : wr.frozen? ⟨w.heap.size, 1, none⟩ = false := blk_frozen HG.out 1
      have HT := Lib.hid (take_snocB bs k (by rw [HL.out]; omega))
      have HLE := Lib.hid (show ((bs.map Value.bool).take k).length ≤ 6 by simp; omega)
      generalize bs.getD k false = b at *
      have G1 : (wr.setCell ⟨w.heap.size, 1, none⟩ (.int .i64 (k : Int))).heap[w.heap.size]? = some (.cells #[.int .i64 (j : Int), .int .i64 (k : Int), .int .u64 m, .int .u64 v] 24 (0, 0)) := blk_set HG.out 1 _
      have G2 : (wr.setCell ⟨w.heap.size, 1, none⟩ (.int .i64 (k : Int))).heap[w.heap.size + 1]? = _ := (heap_setCell_other _ _ _ _ (by simp)).trans HD.out
      have G3 : Below w.heap.size w (wr.setCell ⟨w.heap.size, 1, none⟩ (.int .i64 (k : Int))) := HB.out.trans ⟨rfl, rfl, rfl, by simp [World.setCell], fun q hq => heap_setCell_other _ _ _ _ (by simp; omega)⟩
      have G4 := own_setCell OW.out (own_ne OW.out HG.out (by decide)) (.int .i64 (k : Int)) (p := ⟨w.heap.size, 1, none⟩)
      replace G1 := Lib.hid G1
      replace G2 := Lib.hid G2
      replace G3 := Lib.hid G3
      replace G4 := Lib.hid G4
      clear OW HG HD HB
      go_wp2_with (first | (refine wpList_load_row rfl 24 (.tmp 2) rfl _ rfl _ _ _ _ G1.out Try.underlying24 rfl (HC.out (k : Int)) ?_) | (refine wpList_load_row rfl 28 (.tmp 3) rfl _ rfl _ _ _ _ G2.out Try.underlying28 rfl HID.out ?_))
      refine (HK.out _).mono ?_
      rintro e w2 ⟨rfl, hb⟩
      have K1 := Lib.hid (blk_below G1.out hb)
      have K2 := Lib.hid (blk_below G2.out hb)
      have K3 := Lib.hid (below_more G3.out (Nat.le_refl _) hb)
      have K4 := Lib.hid (own_move_below G4.out hb)
      clear hb G1 G2 G3 G4 c1 f1
      go_wp2_with (at_builtin; go_must (refine print_append (w0 := w) w.heap.size rfl (.tmp 19) (.tmp 23) 42 4 (.bool false) 1 rfl Try.underlying42 info_bool (by rfl) (by decide) _ ((bs.map Value.bool).take k) (.bool b) rfl rfl (by rfl) K4.out K3.out K3.out.size (by have := HLE.out; omega) ?_); intro v' w3 ho hb1 hg1 _; have M1 := Lib.hid (blk_grown K1.out hg1 (own_ne K4.out K1.out (by decide))); have M2 := Lib.hid (blk_grown K2.out hg1 (own_ne K4.out K2.out (by decide))); have M3 := Lib.hid hb1; have M4 := Lib.hid ho; clear ho hb1 hg1)
      refine ⟨⟨k + 1, (k : Int), by omega, by go_num, by rw [HT.out]; exact M4.out, M1.out, M2.out, M3.out⟩, ?_⟩
      simp [intOf]; omega
    · obtain rfl : k = 6 := by omega
      have ho := OW.out
      rw [List.take_of_length_le (by rw [List.length_map, HL.out]; omega), List.length_map, HL.out] at ho
      have e := hbs.out
      subst e
      clear hbs HL HO OW
      rcases ho.2 with ⟨_, hn⟩ | ⟨g, cap, cur, rfl, _, _, hnc, _⟩
      · exact absurd hn (by decide)
      · have z0 : wr.cell? ⟨g, 0, none⟩ = some (.bool false) := ho.cellAt 0 (by decide)
        have z1 : wr.cell? ⟨g, 1, none⟩ = some (.bool true) := ho.cellAt 1 (by decide)
        have z2 : wr.cell? ⟨g, 2, none⟩ = some (.bool true) := ho.cellAt 2 (by decide)
        have z3 : wr.cell? ⟨g, 3, none⟩ = some (.bool true) := ho.cellAt 3 (by decide)
        have z4 : wr.cell? ⟨g, 4, none⟩ = some (.bool false) := ho.cellAt 4 (by decide)
        have z5 : wr.cell? ⟨g, 5, none⟩ = some (.bool false) := ho.cellAt 5 (by decide)
        have OW := Lib.hid ho
        clear ho
        go_wp2_with fail
        go_loopw [5, 8] (fun n i W' => ((i = .int .i64 0 ∧ n = .int .i64 0) ∨ (i = .int .i64 1 ∧ n = .int .i64 0) ∨ (i = .int .i64 2 ∧ n = .int .i64 1) ∨ (i = .int .i64 3 ∧ n = .int .i64 1)) ∧ W' = wr) (fun _ i _ => 3 - (intOf i).toNat)
        case atStart => exact ⟨.inl ⟨rfl, rfl⟩, rfl⟩
        case round =>
          obtain ⟨hrel, rfl⟩ := hrel
          rcases hrel with ⟨rfl, rfl⟩ | ⟨rfl, rfl⟩ | ⟨rfl, rfl⟩ | ⟨rfl, rfl⟩
          · go_wp2_with fail
            exact ⟨⟨.inr (.inl ⟨rfl, rfl⟩), by trivial⟩, by simp [intOf]⟩
          · go_wp2_with fail
            exact ⟨⟨.inr (.inr (.inl ⟨rfl, rfl⟩)), by trivial⟩, by simp [intOf]⟩
          · go_wp2_with fail
            exact ⟨⟨.inr (.inr (.inr (⟨rfl, rfl⟩))), by trivial⟩, by simp [intOf]⟩
          · go_wp2_with fail
            clear z0 z1 z2 z3 z4 z5
            refine wp_region_held_drew (S := (fun w' => (w'.ownsRow w.heap.size 4 1 (.slice (some ⟨g, 0, none⟩) 6 cap) 6 ([false, true, true, true, false, false].map Value.bool)) ∧ (Below w.heap.size w w'))) (by kernel_rfl) ⟨OW.out, HB.out.drew⟩ (fun hNew => ?_)
            have hHeld := Lib.hid hNew
            clear hNew
            refine wpAnyH_takeL 0 (v := ?_) rfl (by kernel_rfl) (by kernel_rfl) (by kernel_rfl) (fun _ _ _ h => h) hHeld.out (yieldsIf_of rfl ?_) ?_
            rotate_left
            · (intro w hSw; go_simp <;> with_reducible rfl)
            try simp only [Act.put, List.setIfInBounds_toArray, List.set_cons_zero, List.set_cons_succ]
            refine wpAnyH_takeL 1 (v := ?_) rfl (by kernel_rfl) (by kernel_rfl) (by kernel_rfl) (fun _ _ _ h => h) hHeld.out (yieldsIf_of rfl ?_) ?_
            rotate_left
            · (intro w hSw; go_simp <;> with_reducible rfl)
            try simp only [Act.put, List.setIfInBounds_toArray, List.set_cons_zero, List.set_cons_succ]
            refine wpAnyH_takeL 2 (v := ?_) rfl (by kernel_rfl) (by kernel_rfl) (by kernel_rfl) (fun _ _ _ h => h) hHeld.out (yieldsIf_of rfl ?_) ?_
            rotate_left
            · (intro w hSw; go_simp <;> with_reducible rfl)
            try simp only [Act.put, List.setIfInBounds_toArray, List.set_cons_zero, List.set_cons_succ]
            refine wpAnyH_takeL 3 (v := ?_) rfl (by kernel_rfl) (by kernel_rfl) (by kernel_rfl) (fun _ _ _ h => h) hHeld.out (yieldsIf_of rfl ?_) ?_
            rotate_left
            · (intro w hSw; go_simp <;> with_reducible rfl)
            try simp only [Act.put, List.setIfInBounds_toArray, List.set_cons_zero, List.set_cons_succ]
            refine wpAnyH_takeL 4 (v := ?_) rfl (by kernel_rfl) (by kernel_rfl) (by kernel_rfl) (fun _ _ _ h => h) hHeld.out (yieldsIf_of rfl ?_) ?_
            rotate_left
            · (intro w hSw; go_simp <;> with_reducible rfl)
            try simp only [Act.put, List.setIfInBounds_toArray, List.set_cons_zero, List.set_cons_succ]
            refine wpAnyH_takeL 5 rfl (by kernel_rfl) (by kernel_rfl) (by kernel_rfl) (fun _ _ _ h => h) hHeld.out (yieldsIf_cell rfl 4 (.tmp 40) rfl _ rfl (.bool true) _ (fun _ h => World.ownsRow.cellAt h.1 3 (by decide)) Try.underlying4 rfl) ?_
            try simp only [Act.put, List.setIfInBounds_toArray, List.set_cons_zero, List.set_cons_succ]
            refine wpAnyH_takeL 6 (v := ?_) rfl (by kernel_rfl) (by kernel_rfl) (by kernel_rfl) (fun _ _ _ h => h) hHeld.out (yieldsIf_of rfl ?_) ?_
            rotate_left
            · (intro w hSw; go_simp <;> with_reducible rfl)
            try simp only [Act.put, List.setIfInBounds_toArray, List.set_cons_zero, List.set_cons_succ]
            refine wpAnyH_takeL 7 (v := ?_) rfl (by kernel_rfl) (by kernel_rfl) (by kernel_rfl) (fun _ _ _ h => h) hHeld.out (yieldsIf_of rfl ?_) ?_
            rotate_left
            · (intro w hSw; go_simp <;> with_reducible rfl)
            try simp only [Act.put, List.setIfInBounds_toArray, List.set_cons_zero, List.set_cons_succ]
            refine wpAnyH_takeL 8 (v := ?_) rfl (by kernel_rfl) (by kernel_rfl) (by kernel_rfl) (fun _ _ _ h => h) hHeld.out (yieldsIf_of rfl ?_) ?_
            rotate_left
            · (intro w hSw; go_simp <;> with_reducible rfl)
            try simp only [Act.put, List.setIfInBounds_toArray, List.set_cons_zero, List.set_cons_succ]
            refine wpAnyH_takeL 9 rfl (by kernel_rfl) (by kernel_rfl) (by kernel_rfl) (fun _ _ _ h => h) hHeld.out (yieldsIf_cell rfl 4 (.tmp 44) rfl _ rfl (.bool false) _ (fun _ h => World.ownsRow.cellAt h.1 5 (by decide)) Try.underlying4 rfl) ?_
            try simp only [Act.put, List.setIfInBounds_toArray, List.set_cons_zero, List.set_cons_succ]
            refine wpAnyH_takeL 10 (v := ?_) rfl (by kernel_rfl) (by kernel_rfl) (by kernel_rfl) (fun _ _ _ h => h) hHeld.out (yieldsIf_of rfl ?_) ?_
            rotate_left
            · (intro w hSw; go_simp <;> with_reducible rfl)
            try simp only [Act.put, List.setIfInBounds_toArray, List.set_cons_zero, List.set_cons_succ]
            refine wpAnyH_takeL 11 (v := ?_) rfl (by kernel_rfl) (by kernel_rfl) (by kernel_rfl) (fun _ _ _ h => h) hHeld.out (yieldsIf_of rfl ?_) ?_
            rotate_left
            · (intro w hSw; go_simp <;> with_reducible rfl)
            try simp only [Act.put, List.setIfInBounds_toArray, List.set_cons_zero, List.set_cons_succ]
            refine wpAnyH_takeL 12 (v := ?_) rfl (by kernel_rfl) (by kernel_rfl) (by kernel_rfl) (fun _ _ _ h => h) hHeld.out (yieldsIf_of rfl ?_) ?_
            rotate_left
            · (intro w hSw; go_simp <;> with_reducible rfl)
            try simp only [Act.put, List.setIfInBounds_toArray, List.set_cons_zero, List.set_cons_succ]
            refine wpAnyH_takeL 13 rfl (by kernel_rfl) (by kernel_rfl) (by kernel_rfl) (fun _ _ _ h => h) hHeld.out (yieldsIf_cell rfl 4 (.tmp 48) rfl _ rfl (.bool false) _ (fun _ h => World.ownsRow.cellAt h.1 0 (by decide)) Try.underlying4 rfl) ?_
            try simp only [Act.put, List.setIfInBounds_toArray, List.set_cons_zero, List.set_cons_succ]
            refine wpAnyH_takeL 14 (v := ?_) rfl (by kernel_rfl) (by kernel_rfl) (by kernel_rfl) (fun _ _ _ h => h) hHeld.out (yieldsIf_of rfl ?_) ?_
            rotate_left
            · (intro w hSw; go_simp <;> with_reducible rfl)
            try simp only [Act.put, List.setIfInBounds_toArray, List.set_cons_zero, List.set_cons_succ]
            refine wpAnyH_takeL 15 (v := ?_) rfl (by kernel_rfl) (by kernel_rfl) (by kernel_rfl) (fun _ _ _ h => h) hHeld.out (yieldsIf_of rfl ?_) ?_
            rotate_left
            · (intro w hSw; go_simp <;> with_reducible rfl)
            try simp only [Act.put, List.setIfInBounds_toArray, List.set_cons_zero, List.set_cons_succ]
            refine wpAnyH_takeL 16 (v := ?_) rfl (by kernel_rfl) (by kernel_rfl) (by kernel_rfl) (fun _ _ _ h => h) hHeld.out (yieldsIf_of rfl ?_) ?_
            rotate_left
            · (intro w hSw; go_simp <;> with_reducible rfl)
            try simp only [Act.put, List.setIfInBounds_toArray, List.set_cons_zero, List.set_cons_succ]
            refine wpAnyH_takeL 17 (v := ?_) rfl (by kernel_rfl) (by kernel_rfl) (by kernel_rfl) (fun _ _ _ h => h) hHeld.out (yieldsIf_of rfl ?_) ?_
            rotate_left
            · (intro w hSw; go_simp <;> with_reducible rfl)
            try simp only [Act.put, List.setIfInBounds_toArray, List.set_cons_zero, List.set_cons_succ]
            refine wpAnyH_takeL 18 (v := ?_) rfl (by kernel_rfl) (by kernel_rfl) (by kernel_rfl) (fun _ _ _ h => h) hHeld.out (yieldsIf_of rfl ?_) ?_
            rotate_left
            · (intro w hSw; go_simp <;> with_reducible rfl)
            try simp only [Act.put, List.setIfInBounds_toArray, List.set_cons_zero, List.set_cons_succ]
            refine wpAnyH_takeL 19 rfl (by kernel_rfl) (by kernel_rfl) (by kernel_rfl) (fun _ _ _ h => h) hHeld.out (yieldsIf_cell rfl 4 (.tmp 54) rfl _ rfl (.bool true) _ (fun _ h => World.ownsRow.cellAt h.1 3 (by decide)) Try.underlying4 rfl) ?_
            try simp only [Act.put, List.setIfInBounds_toArray, List.set_cons_zero, List.set_cons_succ]
            refine wpAnyH_takeL 20 (v := ?_) rfl (by kernel_rfl) (by kernel_rfl) (by kernel_rfl) (fun _ _ _ h => h) hHeld.out (yieldsIf_of rfl ?_) ?_
            rotate_left
            · (intro w hSw; go_simp <;> with_reducible rfl)
            try simp only [Act.put, List.setIfInBounds_toArray, List.set_cons_zero, List.set_cons_succ]
            refine wpAnyH_takeL 21 (v := ?_) rfl (by kernel_rfl) (by kernel_rfl) (by kernel_rfl) (fun _ _ _ h => h) hHeld.out (yieldsIf_of rfl ?_) ?_
            rotate_left
            · (intro w hSw; go_simp <;> with_reducible rfl)
            try simp only [Act.put, List.setIfInBounds_toArray, List.set_cons_zero, List.set_cons_succ]
            refine wpAnyH_takeL 22 rfl (by kernel_rfl) (by kernel_rfl) (by kernel_rfl) (fun _ _ _ h => h) hHeld.out (yieldsIf_cell rfl 4 (.tmp 57) rfl _ rfl (.bool false) _ (fun _ h => World.ownsRow.cellAt h.1 4 (by decide)) Try.underlying4 rfl) ?_
            try simp only [Act.put, List.setIfInBounds_toArray, List.set_cons_zero, List.set_cons_succ]
            refine wpAnyH_takeL 23 (v := ?_) rfl (by kernel_rfl) (by kernel_rfl) (by kernel_rfl) (fun _ _ _ h => h) hHeld.out (yieldsIf_of rfl ?_) ?_
            rotate_left
            · (intro w hSw; go_simp <;> with_reducible rfl)
            try simp only [Act.put, List.setIfInBounds_toArray, List.set_cons_zero, List.set_cons_succ]
            refine wpAnyH_takeL 24 (v := ?_) rfl (by kernel_rfl) (by kernel_rfl) (by kernel_rfl) (fun _ _ _ h => h) hHeld.out (yieldsIf_of rfl ?_) ?_
            rotate_left
            · (intro w hSw; go_simp <;> with_reducible rfl)
            try simp only [Act.put, List.setIfInBounds_toArray, List.set_cons_zero, List.set_cons_succ]
            refine wpAnyH_takeL 25 (v := ?_) rfl (by kernel_rfl) (by kernel_rfl) (by kernel_rfl) (fun _ _ _ h => h) hHeld.out (yieldsIf_of rfl ?_) ?_
            rotate_left
            · (intro w hSw; go_simp <;> with_reducible rfl)
            try simp only [Act.put, List.setIfInBounds_toArray, List.set_cons_zero, List.set_cons_succ]
            refine wpAnyH_one 26 _ (by kernel_rfl) rfl (fun _ h => h) (fun K hK => ?_)
            go_simp
            refine (KN.out _).mono ?_
            rintro _ v44 ⟨rfl, hb⟩
            refine hK.out _ _ ⟨own_move_below (hHeld.out.1) hb, below_more (hHeld.out.2) (Nat.le_refl _) hb⟩ (fun hNew => ?_)
            clear hK K hHeld hb
            have hHeld := Lib.hid hNew
            clear hNew
            try simp only [Act.put, List.setIfInBounds_toArray, List.set_cons_zero, List.set_cons_succ]
            refine wpAnyH_takeL 27 (v := ?_) rfl (by kernel_rfl) (by kernel_rfl) (by kernel_rfl) (fun _ _ _ h => h) hHeld.out (yieldsIf_of rfl ?_) ?_
            rotate_left
            · (intro w hSw; go_simp <;> with_reducible rfl)
            try simp only [Act.put, List.setIfInBounds_toArray, List.set_cons_zero, List.set_cons_succ]
            refine wpAnyH_takeL 28 (v := ?_) rfl (by kernel_rfl) (by kernel_rfl) (by kernel_rfl) (fun _ _ _ h => h) hHeld.out (yieldsIf_of rfl ?_) ?_
            rotate_left
            · (intro w hSw; go_simp <;> with_reducible rfl)
            try simp only [Act.put, List.setIfInBounds_toArray, List.set_cons_zero, List.set_cons_succ]
            refine wpAnyH_done (by kernel_rfl) ?_ _
            have HFI := Lib.hid (hHeld.out.2)
            clear hHeld
            go_wp2_with fail
            go_ret
            exact ⟨rfl, HFI.out⟩
set_option maxHeartbeats 8000000 in
theorem CondOrders_eq (j : Nat) (hj : (j : Int) < 6) (cmp m v : Int) (DR : Array Value) (HID : (Try.prog.info? 28).map (·.size) = some DR.size) (bs : List Bool) (hbs : bs = [true, false, false, true, false, true]) (HO : ∀ k : Nat, k < 6 → Gives Try.prog 16 #[.agg #[.int .i64 (j : Int), .int .i64 (k : Int), .int .u64 m, .int .u64 v], .agg DR] (.bool (bs.getD k false))) (RR : Gives Try.prog 15 #[.agg #[.int .i64 (j : Int), .int .i64 cmp, .int .u64 m, .int .u64 v]] (.bool true)) (KN : Gives Try.prog 18 #[] (.bool true)) (w : World) :
    Calls Try.prog 7 #[.agg #[.int .i64 (j : Int), .int .i64 cmp, .int .u64 m, .int .u64 v], .agg DR] w fun e w' => e = .returned (.bool true) ∧ Below w.heap.size w w' := by
  replace RR := Lib.hid RR
  replace KN := Lib.hid KN
  replace HO := Lib.hid HO
  replace HID := Lib.hid HID
  have HL := Lib.hid (show bs.length = 6 by rw [hbs]; rfl)
  replace hbs := Lib.hid hbs
  have HC := Lib.hid (fun c : Int => info_cond (.int .i64 (j : Int)) (.int .i64 c) (.int .u64 m) (.int .u64 v))
  have q1 := Lib.hid (alloc2d w (Obj.cells #[.int .i64 (j : Int), .int .i64 cmp, .int .u64 m, .int .u64 v] 24) (Obj.cells DR 28)).1
  have q2 := Lib.hid (alloc2d w (Obj.cells #[.int .i64 (j : Int), .int .i64 cmp, .int .u64 m, .int .u64 v] 24) (Obj.cells DR 28)).2.1
  have q4 := Lib.hid (alloc2d w (Obj.cells #[.int .i64 (j : Int), .int .i64 cmp, .int .u64 m, .int .u64 v] 24) (Obj.cells DR 28)).2.2.2
  go_enter Try.func7, Try.ntmps7
  go_wp2_with (refine wpList_load_row rfl 24 (.tmp 2) rfl _ rfl _ _ _ _ q1.out Try.underlying24 rfl (HC.out cmp) ?_)
  refine (RR.out _).mono ?_
  rintro e w1 ⟨rfl, hb⟩
  have q1_1 := Lib.hid (blk_below q1.out hb)
  have q2_1 := Lib.hid (blk_below q2.out hb)
  have q4_1 := Lib.hid (below_more q4.out (Nat.le_refl _) hb)
  clear hb q1 q2 q4
  have HN := Lib.hid (World.ownsRow_nil w1 w.heap.size 4 1)
  go_wp2_with fail
  go_loopw [6, 7] (fun s i wr => ∃ (k : Nat) (cc : Int), k ≤ 6 ∧ i = .int .i64 (k : Int) ∧ wr.ownsRow w.heap.size 4 1 s ((bs.map Value.bool).take k).length ((bs.map Value.bool).take k) ∧ wr.heap[w.heap.size]? = some (.cells #[.int .i64 (j : Int), .int .i64 cc, .int .u64 m, .int .u64 v] 24 (0, 0)) ∧ wr.heap[w.heap.size + 1]? = some (.cells DR 28 (0, 0)) ∧ Below w.heap.size w wr) (fun _ i _ => 6 - (intOf i).toNat)
  case atStart => exact ⟨0, cmp, by omega, rfl, HN.out, q1_1.out, q2_1.out, q4_1.out⟩
  case round =>
    obtain ⟨k, cc, hk, rfl, ho, hg, hd, hb⟩ := hrel
    have OW := Lib.hid ho
    have HG := Lib.hid hg
    have HD := Lib.hid hd
    have HB := Lib.hid hb
    clear ho hg hd hb q1_1 q2_1 q4_1 HN
    by_cases hlt : k < 6
    · have HK := Lib.hid (HO.out k hlt)
      have c1 := (blk_cell HG.out 1 : wr.cell? ⟨w.heap.size, 1, none⟩ = _)
      have f1 : wr.frozen? ⟨w.heap.size, 1, none⟩ = false := blk_frozen HG.out 1
      have HT := Lib.hid (take_snocB bs k (by rw [HL.out]; omega))
      have HLE := Lib.hid (show ((bs.map Value.bool).take k).length ≤ 6 by simp; omega)
      generalize bs.getD k false = b at *
      have G1 : (wr.setCell ⟨w.heap.size, 1, none⟩ (.int .i64 (k : Int))).heap[w.heap.size]? = some (.cells #[.int .i64 (j : Int), .int .i64 (k : Int), .int .u64 m, .int .u64 v] 24 (0, 0)) := blk_set HG.out 1 _
      have G2 : (wr.setCell ⟨w.heap.size, 1, none⟩ (.int .i64 (k : Int))).heap[w.heap.size + 1]? = _ := (heap_setCell_other _ _ _ _ (by simp)).trans HD.out
      have G3 : Below w.heap.size w (wr.setCell ⟨w.heap.size, 1, none⟩ (.int .i64 (k : Int))) := HB.out.trans ⟨rfl, rfl, rfl, by simp [World.setCell], fun q hq => heap_setCell_other _ _ _ _ (by simp; omega)⟩
      have G4 := own_setCell OW.out (own_ne OW.out HG.out (by decide)) (.int .i64 (k : Int)) (p := ⟨w.heap.size, 1, none⟩)
      replace G1 := Lib.hid G1
      replace G2 := Lib.hid G2
      replace G3 := Lib.hid G3
      replace G4 := Lib.hid G4
      clear OW HG HD HB
      go_wp2_with (first | (refine wpList_load_row rfl 24 (.tmp 2) rfl _ rfl _ _ _ _ G1.out Try.underlying24 rfl (HC.out (k : Int)) ?_) | (refine wpList_load_row rfl 28 (.tmp 3) rfl _ rfl _ _ _ _ G2.out Try.underlying28 rfl HID.out ?_))
      refine (HK.out _).mono ?_
      rintro e w2 ⟨rfl, hb⟩
      have K1 := Lib.hid (blk_below G1.out hb)
      have K2 := Lib.hid (blk_below G2.out hb)
      have K3 := Lib.hid (below_more G3.out (Nat.le_refl _) hb)
      have K4 := Lib.hid (own_move_below G4.out hb)
      clear hb G1 G2 G3 G4 c1 f1
      go_wp2_with (at_builtin; go_must (refine print_append (w0 := w) w.heap.size rfl (.tmp 19) (.tmp 23) 42 4 (.bool false) 1 rfl Try.underlying42 info_bool (by rfl) (by decide) _ ((bs.map Value.bool).take k) (.bool b) rfl rfl (by rfl) K4.out K3.out K3.out.size (by have := HLE.out; omega) ?_); intro v' w3 ho hb1 hg1 _; have M1 := Lib.hid (blk_grown K1.out hg1 (own_ne K4.out K1.out (by decide))); have M2 := Lib.hid (blk_grown K2.out hg1 (own_ne K4.out K2.out (by decide))); have M3 := Lib.hid hb1; have M4 := Lib.hid ho; clear ho hb1 hg1)
      refine ⟨⟨k + 1, (k : Int), by omega, by go_num, by rw [HT.out]; exact M4.out, M1.out, M2.out, M3.out⟩, ?_⟩
      simp [intOf]; omega
    · obtain rfl : k = 6 := by omega
      have ho := OW.out
      rw [List.take_of_length_le (by rw [List.length_map, HL.out]; omega), List.length_map, HL.out] at ho
      have e := hbs.out
      subst e
      clear hbs HL HO OW
      rcases ho.2 with ⟨_, hn⟩ | ⟨g, cap, cur, rfl, _, _, hnc, _⟩
      · exact absurd hn (by decide)
      · have z0 : wr.cell? ⟨g, 0, none⟩ = some (.bool true) := ho.cellAt 0 (by decide)
        have z1 : wr.cell? ⟨g, 1, none⟩ = some (.bool false) := ho.cellAt 1 (by decide)
        have z2 : wr.cell? ⟨g, 2, none⟩ = some (.bool false) := ho.cellAt 2 (by decide)
        have z3 : wr.cell? ⟨g, 3, none⟩ = some (.bool true) := ho.cellAt 3 (by decide)
        have z4 : wr.cell? ⟨g, 4, none⟩ = some (.bool false) := ho.cellAt 4 (by decide)
        have z5 : wr.cell? ⟨g, 5, none⟩ = some (.bool true) := ho.cellAt 5 (by decide)
        have OW := Lib.hid ho
        clear ho
        go_wp2_with fail
        go_loopw [5, 8] (fun n i W' => ((i = .int .i64 0 ∧ n = .int .i64 0) ∨ (i = .int .i64 1 ∧ n = .int .i64 1) ∨ (i = .int .i64 2 ∧ n = .int .i64 1) ∨ (i = .int .i64 3 ∧ n = .int .i64 1)) ∧ W' = wr) (fun _ i _ => 3 - (intOf i).toNat)
        case atStart => exact ⟨.inl ⟨rfl, rfl⟩, rfl⟩
        case round =>
          obtain ⟨hrel, rfl⟩ := hrel
          rcases hrel with ⟨rfl, rfl⟩ | ⟨rfl, rfl⟩ | ⟨rfl, rfl⟩ | ⟨rfl, rfl⟩
          · go_wp2_with fail
            exact ⟨⟨.inr (.inl ⟨rfl, rfl⟩), by trivial⟩, by simp [intOf]⟩
          · go_wp2_with fail
            exact ⟨⟨.inr (.inr (.inl ⟨rfl, rfl⟩)), by trivial⟩, by simp [intOf]⟩
          · go_wp2_with fail
            exact ⟨⟨.inr (.inr (.inr (⟨rfl, rfl⟩))), by trivial⟩, by simp [intOf]⟩
          · go_wp2_with fail
            clear z0 z1 z2 z3 z4 z5
            refine wp_region_held_drew (S := (fun w' => (w'.ownsRow w.heap.size 4 1 (.slice (some ⟨g, 0, none⟩) 6 cap) 6 ([true, false, false, true, false, true].map Value.bool)) ∧ (Below w.heap.size w w'))) (by kernel_rfl) ⟨OW.out, HB.out.drew⟩ (fun hNew => ?_)
            have hHeld := Lib.hid hNew
            clear hNew
            refine wpAnyH_takeL 0 (v := ?_) rfl (by kernel_rfl) (by kernel_rfl) (by kernel_rfl) (fun _ _ _ h => h) hHeld.out (yieldsIf_of rfl ?_) ?_
            rotate_left
            · (intro w hSw; go_simp <;> with_reducible rfl)
            try simp only [Act.put, List.setIfInBounds_toArray, List.set_cons_zero, List.set_cons_succ]
            refine wpAnyH_takeL 1 (v := ?_) rfl (by kernel_rfl) (by kernel_rfl) (by kernel_rfl) (fun _ _ _ h => h) hHeld.out (yieldsIf_of rfl ?_) ?_
            rotate_left
            · (intro w hSw; go_simp <;> with_reducible rfl)
            try simp only [Act.put, List.setIfInBounds_toArray, List.set_cons_zero, List.set_cons_succ]
            refine wpAnyH_takeL 2 (v := ?_) rfl (by kernel_rfl) (by kernel_rfl) (by kernel_rfl) (fun _ _ _ h => h) hHeld.out (yieldsIf_of rfl ?_) ?_
            rotate_left
            · (intro w hSw; go_simp <;> with_reducible rfl)
            try simp only [Act.put, List.setIfInBounds_toArray, List.set_cons_zero, List.set_cons_succ]
            refine wpAnyH_takeL 3 (v := ?_) rfl (by kernel_rfl) (by kernel_rfl) (by kernel_rfl) (fun _ _ _ h => h) hHeld.out (yieldsIf_of rfl ?_) ?_
            rotate_left
            · (intro w hSw; go_simp <;> with_reducible rfl)
            try simp only [Act.put, List.setIfInBounds_toArray, List.set_cons_zero, List.set_cons_succ]
            refine wpAnyH_takeL 4 (v := ?_) rfl (by kernel_rfl) (by kernel_rfl) (by kernel_rfl) (fun _ _ _ h => h) hHeld.out (yieldsIf_of rfl ?_) ?_
            rotate_left
            · (intro w hSw; go_simp <;> with_reducible rfl)
            try simp only [Act.put, List.setIfInBounds_toArray, List.set_cons_zero, List.set_cons_succ]
            refine wpAnyH_takeL 5 rfl (by kernel_rfl) (by kernel_rfl) (by kernel_rfl) (fun _ _ _ h => h) hHeld.out (yieldsIf_cell rfl 4 (.tmp 40) rfl _ rfl (.bool true) _ (fun _ h => World.ownsRow.cellAt h.1 3 (by decide)) Try.underlying4 rfl) ?_
            try simp only [Act.put, List.setIfInBounds_toArray, List.set_cons_zero, List.set_cons_succ]
            refine wpAnyH_takeL 6 (v := ?_) rfl (by kernel_rfl) (by kernel_rfl) (by kernel_rfl) (fun _ _ _ h => h) hHeld.out (yieldsIf_of rfl ?_) ?_
            rotate_left
            · (intro w hSw; go_simp <;> with_reducible rfl)
            try simp only [Act.put, List.setIfInBounds_toArray, List.set_cons_zero, List.set_cons_succ]
            refine wpAnyH_takeL 7 (v := ?_) rfl (by kernel_rfl) (by kernel_rfl) (by kernel_rfl) (fun _ _ _ h => h) hHeld.out (yieldsIf_of rfl ?_) ?_
            rotate_left
            · (intro w hSw; go_simp <;> with_reducible rfl)
            try simp only [Act.put, List.setIfInBounds_toArray, List.set_cons_zero, List.set_cons_succ]
            refine wpAnyH_takeL 8 (v := ?_) rfl (by kernel_rfl) (by kernel_rfl) (by kernel_rfl) (fun _ _ _ h => h) hHeld.out (yieldsIf_of rfl ?_) ?_
            rotate_left
            · (intro w hSw; go_simp <;> with_reducible rfl)
            try simp only [Act.put, List.setIfInBounds_toArray, List.set_cons_zero, List.set_cons_succ]
            refine wpAnyH_takeL 9 rfl (by kernel_rfl) (by kernel_rfl) (by kernel_rfl) (fun _ _ _ h => h) hHeld.out (yieldsIf_cell rfl 4 (.tmp 44) rfl _ rfl (.bool true) _ (fun _ h => World.ownsRow.cellAt h.1 5 (by decide)) Try.underlying4 rfl) ?_
            try simp only [Act.put, List.setIfInBounds_toArray, List.set_cons_zero, List.set_cons_succ]
            refine wpAnyH_takeL 10 (v := ?_) rfl (by kernel_rfl) (by kernel_rfl) (by kernel_rfl) (fun _ _ _ h => h) hHeld.out (yieldsIf_of rfl ?_) ?_
            rotate_left
            · (intro w hSw; go_simp <;> with_reducible rfl)
            try simp only [Act.put, List.setIfInBounds_toArray, List.set_cons_zero, List.set_cons_succ]
            refine wpAnyH_takeL 11 (v := ?_) rfl (by kernel_rfl) (by kernel_rfl) (by kernel_rfl) (fun _ _ _ h => h) hHeld.out (yieldsIf_of rfl ?_) ?_
            rotate_left
            · (intro w hSw; go_simp <;> with_reducible rfl)
            try simp only [Act.put, List.setIfInBounds_toArray, List.set_cons_zero, List.set_cons_succ]
            refine wpAnyH_takeL 12 (v := ?_) rfl (by kernel_rfl) (by kernel_rfl) (by kernel_rfl) (fun _ _ _ h => h) hHeld.out (yieldsIf_of rfl ?_) ?_
            rotate_left
            · (intro w hSw; go_simp <;> with_reducible rfl)
            try simp only [Act.put, List.setIfInBounds_toArray, List.set_cons_zero, List.set_cons_succ]
            refine wpAnyH_takeL 13 rfl (by kernel_rfl) (by kernel_rfl) (by kernel_rfl) (fun _ _ _ h => h) hHeld.out (yieldsIf_cell rfl 4 (.tmp 48) rfl _ rfl (.bool true) _ (fun _ h => World.ownsRow.cellAt h.1 0 (by decide)) Try.underlying4 rfl) ?_
            try simp only [Act.put, List.setIfInBounds_toArray, List.set_cons_zero, List.set_cons_succ]
            refine wpAnyH_takeL 14 (v := ?_) rfl (by kernel_rfl) (by kernel_rfl) (by kernel_rfl) (fun _ _ _ h => h) hHeld.out (yieldsIf_of rfl ?_) ?_
            rotate_left
            · (intro w hSw; go_simp <;> with_reducible rfl)
            try simp only [Act.put, List.setIfInBounds_toArray, List.set_cons_zero, List.set_cons_succ]
            refine wpAnyH_takeL 15 (v := ?_) rfl (by kernel_rfl) (by kernel_rfl) (by kernel_rfl) (fun _ _ _ h => h) hHeld.out (yieldsIf_of rfl ?_) ?_
            rotate_left
            · (intro w hSw; go_simp <;> with_reducible rfl)
            try simp only [Act.put, List.setIfInBounds_toArray, List.set_cons_zero, List.set_cons_succ]
            refine wpAnyH_takeL 16 (v := ?_) rfl (by kernel_rfl) (by kernel_rfl) (by kernel_rfl) (fun _ _ _ h => h) hHeld.out (yieldsIf_of rfl ?_) ?_
            rotate_left
            · (intro w hSw; go_simp <;> with_reducible rfl)
            try simp only [Act.put, List.setIfInBounds_toArray, List.set_cons_zero, List.set_cons_succ]
            refine wpAnyH_takeL 17 (v := ?_) rfl (by kernel_rfl) (by kernel_rfl) (by kernel_rfl) (fun _ _ _ h => h) hHeld.out (yieldsIf_of rfl ?_) ?_
            rotate_left
            · (intro w hSw; go_simp <;> with_reducible rfl)
            try simp only [Act.put, List.setIfInBounds_toArray, List.set_cons_zero, List.set_cons_succ]
            refine wpAnyH_takeL 18 (v := ?_) rfl (by kernel_rfl) (by kernel_rfl) (by kernel_rfl) (fun _ _ _ h => h) hHeld.out (yieldsIf_of rfl ?_) ?_
            rotate_left
            · (intro w hSw; go_simp <;> with_reducible rfl)
            try simp only [Act.put, List.setIfInBounds_toArray, List.set_cons_zero, List.set_cons_succ]
            refine wpAnyH_takeL 19 rfl (by kernel_rfl) (by kernel_rfl) (by kernel_rfl) (fun _ _ _ h => h) hHeld.out (yieldsIf_cell rfl 4 (.tmp 54) rfl _ rfl (.bool true) _ (fun _ h => World.ownsRow.cellAt h.1 3 (by decide)) Try.underlying4 rfl) ?_
            try simp only [Act.put, List.setIfInBounds_toArray, List.set_cons_zero, List.set_cons_succ]
            refine wpAnyH_takeL 20 (v := ?_) rfl (by kernel_rfl) (by kernel_rfl) (by kernel_rfl) (fun _ _ _ h => h) hHeld.out (yieldsIf_of rfl ?_) ?_
            rotate_left
            · (intro w hSw; go_simp <;> with_reducible rfl)
            try simp only [Act.put, List.setIfInBounds_toArray, List.set_cons_zero, List.set_cons_succ]
            refine wpAnyH_takeL 21 (v := ?_) rfl (by kernel_rfl) (by kernel_rfl) (by kernel_rfl) (fun _ _ _ h => h) hHeld.out (yieldsIf_of rfl ?_) ?_
            rotate_left
            · (intro w hSw; go_simp <;> with_reducible rfl)
            try simp only [Act.put, List.setIfInBounds_toArray, List.set_cons_zero, List.set_cons_succ]
            refine wpAnyH_takeL 22 rfl (by kernel_rfl) (by kernel_rfl) (by kernel_rfl) (fun _ _ _ h => h) hHeld.out (yieldsIf_cell rfl 4 (.tmp 57) rfl _ rfl (.bool false) _ (fun _ h => World.ownsRow.cellAt h.1 4 (by decide)) Try.underlying4 rfl) ?_
            try simp only [Act.put, List.setIfInBounds_toArray, List.set_cons_zero, List.set_cons_succ]
            refine wpAnyH_takeL 23 (v := ?_) rfl (by kernel_rfl) (by kernel_rfl) (by kernel_rfl) (fun _ _ _ h => h) hHeld.out (yieldsIf_of rfl ?_) ?_
            rotate_left
            · (intro w hSw; go_simp <;> with_reducible rfl)
            try simp only [Act.put, List.setIfInBounds_toArray, List.set_cons_zero, List.set_cons_succ]
            refine wpAnyH_takeL 24 (v := ?_) rfl (by kernel_rfl) (by kernel_rfl) (by kernel_rfl) (fun _ _ _ h => h) hHeld.out (yieldsIf_of rfl ?_) ?_
            rotate_left
            · (intro w hSw; go_simp <;> with_reducible rfl)
            try simp only [Act.put, List.setIfInBounds_toArray, List.set_cons_zero, List.set_cons_succ]
            refine wpAnyH_takeL 25 (v := ?_) rfl (by kernel_rfl) (by kernel_rfl) (by kernel_rfl) (fun _ _ _ h => h) hHeld.out (yieldsIf_of rfl ?_) ?_
            rotate_left
            · (intro w hSw; go_simp <;> with_reducible rfl)
            try simp only [Act.put, List.setIfInBounds_toArray, List.set_cons_zero, List.set_cons_succ]
            refine wpAnyH_one 26 _ (by kernel_rfl) rfl (fun _ h => h) (fun K hK => ?_)
            go_simp
            refine (KN.out _).mono ?_
            rintro _ v45 ⟨rfl, hb⟩
            refine hK.out _ _ ⟨own_move_below (hHeld.out.1) hb, below_more (hHeld.out.2) (Nat.le_refl _) hb⟩ (fun hNew => ?_)
            clear hK K hHeld hb
            have hHeld := Lib.hid hNew
            clear hNew
            try simp only [Act.put, List.setIfInBounds_toArray, List.set_cons_zero, List.set_cons_succ]
            refine wpAnyH_takeL 27 (v := ?_) rfl (by kernel_rfl) (by kernel_rfl) (by kernel_rfl) (fun _ _ _ h => h) hHeld.out (yieldsIf_of rfl ?_) ?_
            rotate_left
            · (intro w hSw; go_simp <;> with_reducible rfl)
            try simp only [Act.put, List.setIfInBounds_toArray, List.set_cons_zero, List.set_cons_succ]
            refine wpAnyH_takeL 28 (v := ?_) rfl (by kernel_rfl) (by kernel_rfl) (by kernel_rfl) (fun _ _ _ h => h) hHeld.out (yieldsIf_of rfl ?_) ?_
            rotate_left
            · (intro w hSw; go_simp <;> with_reducible rfl)
            try simp only [Act.put, List.setIfInBounds_toArray, List.set_cons_zero, List.set_cons_succ]
            refine wpAnyH_done (by kernel_rfl) ?_ _
            have HFI := Lib.hid (hHeld.out.2)
            clear hHeld
            go_wp2_with fail
            go_ret
            exact ⟨rfl, HFI.out⟩
set_option maxHeartbeats 8000000 in
theorem CondOrders_gt (j : Nat) (hj : (j : Int) < 6) (cmp m v : Int) (DR : Array Value) (HID : (Try.prog.info? 28).map (·.size) = some DR.size) (bs : List Bool) (hbs : bs = [false, true, false, false, true, true]) (HO : ∀ k : Nat, k < 6 → Gives Try.prog 16 #[.agg #[.int .i64 (j : Int), .int .i64 (k : Int), .int .u64 m, .int .u64 v], .agg DR] (.bool (bs.getD k false))) (RR : Gives Try.prog 15 #[.agg #[.int .i64 (j : Int), .int .i64 cmp, .int .u64 m, .int .u64 v]] (.bool true)) (KN : Gives Try.prog 18 #[] (.bool true)) (w : World) :
    Calls Try.prog 7 #[.agg #[.int .i64 (j : Int), .int .i64 cmp, .int .u64 m, .int .u64 v], .agg DR] w fun e w' => e = .returned (.bool true) ∧ Below w.heap.size w w' := by
  replace RR := Lib.hid RR
  replace KN := Lib.hid KN
  replace HO := Lib.hid HO
  replace HID := Lib.hid HID
  have HL := Lib.hid (show bs.length = 6 by rw [hbs]; rfl)
  replace hbs := Lib.hid hbs
  have HC := Lib.hid (fun c : Int => info_cond (.int .i64 (j : Int)) (.int .i64 c) (.int .u64 m) (.int .u64 v))
  have q1 := Lib.hid (alloc2d w (Obj.cells #[.int .i64 (j : Int), .int .i64 cmp, .int .u64 m, .int .u64 v] 24) (Obj.cells DR 28)).1
  have q2 := Lib.hid (alloc2d w (Obj.cells #[.int .i64 (j : Int), .int .i64 cmp, .int .u64 m, .int .u64 v] 24) (Obj.cells DR 28)).2.1
  have q4 := Lib.hid (alloc2d w (Obj.cells #[.int .i64 (j : Int), .int .i64 cmp, .int .u64 m, .int .u64 v] 24) (Obj.cells DR 28)).2.2.2
  go_enter Try.func7, Try.ntmps7
  go_wp2_with (refine wpList_load_row rfl 24 (.tmp 2) rfl _ rfl _ _ _ _ q1.out Try.underlying24 rfl (HC.out cmp) ?_)
  refine (RR.out _).mono ?_
  rintro e w1 ⟨rfl, hb⟩
  have q1_1 := Lib.hid (blk_below q1.out hb)
  have q2_1 := Lib.hid (blk_below q2.out hb)
  have q4_1 := Lib.hid (below_more q4.out (Nat.le_refl _) hb)
  clear hb q1 q2 q4
  have HN := Lib.hid (World.ownsRow_nil w1 w.heap.size 4 1)
  go_wp2_with fail
  go_loopw [6, 7] (fun s i wr => ∃ (k : Nat) (cc : Int), k ≤ 6 ∧ i = .int .i64 (k : Int) ∧ wr.ownsRow w.heap.size 4 1 s ((bs.map Value.bool).take k).length ((bs.map Value.bool).take k) ∧ wr.heap[w.heap.size]? = some (.cells #[.int .i64 (j : Int), .int .i64 cc, .int .u64 m, .int .u64 v] 24 (0, 0)) ∧ wr.heap[w.heap.size + 1]? = some (.cells DR 28 (0, 0)) ∧ Below w.heap.size w wr) (fun _ i _ => 6 - (intOf i).toNat)
  case atStart => exact ⟨0, cmp, by omega, rfl, HN.out, q1_1.out, q2_1.out, q4_1.out⟩
  case round =>
    obtain ⟨k, cc, hk, rfl, ho, hg, hd, hb⟩ := hrel
    have OW := Lib.hid ho
    have HG := Lib.hid hg
    have HD := Lib.hid hd
    have HB := Lib.hid hb
    clear ho hg hd hb q1_1 q2_1 q4_1 HN
    by_cases hlt : k < 6
    · have HK := Lib.hid (HO.out k hlt)
      have c1 := (blk_cell HG.out 1 : wr.cell? ⟨w.heap.size, 1, none⟩ = _)
      have f1 : wr.frozen? ⟨w.heap.size, 1, none⟩ = false := blk_frozen HG.out 1
      have HT := Lib.hid (take_snocB bs k (by rw [HL.out]; omega))
      have HLE := Lib.hid (show ((bs.map Value.bool).take k).length ≤ 6 by simp; omega)
      generalize bs.getD k false = b at *
      have G1 : (wr.setCell ⟨w.heap.size, 1, none⟩ (.int .i64 (k : Int))).heap[w.heap.size]? = some (.cells #[.int .i64 (j : Int), .int .i64 (k : Int), .int .u64 m, .int .u64 v] 24 (0, 0)) := blk_set HG.out 1 _
      have G2 : (wr.setCell ⟨w.heap.size, 1, none⟩ (.int .i64 (k : Int))).heap[w.heap.size + 1]? = _ := (heap_setCell_other _ _ _ _ (by simp)).trans HD.out
      have G3 : Below w.heap.size w (wr.setCell ⟨w.heap.size, 1, none⟩ (.int .i64 (k : Int))) := HB.out.trans ⟨rfl, rfl, rfl, by simp [World.setCell], fun q hq => heap_setCell_other _ _ _ _ (by simp; omega)⟩
      have G4 := own_setCell OW.out (own_ne OW.out HG.out (by decide)) (.int .i64 (k : Int)) (p := ⟨w.heap.size, 1, none⟩)
      replace G1 := Lib.hid G1
      replace G2 := Lib.hid G2
      replace G3 := Lib.hid G3
      replace G4 := Lib.hid G4
      clear OW HG HD HB
      go_wp2_with (first | (refine wpList_load_row rfl 24 (.tmp 2) rfl _ rfl _ _ _ _ G1.out Try.underlying24 rfl (HC.out (k : Int)) ?_) | (refine wpList_load_row rfl 28 (.tmp 3) rfl _ rfl _ _ _ _ G2.out Try.underlying28 rfl HID.out ?_))
      refine (HK.out _).mono ?_
      rintro e w2 ⟨rfl, hb⟩
      have K1 := Lib.hid (blk_below G1.out hb)
      have K2 := Lib.hid (blk_below G2.out hb)
      have K3 := Lib.hid (below_more G3.out (Nat.le_refl _) hb)
      have K4 := Lib.hid (own_move_below G4.out hb)
      clear hb G1 G2 G3 G4 c1 f1
      go_wp2_with (at_builtin; go_must (refine print_append (w0 := w) w.heap.size rfl (.tmp 19) (.tmp 23) 42 4 (.bool false) 1 rfl Try.underlying42 info_bool (by rfl) (by decide) _ ((bs.map Value.bool).take k) (.bool b) rfl rfl (by rfl) K4.out K3.out K3.out.size (by have := HLE.out; omega) ?_); intro v' w3 ho hb1 hg1 _; have M1 := Lib.hid (blk_grown K1.out hg1 (own_ne K4.out K1.out (by decide))); have M2 := Lib.hid (blk_grown K2.out hg1 (own_ne K4.out K2.out (by decide))); have M3 := Lib.hid hb1; have M4 := Lib.hid ho; clear ho hb1 hg1)
      refine ⟨⟨k + 1, (k : Int), by omega, by go_num, by rw [HT.out]; exact M4.out, M1.out, M2.out, M3.out⟩, ?_⟩
      simp [intOf]; omega
    · obtain rfl : k = 6 := by omega
      have ho := OW.out
      rw [List.take_of_length_le (by rw [List.length_map, HL.out]; omega), List.length_map, HL.out] at ho
      have e := hbs.out
      subst e
      clear hbs HL HO OW
      rcases ho.2 with ⟨_, hn⟩ | ⟨g, cap, cur, rfl, _, _, hnc, _⟩
      · exact absurd hn (by decide)
      · have z0 : wr.cell? ⟨g, 0, none⟩ = some (.bool false) := ho.cellAt 0 (by decide)
        have z1 : wr.cell? ⟨g, 1, none⟩ = some (.bool true) := ho.cellAt 1 (by decide)
        have z2 : wr.cell? ⟨g, 2, none⟩ = some (.bool false) := ho.cellAt 2 (by decide)
        have z3 : wr.cell? ⟨g, 3, none⟩ = some (.bool false) := ho.cellAt 3 (by decide)
        have z4 : wr.cell? ⟨g, 4, none⟩ = some (.bool true) := ho.cellAt 4 (by decide)
        have z5 : wr.cell? ⟨g, 5, none⟩ = some (.bool true) := ho.cellAt 5 (by decide)
        have OW := Lib.hid ho
        clear ho
        go_wp2_with fail
        go_loopw [5, 8] (fun n i W' => ((i = .int .i64 0 ∧ n = .int .i64 0) ∨ (i = .int .i64 1 ∧ n = .int .i64 0) ∨ (i = .int .i64 2 ∧ n = .int .i64 0) ∨ (i = .int .i64 3 ∧ n = .int .i64 1)) ∧ W' = wr) (fun _ i _ => 3 - (intOf i).toNat)
        case atStart => exact ⟨.inl ⟨rfl, rfl⟩, rfl⟩
        case round =>
          obtain ⟨hrel, rfl⟩ := hrel
          rcases hrel with ⟨rfl, rfl⟩ | ⟨rfl, rfl⟩ | ⟨rfl, rfl⟩ | ⟨rfl, rfl⟩
          · go_wp2_with fail
            exact ⟨⟨.inr (.inl ⟨rfl, rfl⟩), by trivial⟩, by simp [intOf]⟩
          · go_wp2_with fail
            exact ⟨⟨.inr (.inr (.inl ⟨rfl, rfl⟩)), by trivial⟩, by simp [intOf]⟩
          · go_wp2_with fail
            exact ⟨⟨.inr (.inr (.inr (⟨rfl, rfl⟩))), by trivial⟩, by simp [intOf]⟩
          · go_wp2_with fail
            clear z0 z1 z2 z3 z4 z5
            refine wp_region_held_drew (S := (fun w' => (w'.ownsRow w.heap.size 4 1 (.slice (some ⟨g, 0, none⟩) 6 cap) 6 ([false, true, false, false, true, true].map Value.bool)) ∧ (Below w.heap.size w w'))) (by kernel_rfl) ⟨OW.out, HB.out.drew⟩ (fun hNew => ?_)
            have hHeld := Lib.hid hNew
            clear hNew
            refine wpAnyH_takeL 0 (v := ?_) rfl (by kernel_rfl) (by kernel_rfl) (by kernel_rfl) (fun _ _ _ h => h) hHeld.out (yieldsIf_of rfl ?_) ?_
            rotate_left
            · (intro w hSw; go_simp <;> with_reducible rfl)
            try simp only [Act.put, List.setIfInBounds_toArray, List.set_cons_zero, List.set_cons_succ]
            refine wpAnyH_takeL 1 (v := ?_) rfl (by kernel_rfl) (by kernel_rfl) (by kernel_rfl) (fun _ _ _ h => h) hHeld.out (yieldsIf_of rfl ?_) ?_
            rotate_left
            · (intro w hSw; go_simp <;> with_reducible rfl)
            try simp only [Act.put, List.setIfInBounds_toArray, List.set_cons_zero, List.set_cons_succ]
            refine wpAnyH_takeL 2 (v := ?_) rfl (by kernel_rfl) (by kernel_rfl) (by kernel_rfl) (fun _ _ _ h => h) hHeld.out (yieldsIf_of rfl ?_) ?_
            rotate_left
            · (intro w hSw; go_simp <;> with_reducible rfl)
            try simp only [Act.put, List.setIfInBounds_toArray, List.set_cons_zero, List.set_cons_succ]
            refine wpAnyH_takeL 3 (v := ?_) rfl (by kernel_rfl) (by kernel_rfl) (by kernel_rfl) (fun _ _ _ h => h) hHeld.out (yieldsIf_of rfl ?_) ?_
            rotate_left
            · (intro w hSw; go_simp <;> with_reducible rfl)
            try simp only [Act.put, List.setIfInBounds_toArray, List.set_cons_zero, List.set_cons_succ]
            refine wpAnyH_takeL 4 (v := ?_) rfl (by kernel_rfl) (by kernel_rfl) (by kernel_rfl) (fun _ _ _ h => h) hHeld.out (yieldsIf_of rfl ?_) ?_
            rotate_left
            · (intro w hSw; go_simp <;> with_reducible rfl)
            try simp only [Act.put, List.setIfInBounds_toArray, List.set_cons_zero, List.set_cons_succ]
            refine wpAnyH_takeL 5 rfl (by kernel_rfl) (by kernel_rfl) (by kernel_rfl) (fun _ _ _ h => h) hHeld.out (yieldsIf_cell rfl 4 (.tmp 40) rfl _ rfl (.bool false) _ (fun _ h => World.ownsRow.cellAt h.1 3 (by decide)) Try.underlying4 rfl) ?_
            try simp only [Act.put, List.setIfInBounds_toArray, List.set_cons_zero, List.set_cons_succ]
            refine wpAnyH_takeL 6 (v := ?_) rfl (by kernel_rfl) (by kernel_rfl) (by kernel_rfl) (fun _ _ _ h => h) hHeld.out (yieldsIf_of rfl ?_) ?_
            rotate_left
            · (intro w hSw; go_simp <;> with_reducible rfl)
            try simp only [Act.put, List.setIfInBounds_toArray, List.set_cons_zero, List.set_cons_succ]
            refine wpAnyH_takeL 7 rfl (by kernel_rfl) (by kernel_rfl) (by kernel_rfl) (fun _ _ _ h => h) hHeld.out (yieldsIf_not rfl) ?_
            try simp only [Act.put, List.setIfInBounds_toArray, List.set_cons_zero, List.set_cons_succ]
            refine wpAnyH_takeL 8 rfl (by kernel_rfl) (by kernel_rfl) (by kernel_rfl) (fun _ _ _ h => h) hHeld.out (yieldsIf_not rfl) ?_
            try simp only [Act.put, List.setIfInBounds_toArray, List.set_cons_zero, List.set_cons_succ]
            refine wpAnyH_takeL 9 rfl (by kernel_rfl) (by kernel_rfl) (by kernel_rfl) (fun _ _ _ h => h) hHeld.out (yieldsIf_not rfl) ?_
            try simp only [Act.put, List.setIfInBounds_toArray, List.set_cons_zero, List.set_cons_succ]
            refine wpAnyH_takeL 10 (v := ?_) rfl (by kernel_rfl) (by kernel_rfl) (by kernel_rfl) (fun _ _ _ h => h) hHeld.out (yieldsIf_of rfl ?_) ?_
            rotate_left
            · (intro w hSw; go_simp <;> with_reducible rfl)
            try simp only [Act.put, List.setIfInBounds_toArray, List.set_cons_zero, List.set_cons_succ]
            refine wpAnyH_takeL 11 (v := ?_) rfl (by kernel_rfl) (by kernel_rfl) (by kernel_rfl) (fun _ _ _ h => h) hHeld.out (yieldsIf_of rfl ?_) ?_
            rotate_left
            · (intro w hSw; go_simp <;> with_reducible rfl)
            try simp only [Act.put, List.setIfInBounds_toArray, List.set_cons_zero, List.set_cons_succ]
            refine wpAnyH_takeL 12 (v := ?_) rfl (by kernel_rfl) (by kernel_rfl) (by kernel_rfl) (fun _ _ _ h => h) hHeld.out (yieldsIf_of rfl ?_) ?_
            rotate_left
            · (intro w hSw; go_simp <;> with_reducible rfl)
            try simp only [Act.put, List.setIfInBounds_toArray, List.set_cons_zero, List.set_cons_succ]
            refine wpAnyH_takeL 13 rfl (by kernel_rfl) (by kernel_rfl) (by kernel_rfl) (fun _ _ _ h => h) hHeld.out (yieldsIf_cell rfl 4 (.tmp 48) rfl _ rfl (.bool false) _ (fun _ h => World.ownsRow.cellAt h.1 0 (by decide)) Try.underlying4 rfl) ?_
            try simp only [Act.put, List.setIfInBounds_toArray, List.set_cons_zero, List.set_cons_succ]
            refine wpAnyH_takeL 14 (v := ?_) rfl (by kernel_rfl) (by kernel_rfl) (by kernel_rfl) (fun _ _ _ h => h) hHeld.out (yieldsIf_of rfl ?_) ?_
            rotate_left
            · (intro w hSw; go_simp <;> with_reducible rfl)
            try simp only [Act.put, List.setIfInBounds_toArray, List.set_cons_zero, List.set_cons_succ]
            refine wpAnyH_takeL 15 (v := ?_) rfl (by kernel_rfl) (by kernel_rfl) (by kernel_rfl) (fun _ _ _ h => h) hHeld.out (yieldsIf_of rfl ?_) ?_
            rotate_left
            · (intro w hSw; go_simp <;> with_reducible rfl)
            try simp only [Act.put, List.setIfInBounds_toArray, List.set_cons_zero, List.set_cons_succ]
            refine wpAnyH_takeL 16 (v := ?_) rfl (by kernel_rfl) (by kernel_rfl) (by kernel_rfl) (fun _ _ _ h => h) hHeld.out (yieldsIf_of rfl ?_) ?_
            rotate_left
            · (intro w hSw; go_simp <;> with_reducible rfl)
            try simp only [Act.put, List.setIfInBounds_toArray, List.set_cons_zero, List.set_cons_succ]
            refine wpAnyH_takeL 17 (v := ?_) rfl (by kernel_rfl) (by kernel_rfl) (by kernel_rfl) (fun _ _ _ h => h) hHeld.out (yieldsIf_of rfl ?_) ?_
            rotate_left
            · (intro w hSw; go_simp <;> with_reducible rfl)
            try simp only [Act.put, List.setIfInBounds_toArray, List.set_cons_zero, List.set_cons_succ]
            refine wpAnyH_takeL 18 (v := ?_) rfl (by kernel_rfl) (by kernel_rfl) (by kernel_rfl) (fun _ _ _ h => h) hHeld.out (yieldsIf_of rfl ?_) ?_
            rotate_left
            · (intro w hSw; go_simp <;> with_reducible rfl)
            try simp only [Act.put, List.setIfInBounds_toArray, List.set_cons_zero, List.set_cons_succ]
            refine wpAnyH_takeL 19 rfl (by kernel_rfl) (by kernel_rfl) (by kernel_rfl) (fun _ _ _ h => h) hHeld.out (yieldsIf_cell rfl 4 (.tmp 54) rfl _ rfl (.bool false) _ (fun _ h => World.ownsRow.cellAt h.1 3 (by decide)) Try.underlying4 rfl) ?_
            try simp only [Act.put, List.setIfInBounds_toArray, List.set_cons_zero, List.set_cons_succ]
            refine wpAnyH_takeL 20 (v := ?_) rfl (by kernel_rfl) (by kernel_rfl) (by kernel_rfl) (fun _ _ _ h => h) hHeld.out (yieldsIf_of rfl ?_) ?_
            rotate_left
            · (intro w hSw; go_simp <;> with_reducible rfl)
            try simp only [Act.put, List.setIfInBounds_toArray, List.set_cons_zero, List.set_cons_succ]
            refine wpAnyH_takeL 21 (v := ?_) rfl (by kernel_rfl) (by kernel_rfl) (by kernel_rfl) (fun _ _ _ h => h) hHeld.out (yieldsIf_of rfl ?_) ?_
            rotate_left
            · (intro w hSw; go_simp <;> with_reducible rfl)
            try simp only [Act.put, List.setIfInBounds_toArray, List.set_cons_zero, List.set_cons_succ]
            refine wpAnyH_takeL 22 rfl (by kernel_rfl) (by kernel_rfl) (by kernel_rfl) (fun _ _ _ h => h) hHeld.out (yieldsIf_cell rfl 4 (.tmp 57) rfl _ rfl (.bool true) _ (fun _ h => World.ownsRow.cellAt h.1 4 (by decide)) Try.underlying4 rfl) ?_
            try simp only [Act.put, List.setIfInBounds_toArray, List.set_cons_zero, List.set_cons_succ]
            refine wpAnyH_takeL 23 (v := ?_) rfl (by kernel_rfl) (by kernel_rfl) (by kernel_rfl) (fun _ _ _ h => h) hHeld.out (yieldsIf_of rfl ?_) ?_
            rotate_left
            · (intro w hSw; go_simp <;> with_reducible rfl)
            try simp only [Act.put, List.setIfInBounds_toArray, List.set_cons_zero, List.set_cons_succ]
            refine wpAnyH_takeL 24 (v := ?_) rfl (by kernel_rfl) (by kernel_rfl) (by kernel_rfl) (fun _ _ _ h => h) hHeld.out (yieldsIf_of rfl ?_) ?_
            rotate_left
            · (intro w hSw; go_simp <;> with_reducible rfl)
            try simp only [Act.put, List.setIfInBounds_toArray, List.set_cons_zero, List.set_cons_succ]
            refine wpAnyH_takeL 25 (v := ?_) rfl (by kernel_rfl) (by kernel_rfl) (by kernel_rfl) (fun _ _ _ h => h) hHeld.out (yieldsIf_of rfl ?_) ?_
            rotate_left
            · (intro w hSw; go_simp <;> with_reducible rfl)
            try simp only [Act.put, List.setIfInBounds_toArray, List.set_cons_zero, List.set_cons_succ]
            refine wpAnyH_one 26 _ (by kernel_rfl) rfl (fun _ h => h) (fun K hK => ?_)
            go_simp
            refine (KN.out _).mono ?_
            rintro _ v46 ⟨rfl, hb⟩
            refine hK.out _ _ ⟨own_move_below (hHeld.out.1) hb, below_more (hHeld.out.2) (Nat.le_refl _) hb⟩ (fun hNew => ?_)
            clear hK K hHeld hb
            have hHeld := Lib.hid hNew
            clear hNew
            try simp only [Act.put, List.setIfInBounds_toArray, List.set_cons_zero, List.set_cons_succ]
            refine wpAnyH_takeL 27 (v := ?_) rfl (by kernel_rfl) (by kernel_rfl) (by kernel_rfl) (fun _ _ _ h => h) hHeld.out (yieldsIf_of rfl ?_) ?_
            rotate_left
            · (intro w hSw; go_simp <;> with_reducible rfl)
            try simp only [Act.put, List.setIfInBounds_toArray, List.set_cons_zero, List.set_cons_succ]
            refine wpAnyH_takeL 28 (v := ?_) rfl (by kernel_rfl) (by kernel_rfl) (by kernel_rfl) (fun _ _ _ h => h) hHeld.out (yieldsIf_of rfl ?_) ?_
            rotate_left
            · (intro w hSw; go_simp <;> with_reducible rfl)
            try simp only [Act.put, List.setIfInBounds_toArray, List.set_cons_zero, List.set_cons_succ]
            refine wpAnyH_done (by kernel_rfl) ?_ _
            have HFI := Lib.hid (hHeld.out.2)
            clear hHeld
            go_wp2_with fail
            go_ret
            exact ⟨rfl, HFI.out⟩
theorem CondOrders_row (a c m v x0 x1 x2 x3 x4 x5 x6 x7 x8 : Int) (hc : IsCond a c m v) (hd : IsDat x0 x1 x2 [x3, x4, x5, x6, x7, x8]) (w : World) :
    Calls Try.prog 7 #[CV a c m v, .agg (dataA x0 x1 x2 [x3, x4, x5, x6, x7, x8])] w fun e w' => e = .returned (.bool true) ∧ Below w.heap.size w w' := by
  have h2 := RefRight_walk a c m v
  cases hr : rightB a c with
  | false =>
    rw [hr] at h2
    exact CondOrders_no a c m v _ h2 knows_walk w
  | true =>
    rw [hr] at h2
    obtain ⟨j, k, rfl, rfl, hj, hk⟩ := right_nats hr
    have HO : ∀ bs : List Bool, (∀ k < 6, bs.getD k false = cmpB k (bits .and .u64 ([x3, x4, x5, x6, x7, x8].getD j 0) m) v) → ∀ k : Nat, k < 6 → Gives Try.prog 16 #[CV (j : Int) (k : Int) m v, .agg (dataA x0 x1 x2 [x3, x4, x5, x6, x7, x8])] (.bool (bs.getD k false)) := by
      intro bs hb k hk
      have h := Holds_walk (j : Int) (k : Int) m v x0 x1 x2 _ hd hc.1
      have e : holdsB (j : Int) (k : Int) m v [x3, x4, x5, x6, x7, x8] = bs.getD k false := by
        unfold holdsB
        rw [right_nat j k hj hk, Bool.true_and]
        exact (hb k hk).symm
      rw [e] at h
      exact h
    have i2 := info_data x0 x1 x2 _ hd.len
    generalize bits .and .u64 ([x3, x4, x5, x6, x7, x8].getD j 0) m = y at *
    rcases (by omega : y < v ∨ y = v ∨ v < y) with h | h | h
    · refine CondOrders_lt j (by omega) (k : Int) m v _ i2 _ rfl (HO _ ?_) h2 knows_walk w
      intro k hk
      rcases (by omega : k = 0 ∨ k = 1 ∨ k = 2 ∨ k = 3 ∨ k = 4 ∨ k = 5) with rfl | rfl | rfl | rfl | rfl | rfl <;> simp [cmpB] <;> omega
    · refine CondOrders_eq j (by omega) (k : Int) m v _ i2 _ rfl (HO _ ?_) h2 knows_walk w
      intro k hk
      rcases (by omega : k = 0 ∨ k = 1 ∨ k = 2 ∨ k = 3 ∨ k = 4 ∨ k = 5) with rfl | rfl | rfl | rfl | rfl | rfl <;> simp [cmpB] <;> omega
    · refine CondOrders_gt j (by omega) (k : Int) m v _ i2 _ rfl (HO _ ?_) h2 knows_walk w
      intro k hk
      rcases (by omega : k = 0 ∨ k = 1 ∨ k = 2 ∨ k = 3 ∨ k = 4 ∨ k = 5) with rfl | rfl | rfl | rfl | rfl | rfl <;> simp [cmpB] <;> omega
end Go.Proofs.Ythdkgpmpopjnaaa.H
