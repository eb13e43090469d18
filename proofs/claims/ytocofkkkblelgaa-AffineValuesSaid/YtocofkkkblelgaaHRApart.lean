/-
Package hurdleref14: Apart; the printed functions' contracts over ReadsInt.
-/
import Derived.Test.YtocofkkkblelgaaHSum
import Derived.BigQuiet
import Derived.Deep.QuietTactic
import Derived.Test.YtocofkkkblelgaaQx1
set_option linter.unusedVariables false
set_option linter.unusedSimpArgs false
namespace Go.Proofs.Ytocofkkkblelgaa.H
open Go.RowKit Go.Proofs.YtocofkkkblelgaaW.PrintWords

theorem c_of_reads {w : World} {k : IntKind} {A : Option Addr} {n : Nat} {xs : List Int} (h : ReadsInt w k A n xs) : Kd.C (Kd.int k) w A n xs := by
  refine ⟨h.1, h.2.1, fun h0 => ?_⟩
  obtain ⟨ad, e, hc⟩ := h.2.2 h0
  refine ⟨ad, e, fun j p hp => ⟨[.int k p], rfl, rfl, fun i u hu => ?_⟩⟩
  have hj : j < n := by have := (List.getElem?_eq_some_iff.1 hp).1; have := h.1; omega
  cases i with
  | zero =>
    simp at hu
    subst hu
    have := hc j hj
    rw [List.getD_eq_getElem?_getD, hp] at this
    simpa [Kd.int, Kd.scalar] using this
  | succ i => simp at hu
theorem zip_extA {xs ys : List Int} (hx : xs.length = 34) (hy : ys.length = 34) (h : ∀ k, k < 34 → xs.getD k 0 = ys.getD k 0) : xs = ys := by
  apply List.ext_getElem (by omega)
  intro i h1 h2
  have := h i (by omega)
  simpa [List.getD_eq_getElem?_getD, List.getElem?_eq_getElem h1, List.getElem?_eq_getElem h2] using this
theorem below_dN {B : Nat} {w0 w : World} (h : Below B w0 w) (n : Nat) : Below B w0 (w.drewN n) := ⟨h.os, h.tape, h.output, h.size, h.block⟩
theorem make34 : ∀ W : World, (Instr.makeSlice 30 (.int .i64 34) (.int .i64 34)).run Try.prog W = .ok (.slice (some ⟨W.heap.size, 0, none⟩) 34 34) (W.alloc (.cells (madeCells #[.int .u32 0] 34) 22)) := fun W =>
  print_make 30 22 .u32 4 Try.underlying30 info22d (by decide) 34 (by omega) W

theorem same_gives (r : Bool) (c1 c2 : Int) (fs gs : List Int) (ad1 ad2 : Addr) (n1 n2 : Nat) (hl1 : fs.length = 34) (hl2 : gs.length = 34) (hn1 : 34 ≤ n1) (hn2 : 34 ≤ n2) (w : World) (hr1 : ReadsInt w .u32 (some ad1) 34 fs) (hr2 : ReadsInt w .u32 (some ad2) 34 gs)
    (h : ∃ k, Q.hurdleref14_Same.f k c1 fs c2 gs = some r) :
    Calls Try.prog 10 #[.agg #[.int .u32 c1, .slice (some ad1) 34 n1], .agg #[.int .u32 c2, .slice (some ad2) 34 n2]] w fun e w' => e = .returned (.bool r) ∧ Below w.heap.size w w' := by
  obtain ⟨k, h⟩ := h
  have := Q.hurdleref14_Same.calls k c1 (some ad1) n1 fs c2 (some ad2) n2 gs r w (by rw [hl1]; exact c_of_reads hr1) (by omega) (by rw [hl2]; exact c_of_reads hr2) (by omega) h
  rw [hl1, hl2] at this
  exact this

theorem wrap_small {i : Int} (h0 : 0 ≤ i) (h : i < 100) : wrap64 (i + 1) = i + 1 := by unfold wrap64; omega
theorem rd_getD (l : List Int) (k : Nat) : rd l (k : Int) = l.getD k 0 := by unfold rd; simp
theorem same_l0 (fs gs : List Int) (c1 c2 : Int) (hl1 : fs.length = 34) (hl2 : gs.length = 34) (d : Nat) : ∀ (k i : Nat), i + d = 34 → d < k → (∀ j, j < i → fs.getD j 0 = gs.getD j 0) → Q.hurdleref14_Same.l0 k (i : Int) c1 fs c2 gs = some (c1 == c2 && fs == gs) := by
  induction d with
  | zero =>
    intro k i hi hk hall
    obtain ⟨k, rfl⟩ : ∃ m, k = m + 1 := ⟨k - 1, by omega⟩
    simp only [Q.hurdleref14_Same.l0]
    rw [if_neg (by omega), show fs = gs from zip_extA hl1 hl2 (fun j hj => hall j (by omega))]
    simp
  | succ d ih =>
    intro k i hi hk hall
    obtain ⟨k, rfl⟩ : ∃ m, k = m + 1 := ⟨k - 1, by omega⟩
    simp only [Q.hurdleref14_Same.l0]
    rw [if_pos (by omega), if_pos (by omega), if_pos (by omega), if_pos (by omega), rd_getD, rd_getD]
    by_cases h : fs.getD i 0 = gs.getD i 0
    · rw [if_pos h, wrap_small (by omega) (by omega)]
      exact ih k (i + 1) (by omega) (by omega) (fun j hj => by
        by_cases e : j = i
        · rw [e]; exact h
        · exact hall j (by omega))
    · rw [if_neg h, show (fs == gs) = false from by
        cases hb : fs == gs with
        | false => rfl
        | true => exact absurd (by rw [eq_of_beq hb]) h]
      simp
theorem same_f (fs gs : List Int) (c1 c2 : Int) (hl1 : fs.length = 34) (hl2 : gs.length = 34) : ∃ k, Q.hurdleref14_Same.f k c1 fs c2 gs = some (c1 == c2 && fs == gs) :=
  ⟨36, by unfold Q.hurdleref14_Same.f; exact same_l0 fs gs c1 c2 hl1 hl2 34 36 0 (by omega) (by omega) (fun j hj => by omega)⟩

set_option maxHeartbeats 4000000 in
theorem RApart_same (c1 : Int) (fs : List Int) (ad1 ad2 : Addr) (n1 n2 : Nat) (hl1 : fs.length = 34) (hn1 : 34 ≤ n1) (hn2 : 34 ≤ n2) (w : World) (hr1 : ReadsInt w .u32 (some ad1) 34 fs) (hr2 : ReadsInt w .u32 (some ad2) 34 fs) :
    Calls Try.prog 27 #[.agg #[.int .u32 c1, .slice (some ad1) 34 n1], .agg #[.int .u32 c1, .slice (some ad2) 34 n2]] w fun e w' =>
      ∃ v, e = .returned (.tuple #[v, .bool false]) ∧ w'.ownsRow w.heap.size 22 1 v 34 (nums .u32 z34) ∧ Below w.heap.size w w' := by
  have SM := Lib.hid (fun w hr1 hr2 => same_gives true c1 c1 fs fs ad1 ad2 n1 n2 hl1 hl1 hn1 hn2 w hr1 hr2 (by have := same_f fs fs c1 c1 hl1 hl1; simpa using this))
  have HR1 := Lib.hid hr1
  have HR2 := Lib.hid hr2
  obtain ⟨q1, q2, q3, q4, q5⟩ := alloc3 w (Obj.cells #[Value.int .u32 c1, Value.slice (some ad1) 34 n1] 32) (Obj.cells #[Value.int .u32 c1, Value.slice (some ad2) 34 n2] 32) (Obj.cells (madeCells #[Value.int .u32 0] 34) 22)
  have hown := own_made ((w.alloc (Obj.cells #[Value.int .u32 c1, Value.slice (some ad1) 34 n1] 32)).alloc (Obj.cells #[Value.int .u32 c1, Value.slice (some ad2) 34 n2] 32)) w.heap.size 22 .u32 34 (by simp; omega) (by omega)
  rw [show ((w.alloc (Obj.cells #[Value.int .u32 c1, Value.slice (some ad1) 34 n1] 32)).alloc (Obj.cells #[Value.int .u32 c1, Value.slice (some ad2) 34 n2] 32)).heap.size = w.heap.size + 1 + 1 by simp] at hown
  have OWN := Lib.hid hown
  have Q1 := Lib.hid q1
  have Q2 := Lib.hid q2
  have Q5 := Lib.hid q5
  clear hr1 hr2 q1 q2 q3 q4 q5 hown
  have MK := make34
  go_enter Try.func27, Try.ntmps27
  go_wp2_with fail
  refine (SM.out _ (HR1.out.below Q5.out) (HR2.out.below Q5.out)).mono ?_
  rintro e w1 ⟨rfl, hb⟩
  have G1 := Lib.hid (blk_below Q1.out hb)
  have G2 := Lib.hid (blk_below Q2.out hb)
  have HB := Lib.hid (below_more Q5.out (Nat.le_refl _) hb)
  have OW := Lib.hid (own_move_below OWN.out hb)
  clear hb Q1 Q2 Q5 OWN MK
  go_wp2_with fail
  go_ret2
  exact ⟨_, rfl, OW.out, HB.out⟩

set_option maxHeartbeats 4000000 in
theorem RApart_num (c1 c2 : Int) (fs gs : List Int) (ad1 ad2 : Addr) (n1 n2 : Nat) (hl1 : fs.length = 34) (hl2 : gs.length = 34) (hn1 : 34 ≤ n1) (hn2 : 34 ≤ n2) (hne : ¬ c1 = c2) (w : World) (hr1 : ReadsInt w .u32 (some ad1) 34 fs) (hr2 : ReadsInt w .u32 (some ad2) 34 gs) :
    Calls Try.prog 27 #[.agg #[.int .u32 c1, .slice (some ad1) 34 n1], .agg #[.int .u32 c2, .slice (some ad2) 34 n2]] w fun e w' =>
      ∃ v, e = .returned (.tuple #[v, .bool true]) ∧ w'.ownsRow w.heap.size 22 1 v 34 (nums .u32 z34) ∧ Below w.heap.size w w' := by
  have SM := Lib.hid (fun w hr1 hr2 => same_gives false c1 c2 fs gs ad1 ad2 n1 n2 hl1 hl2 hn1 hn2 w hr1 hr2 (by have := same_f fs gs c1 c2 hl1 hl2; rw [show (c1 == c2 && fs == gs) = false from by simp [hne]] at this; exact this))
  have HR1 := Lib.hid hr1
  have HR2 := Lib.hid hr2
  obtain ⟨q1, q2, q3, q4, q5⟩ := alloc3 w (Obj.cells #[Value.int .u32 c1, Value.slice (some ad1) 34 n1] 32) (Obj.cells #[Value.int .u32 c2, Value.slice (some ad2) 34 n2] 32) (Obj.cells (madeCells #[Value.int .u32 0] 34) 22)
  have hown := own_made ((w.alloc (Obj.cells #[Value.int .u32 c1, Value.slice (some ad1) 34 n1] 32)).alloc (Obj.cells #[Value.int .u32 c2, Value.slice (some ad2) 34 n2] 32)) w.heap.size 22 .u32 34 (by simp; omega) (by omega)
  rw [show ((w.alloc (Obj.cells #[Value.int .u32 c1, Value.slice (some ad1) 34 n1] 32)).alloc (Obj.cells #[Value.int .u32 c2, Value.slice (some ad2) 34 n2] 32)).heap.size = w.heap.size + 1 + 1 by simp] at hown
  have OWN := Lib.hid hown
  have Q1 := Lib.hid q1
  have Q2 := Lib.hid q2
  have Q5 := Lib.hid q5
  clear hr1 hr2 q1 q2 q3 q4 q5 hown
  have MK := make34
  go_enter Try.func27, Try.ntmps27
  go_wp2_with fail
  refine (SM.out _ (HR1.out.below Q5.out) (HR2.out.below Q5.out)).mono ?_
  rintro e w1 ⟨rfl, hb⟩
  have G1 := Lib.hid (blk_below Q1.out hb)
  have G2 := Lib.hid (blk_below Q2.out hb)
  have HB := Lib.hid (below_more Q5.out (Nat.le_refl _) hb)
  have OW := Lib.hid (own_move_below OWN.out hb)
  clear hb Q1 Q2 Q5 OWN MK
  have a1 : w1.cell? ⟨w.heap.size, 0, none⟩ = some (.int .u32 c1) := blk_cell G1.out 0
  have a2 : w1.cell? ⟨w.heap.size, 1, none⟩ = some (.slice (some ad1) 34 n1) := blk_cell G1.out 1
  have a3 : w1.cell? ⟨w.heap.size + 1, 0, none⟩ = some (.int .u32 c2) := blk_cell G2.out 0
  have a4 : w1.cell? ⟨w.heap.size + 1, 1, none⟩ = some (.slice (some ad2) 34 n2) := blk_cell G2.out 1
  have hd : (c1 == c2) = false := by simpa using hne
  go_wp2_with fail
  go_loopw [7] (fun i wr => i = .int .i64 0 ∧ wr = w1) (fun _ _ => 0)
  case atStart => exact ⟨rfl, rfl⟩
  case round =>
    obtain ⟨rfl, rfl⟩ := hrel
    go_wp2_with fail
    go_quiet (fail)
    have b1 : (wr.drewN nq).cell? ⟨w.heap.size, 0, none⟩ = some (.int .u32 c1) := a1
    have b3 : (wr.drewN nq).cell? ⟨w.heap.size + 1, 0, none⟩ = some (.int .u32 c2) := a3
    go_wp2_with fail
    go_ret2
    exact ⟨_, rfl, OW.out, below_dN HB.out _⟩

set_option maxHeartbeats 4000000 in
theorem RApart_row (c1 : Int) (fs gs : List Int) (ad1 ad2 : Addr) (n1 n2 : Nat) (hl1 : fs.length = 34) (hl2 : gs.length = 34) (hn1 : 34 ≤ n1) (hn2 : 34 ≤ n2) (hfg : ¬ fs = gs) (idx : Nat) (hidx : idx < 34) (hbef : ∀ j, j < idx → fs.getD j 0 = gs.getD j 0) (hat : ¬ fs.getD idx 0 = gs.getD idx 0) (w : World) (hr1 : ReadsInt w .u32 (some ad1) 34 fs) (hr2 : ReadsInt w .u32 (some ad2) 34 gs) :
    Calls Try.prog 27 #[.agg #[.int .u32 c1, .slice (some ad1) 34 n1], .agg #[.int .u32 c1, .slice (some ad2) 34 n2]] w fun e w' =>
      ∃ v, e = .returned (.tuple #[v, .bool true]) ∧ w'.ownsRow w.heap.size 22 1 v 34 (nums .u32 (z34.set idx 1)) ∧ Below w.heap.size w w' := by
  have SM := Lib.hid (fun w hr1 hr2 => same_gives false c1 c1 fs gs ad1 ad2 n1 n2 hl1 hl2 hn1 hn2 w hr1 hr2 (by have := same_f fs gs c1 c1 hl1 hl2; rw [show (c1 == c1 && fs == gs) = false from by simp; exact hfg] at this; exact this))
  have HR1 := Lib.hid hr1
  have HR2 := Lib.hid hr2
  obtain ⟨q1, q2, q3, q4, q5⟩ := alloc3 w (Obj.cells #[Value.int .u32 c1, Value.slice (some ad1) 34 n1] 32) (Obj.cells #[Value.int .u32 c1, Value.slice (some ad2) 34 n2] 32) (Obj.cells (madeCells #[Value.int .u32 0] 34) 22)
  have hown := own_made ((w.alloc (Obj.cells #[Value.int .u32 c1, Value.slice (some ad1) 34 n1] 32)).alloc (Obj.cells #[Value.int .u32 c1, Value.slice (some ad2) 34 n2] 32)) w.heap.size 22 .u32 34 (by simp; omega) (by omega)
  rw [show ((w.alloc (Obj.cells #[Value.int .u32 c1, Value.slice (some ad1) 34 n1] 32)).alloc (Obj.cells #[Value.int .u32 c1, Value.slice (some ad2) 34 n2] 32)).heap.size = w.heap.size + 1 + 1 by simp] at hown
  have OWN := Lib.hid hown
  have Q1 := Lib.hid q1
  have Q2 := Lib.hid q2
  have Q5 := Lib.hid q5
  clear hr1 hr2 q1 q2 q3 q4 q5 hown
  have MK := make34
  go_enter Try.func27, Try.ntmps27
  go_wp2_with fail
  refine (SM.out _ (HR1.out.below Q5.out) (HR2.out.below Q5.out)).mono ?_
  rintro e w1 ⟨rfl, hb⟩
  have G1 := Lib.hid (blk_below Q1.out hb)
  have G2 := Lib.hid (blk_below Q2.out hb)
  have HB := Lib.hid (below_more Q5.out (Nat.le_refl _) hb)
  have OW := Lib.hid (own_move_below OWN.out hb)
  clear hb Q1 Q2 Q5 OWN MK
  go_wp2_with fail
  go_loopw [7] (fun i wr => ∃ k : Nat, k ≤ idx ∧ i = .int .i64 (k : Int) ∧ Below w1.heap.size w1 wr) (fun i _ => idx - (intOf i).toNat)
  case atStart => exact ⟨0, by omega, rfl, Below.refl _ _⟩
  case round =>
    obtain ⟨k, hk, rfl, hbb⟩ := hrel
    have hk34 : k < 34 := by omega
    have HX1 : RowKit.Hid (w.cell? (ad1.add k) = some (.int .u32 (fs.getD k 0))) := Lib.hid (by obtain ⟨ad, e, hc⟩ := HR1.out.2.2 (by omega); injection e with e; subst e; exact hc k hk34)
    have HX2 : RowKit.Hid (w.cell? (ad2.add k) = some (.int .u32 (gs.getD k 0))) := Lib.hid (by obtain ⟨ad, e, hc⟩ := HR2.out.2.2 (by omega); injection e with e; subst e; exact hc k hk34)
    have HBR := Lib.hid (below_more HB.out (Nat.le_refl _) hbb)
    have x1 := (HBR.out.cell (World.block_lt_of_cell? w _ HX1.out)).trans HX1.out
    have x2 := (HBR.out.cell (World.block_lt_of_cell? w _ HX2.out)).trans HX2.out
    have K1 := Lib.hid (blk_below G1.out hbb)
    have K2 := Lib.hid (blk_below G2.out hbb)
    have a1 : wr.cell? ⟨w.heap.size, 0, none⟩ = some (.int .u32 c1) := blk_cell K1.out 0
    have a2 : wr.cell? ⟨w.heap.size, 1, none⟩ = some (.slice (some ad1) 34 n1) := blk_cell K1.out 1
    have a3 : wr.cell? ⟨w.heap.size + 1, 0, none⟩ = some (.int .u32 c1) := blk_cell K2.out 0
    have a4 : wr.cell? ⟨w.heap.size + 1, 1, none⟩ = some (.slice (some ad2) 34 n2) := blk_cell K2.out 1
    have OWR := Lib.hid (own_move_below OW.out hbb)
    have HBB := Lib.hid hbb
    have hbk : k < idx → fs.getD k 0 = gs.getD k 0 := hbef k
    have hak : k = idx → ¬ fs.getD k 0 = gs.getD k 0 := fun h => by rw [h]; exact hat
    have HBK := Lib.hid hbk
    have HAK := Lib.hid hak
    clear hbb hbk hak hbef hat hfg
    generalize fs.getD k 0 = p at *
    generalize gs.getD k 0 = q at *
    by_cases hlt : k < idx
    · have hpq := HBK.out hlt
      subst hpq
      go_wp2_with fail
      go_quiet (fail)
      go_wp2_with fail
      go_roundw
      case measure => simp [intOf]; omega
      case rel => exact ⟨k + 1, by omega, by go_num, below_dN HBB.out _⟩
    · obtain rfl : k = idx := by omega
      have hpq : (p == q) = false := by simpa using HAK.out rfl
      go_wp2_with fail
      go_quiet (fail)
      have b1 : (wr.drewN nq).cell? ⟨w.heap.size, 0, none⟩ = some (.int .u32 c1) := a1
      have b3 : (wr.drewN nq).cell? ⟨w.heap.size + 1, 0, none⟩ = some (.int .u32 c1) := a3
      have hown : (wr.drewN nq).ownsRow w.heap.size 22 1 (.slice (some ⟨w.heap.size + 1 + 1, 0, none⟩) 34 34) 34 (nums .u32 z34) := OWR.out
      have ho := own_at hown (k : Int) (by omega) (by omega)
      have hs := own_store hown (k : Int) 1
      simp only [Int.toNat_natCast] at ho hs
      have HS := Lib.hid hs
      have HLE := Lib.hid HBR.out.size
      obtain ⟨o1, o2⟩ := ho
      clear hown hs
      go_wp2_with fail
      go_ret2
      exact ⟨_, rfl, HS.out.1, (below_dN HBR.out _).trans ⟨rfl, rfl, rfl, by simp [World.setCell], fun q hq => heap_setCell_other _ _ _ _ (by simp; omega)⟩⟩
end Go.Proofs.Ytocofkkkblelgaa.H
