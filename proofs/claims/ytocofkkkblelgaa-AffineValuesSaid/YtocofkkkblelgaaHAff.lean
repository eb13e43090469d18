/-
Package affine: both and what it works with.
-/
import Derived.Test.YtocofkkkblelgaaProg
import Derived.WalkKit
import Derived.WalkSpells
import Derived.WalkLawsBesides
import Derived.Handy
import Derived.Lib.Hide
import Derived.Deep.QuietTactic
import Derived.BigQuiet
import Derived.StillTailTactics
import Derived.Test.YtocofkkkblelgaaHArr
import Derived.Test.YtocofkkkblelgaaWWords
set_option linter.unusedVariables false
set_option linter.unusedSimpArgs false
namespace Go.Proofs.Ytocofkkkblelgaa.H
open Go.RowKit Go.Proofs.YtocofkkkblelgaaW.PrintWords

theorem Add1_walk (a b : Int) (ha : 0 ≤ a ∧ a < 4294967296) (hb : 0 ≤ b ∧ b < 4294967296) (w : World) :
    Calls Try.prog 29 #[.int .u32 a, .int .u32 b] w fun e w' => e = .returned (.int .u32 ((a + b) % 4294967296)) ∧ w' = w := by
  go_enter Try.func29, Try.ntmps29
  go_wp2
  go_ret
  exact ⟨rfl, rfl⟩
theorem Sub1_walk (a b : Int) (ha : 0 ≤ a ∧ a < 4294967296) (hb : 0 ≤ b ∧ b < 4294967296) (w : World) :
    Calls Try.prog 30 #[.int .u32 a, .int .u32 b] w fun e w' => e = .returned (.int .u32 ((a - b) % 4294967296)) ∧ w' = w := by
  go_enter Try.func30, Try.ntmps30
  go_wp2
  go_ret
  exact ⟨rfl, rfl⟩
theorem Mul1_walk (a b k : Int) (ha : 0 ≤ a ∧ a < 4294967296) (g : Nat) (w : World) (hk : w.cell? ⟨g, 0, none⟩ = some (.int .u32 k)) :
    Calls Try.prog 31 #[.int .u32 a, .int .u32 b, .pointer (some ⟨g, 0, none⟩)] w fun e w' => e = .returned (.int .u32 ((a * k) % 4294967296)) ∧ w' = w := by
  go_enter Try.func31, Try.ntmps31
  go_wp2
  go_ret
  exact ⟨rfl, rfl⟩
/-- Every number is one of 32 bits. -/
def U32s (ws : List Int) : Prop := ∀ i, 0 ≤ ws.getD i 0 ∧ ws.getD i 0 < 4294967296

theorem alloc3 (w : World) (A B C : Obj) :
    (((w.alloc A).alloc B).alloc C).heap[w.heap.size]? = some A ∧ (((w.alloc A).alloc B).alloc C).heap[w.heap.size + 1]? = some B ∧ (((w.alloc A).alloc B).alloc C).heap[w.heap.size + 1 + 1]? = some C ∧
    (((w.alloc A).alloc B).alloc C).heap.size = w.heap.size + 3 ∧ Below w.heap.size w (((w.alloc A).alloc B).alloc C) := by
  have e : (((w.alloc A).alloc B).alloc C).heap = ((w.heap.push A).push B).push C := rfl
  rw [e]
  refine ⟨?_, ?_, ?_, ?_, ?_⟩
  · simp only [Array.getElem?_push, Array.size_push]; rw [if_neg (by omega), if_neg (by omega), if_pos trivial]
  · simp only [Array.getElem?_push, Array.size_push]; rw [if_neg (by omega), if_pos trivial]
  · simp only [Array.getElem?_push, Array.size_push]; rw [if_pos trivial]
  · simp
  · exact ((((Below.refl _ _).alloc (Nat.le_refl _) _).alloc (by simp) _).alloc (by simp; omega) _)

theorem heap_set_row {w : World} {g : Nat} {cs : List Value} {t : TypeId} (hg : w.heap[g]? = some (.cells cs.toArray t (0, 0))) (i : Nat) (v : Value) :
    (w.setCell ⟨g, i, none⟩ v).heap[g]? = some (.cells (cs.set i v).toArray t (0, 0)) := by
  rw [heap_setCell_same w g i _ t v hg]
  simp
theorem cell_row {w : World} {g : Nat} {cs : List Value} {t : TypeId} {fr : Nat × Nat} (hg : w.heap[g]? = some (.cells cs.toArray t fr)) (j : Nat) (v : Value) (h : cs[j]? = some v) : w.cell? ⟨g, j, none⟩ = some v := by
  rw [cell_of_row w g j _ t fr hg]; simpa using h
theorem nums_get (k : IntKind) (l : List Int) (i : Nat) (h : i < l.length) : (nums k l)[i]? = some (.int k (l.getD i 0)) := by
  simp [nums, List.getElem?_eq_getElem h, List.getD_eq_getElem?_getD]
theorem getD_set {ws : List Int} {i j : Nat} {v : Int} (hi : i < ws.length) : (ws.set i v).getD j 0 = if i = j then v else ws.getD j 0 := by
  simp only [List.getD_eq_getElem?_getD, List.getElem?_set]
  split
  · subst_vars; simp [hi]
  · rfl

/-- A closure that works on two numbers and leaves the world, in every world that has what w had. -/
def Does (n : Nat) (caps : Array Value) (w : World) (op : Int → Int → Int) : Prop :=
  ∀ (a b : Int), 0 ≤ a ∧ a < 4294967296 → 0 ≤ b ∧ b < 4294967296 → ∀ w', Below w.heap.size w w' → Calls Try.prog n (#[.int .u32 a, .int .u32 b] ++ caps) w' fun e w'' => e = .returned (.int .u32 (op a b)) ∧ w'' = w'

theorem both_walk (n : Nat) (caps : Array Value) (op : Int → Int → Int) (f0 g0 : Int) (fs gs : List Int) (hf : fs.length = 34) (hg : gs.length = 34) (h0 : 0 ≤ f0 ∧ f0 < 4294967296) (h1 : 0 ≤ g0 ∧ g0 < 4294967296) (hfu : U32s fs) (hgu : U32s gs) (w : World) (hdo : Does n caps w op) (hcf : ∀ (args : Array Value) (W : World), (callFunc n args).run Try.prog W = .ok (.enter n args) W) :
    Calls Try.prog 28 #[.agg (.int .u32 f0 :: nums .u32 fs).toArray, .agg (.int .u32 g0 :: nums .u32 gs).toArray, .func (Fn.func n) #[] caps] w fun e w' =>
      e = .returned (.agg (.int .u32 (op f0 g0) :: nums .u32 (List.zipWith op fs gs)).toArray) ∧ Below w.heap.size w w' := by
  have HDO := Lib.hid hdo
  have HFL := Lib.hid hf
  have HGL := Lib.hid hg
  have HFU := Lib.hid hfu
  have HGU := Lib.hid hgu
  clear hf hg hfu hgu hdo
  go_enter Try.func28, Try.ntmps28
  go_wp2_with fail
  obtain ⟨q1, q2, q3, q4, q5⟩ := alloc3 w (Obj.cells (Value.int IntKind.u32 f0 :: nums IntKind.u32 fs).toArray 25) (Obj.cells (Value.int IntKind.u32 g0 :: nums IntKind.u32 gs).toArray 25) (Obj.cells #[Value.int .u32 0, Value.int .u32 0, Value.int .u32 0, Value.int .u32 0, Value.int .u32 0, Value.int .u32 0, Value.int .u32 0, Value.int .u32 0, Value.int .u32 0, Value.int .u32 0, Value.int .u32 0, Value.int .u32 0, Value.int .u32 0, Value.int .u32 0, Value.int .u32 0, Value.int .u32 0, Value.int .u32 0, Value.int .u32 0, Value.int .u32 0, Value.int .u32 0, Value.int .u32 0, Value.int .u32 0, Value.int .u32 0, Value.int .u32 0, Value.int .u32 0, Value.int .u32 0, Value.int .u32 0, Value.int .u32 0, Value.int .u32 0, Value.int .u32 0, Value.int .u32 0, Value.int .u32 0, Value.int .u32 0, Value.int .u32 0, Value.int .u32 0] 25)
  generalize hW : ((w.alloc (Obj.cells (Value.int IntKind.u32 f0 :: nums IntKind.u32 fs).toArray 25)).alloc (Obj.cells (Value.int IntKind.u32 g0 :: nums IntKind.u32 gs).toArray 25)).alloc (Obj.cells #[Value.int .u32 0, Value.int .u32 0, Value.int .u32 0, Value.int .u32 0, Value.int .u32 0, Value.int .u32 0, Value.int .u32 0, Value.int .u32 0, Value.int .u32 0, Value.int .u32 0, Value.int .u32 0, Value.int .u32 0, Value.int .u32 0, Value.int .u32 0, Value.int .u32 0, Value.int .u32 0, Value.int .u32 0, Value.int .u32 0, Value.int .u32 0, Value.int .u32 0, Value.int .u32 0, Value.int .u32 0, Value.int .u32 0, Value.int .u32 0, Value.int .u32 0, Value.int .u32 0, Value.int .u32 0, Value.int .u32 0, Value.int .u32 0, Value.int .u32 0, Value.int .u32 0, Value.int .u32 0, Value.int .u32 0, Value.int .u32 0, Value.int .u32 0] 25) = W0 at *
  have Q1 := Lib.hid q1
  have Q2 := Lib.hid q2
  have Q3 := Lib.hid q3
  have Q4 := Lib.hid q4
  have Q5 := Lib.hid q5
  have c0 : W0.cell? ⟨w.heap.size, 0, none⟩ = some (.int .u32 f0) := cell_row q1 0 _ rfl
  have fr0 : W0.frozen? ⟨w.heap.size, 0, none⟩ = false := frozen_of_row _ _ 0 _ _ q1
  clear q1 q2 q3 q4 q5 hW
  refine (HDO.out f0 g0 h0 h1 _ Q5.out).mono ?_
  rintro e W0 ⟨rfl, rfl⟩
  generalize hop : op f0 g0 = r0 at *
  have HOP := Lib.hid hop
  clear hop
  clear h0 h1
  go_wp2_with fail
  obtain ⟨W1, hW1⟩ : ∃ W1, W0.setCell ⟨w.heap.size, 0, none⟩ (.int .u32 r0) = W1 := ⟨_, rfl⟩
  have k1 : W1.heap[w.heap.size]? = some (.cells (Value.int .u32 r0 :: nums .u32 fs).toArray 25 (0, 0)) := by rw [← hW1]; exact heap_set_row Q1.out 0 _
  have k2 := (heap_setCell_other W0 ⟨w.heap.size, 0, none⟩ (w.heap.size + 1) (.int .u32 r0) (by simp)).trans Q2.out
  have k3 := (heap_setCell_other W0 ⟨w.heap.size, 0, none⟩ (w.heap.size + 1 + 1) (.int .u32 r0) (by simp; omega)).trans Q3.out
  have k4 : W1.heap.size = w.heap.size + 3 := by rw [← hW1]; simp [World.setCell, Q4.out]
  have k5 : Below w.heap.size w W1 := by rw [← hW1]; exact Q5.out.trans ⟨rfl, rfl, rfl, by simp [World.setCell], fun k hk => heap_setCell_other _ _ _ _ (by simp; omega)⟩
  rw [hW1] at k2 k3 ⊢
  have K1 := Lib.hid k1
  have K2 := Lib.hid k2
  have K3 := Lib.hid k3
  have K4 := Lib.hid k4
  have K5 := Lib.hid k5
  clear k1 k2 k3 k4 k5 hW1 Q1 Q2 Q3 Q4 Q5 c0 fr0
  go_loopw [15] (fun i wr => ∃ (k : Nat) (L : List Int), k ≤ 34 ∧ i = .int .i64 (k : Int) ∧ L.length = 34 ∧ (∀ j, j < 34 → L.getD j 0 = if j < k then op (fs.getD j 0) (gs.getD j 0) else fs.getD j 0) ∧
      wr.heap[w.heap.size]? = some (.cells (Value.int .u32 r0 :: nums .u32 L).toArray 25 (0, 0)) ∧ (∀ b, b ≠ w.heap.size → wr.heap[b]? = W1.heap[b]?) ∧ Below w.heap.size w wr) (fun i _ => 34 - (intOf i).toNat)
  case atStart => exact ⟨0, fs, by omega, rfl, HFL.out, fun j hj => by simp, K1.out, fun _ _ => rfl, K5.out⟩
  case round =>
    obtain ⟨k, L, hk, rfl, hL, hLi, hg, ho, hb⟩ := hrel
    have HL := Lib.hid hL
    have HLI := Lib.hid hLi
    have HG := Lib.hid hg
    have HO := Lib.hid ho
    have HB := Lib.hid hb
    clear hL hLi hg ho hb
    by_cases hlt : k < 34
    · have c1 : wr.cell? ⟨w.heap.size, 1 + k, none⟩ = some (.int .u32 (fs.getD k 0)) := by
        have h1 := cell_row HG.out (1 + k) (.int .u32 (L.getD k 0)) (by rw [Nat.add_comm, List.getElem?_cons_succ]; exact nums_get .u32 L k (by have := HL.out; omega))
        have h2 := HLI.out k hlt
        rw [if_neg (by omega)] at h2
        rwa [h2] at h1
      have c2 : wr.cell? ⟨w.heap.size + 1, 1 + k, none⟩ = some (.int .u32 (gs.getD k 0)) := by
        have h0 : wr.heap[w.heap.size + 1]? = _ := (HO.out _ (by omega)).trans K2.out
        exact cell_row h0 (1 + k) _ (by rw [Nat.add_comm, List.getElem?_cons_succ]; exact nums_get .u32 gs k (by have := HGL.out; omega))
      have f1 : wr.frozen? ⟨w.heap.size, 1 + k, none⟩ = false := frozen_of_row _ _ _ _ _ HG.out
      have hcall := HDO.out (fs.getD k 0) (gs.getD k 0) (HFU.out k) (HGU.out k) wr.drew HB.out.drew
      generalize hx : fs.getD k 0 = x at *
      generalize hy : gs.getD k 0 = y at *
      have HX := Lib.hid hx
      have HY := Lib.hid hy
      have HCALL := Lib.hid hcall
      clear hx hy hcall
      go_wp2_with fail
      go_still_tail 13, (by kernel_rfl)
      still_call HCALL.out
      repeat still_step
      refine wpStill_nil ?_
      change wpList _ _ _ _ _ wr.drew
      generalize hz : op x y = z at *
      have HZ := Lib.hid hz
      clear hz
      go_wp2_with fail
      have hL := HL.out
      refine ⟨⟨k + 1, L.set k z, by omega, by go_num, by simp [hL], fun j hj => ?_, ?_, fun b hb => (heap_setCell_other wr ⟨w.heap.size, 1 + k, none⟩ b _ hb).trans (HO.out b hb), ?_⟩, ?_⟩
      · rw [getD_set (by omega), HLI.out j hj]
        by_cases e1 : k = j
        · subst e1
          rw [if_pos rfl, if_pos (by omega), HX.out, HY.out, HZ.out]
        · rw [if_neg e1]
          by_cases e2 : j < k
          · rw [if_pos e2, if_pos (by omega)]
          · rw [if_neg e2, if_neg (by omega)]
      · have := heap_set_row HG.out (1 + k) (.int .u32 z)
        rw [Nat.add_comm 1 k, List.set_cons_succ, show (nums .u32 L).set k (.int .u32 z) = nums .u32 (L.set k z) by simp [nums, List.map_set], Nat.add_comm k 1] at this
        exact this
      · exact HB.out.trans ⟨rfl, rfl, rfl, by simp [World.setCell, World.drew], fun q hq => heap_setCell_other wr ⟨w.heap.size, 1 + k, none⟩ q _ (by simp; omega)⟩
      · simp [intOf]; omega
    · obtain rfl : k = 34 := by omega
      have hL := HL.out
      have hLz : L = List.zipWith op fs gs := by
        apply List.ext_getElem (by simp [hL, HFL.out, HGL.out])
        intro i h1 h2
        have h3 := HLI.out i (by omega)
        rw [if_pos (by omega)] at h3
        have hf := HFL.out
        have hg := HGL.out
        simpa [List.getD_eq_getElem?_getD, List.getElem?_eq_getElem h1, List.getElem?_eq_getElem (show i < fs.length by omega), List.getElem?_eq_getElem (show i < gs.length by omega)] using h3
      have hg := HG.out
      have hres : wr.heap[w.heap.size + 1 + 1]? = _ := (HO.out _ (by omega)).trans K3.out
      have hone : ∀ v ∈ (Value.int .u32 r0 :: nums .u32 L).toArray.toList, v.oneCell' = true := oneCell_nums .u32 (r0 :: L)
      have hlen : (Value.int .u32 r0 :: nums .u32 L).toArray.size = 35 := by simp [nums, hL]
      have hi : (Try.prog.info? 25).map (·.size) = some (Value.int .u32 r0 :: nums .u32 L).toArray.size := by rw [hlen]; kernel_rfl
      rw [hLz] at hg hone hlen hi
      generalize hR : (Value.int .u32 r0 :: nums .u32 (List.zipWith op fs gs)).toArray = R at hg hone hlen hi
      have HR := Lib.hid hR
      have HGG := Lib.hid hg
      have RES := Lib.hid hres
      have ONE := Lib.hid hone
      have LEN := Lib.hid hlen
      have HI := Lib.hid hi
      clear hg hone hres hlen hi hR hL hLz
      go_wp2_with (first | (refine wpList_load_row rfl 25 (.tmp 3) rfl (w.heap.size) rfl _ _ _ _ HGG.out Try.underlying25 rfl HI.out ?_) | (refine wpList_store_row rfl 25 (.tmp 6) (.tmp 32) rfl rfl (w.heap.size + 1 + 1) rfl R rfl _ _ RES.out (by simp [LEN.out]) HI.out ONE.out ?_))
      have hfin := heap_setRow_same wr (w.heap.size + 1 + 1) R _ 25 _ RES.out
      refine bodyPost_ret (results_cell_row rfl _ _ (w.heap.size + 1 + 1) _ _ _ _ rfl hfin Try.underlying25 rfl HI.out) rfl ?_
      refine ⟨by rw [← HR.out]; try rw [HOP.out], ?_⟩
      exact HB.out.trans ⟨rfl, rfl, rfl, by simp [World.setRow], fun k hk => heap_setRow_other _ _ _ _ (by omega)⟩
end Go.Proofs.Ytocofkkkblelgaa.H
