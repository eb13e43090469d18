/-
Package cond: the printer's names of the contracts, and knows.
-/
import Derived.Test.YthdkgpmpopjnaaaHCondF
set_option linter.unusedVariables false
set_option linter.unusedSimpArgs false
namespace Go.Proofs.Ythdkgpmpopjnaaa.H
open Go.RowKit Go.Proofs.YthdkgpmpopjnaaaW.PrintWords

theorem isDat5 : IsDat 0 0 0 [261, 0, 0, 0, 0, 0] := by
  refine ⟨rfl, by omega, by omega, by unfold u64P; omega, fun k => ?_⟩
  by_cases hk : k < 6
  · rcases (by omega : k = 0 ∨ k = 1 ∨ k = 2 ∨ k = 3 ∨ k = 4 ∨ k = 5) with rfl | rfl | rfl | rfl | rfl | rfl <;> decide
  · rw [List.getD_eq_getElem?_getD, List.getElem?_eq_none (by simpa using hk)]; decide
theorem cells9c {w : World} {g : Nat} {t : TypeId} {v0 v1 v2 v3 v4 v5 v6 v7 v8 : Value} (h : w.heap[g]? = some (.cells #[v0, v1, v2, v3, v4, v5, v6, v7, v8] t (0, 0))) :
    w.cell? ⟨g, 0, none⟩ = some v0 ∧ w.cell? ⟨g, 1, none⟩ = some v1 ∧ w.cell? ⟨g, 2, none⟩ = some v2 ∧ w.cell? ⟨g, 3, none⟩ = some v3 ∧ w.cell? ⟨g, 4, none⟩ = some v4 ∧ w.cell? ⟨g, 5, none⟩ = some v5 ∧ w.cell? ⟨g, 6, none⟩ = some v6 ∧ w.cell? ⟨g, 7, none⟩ = some v7 ∧ w.cell? ⟨g, 8, none⟩ = some v8 :=
  ⟨blk_cell h 0, blk_cell h 1, blk_cell h 2, blk_cell h 3, blk_cell h 4, blk_cell h 5, blk_cell h 6, blk_cell h 7, blk_cell h 8⟩
theorem kp_parse : condR (condParse (⟨#[97, 48, 32, 48, 120, 102, 102, 32, 101, 113, 32, 48, 120, 53]⟩ : ByteArray).data.toList) = .tuple #[CV 0 0 255 5, .int .i64 0] := by rfl
theorem kp_print : printR 0 1 255 5 = (⟨#[97, 48, 32, 48, 120, 102, 102, 32, 110, 101, 32, 48, 120, 53]⟩, 0) := by kernel_rfl
set_option maxHeartbeats 2000000 in
theorem knows_walk : Gives Try.prog 18 #[] (.bool true) := by
  intro w
  have KP := condParse_walk ⟨#[97, 48, 32, 48, 120, 102, 102, 32, 101, 113, 32, 48, 120, 53]⟩ (by decide)
  rw [kp_parse] at KP
  have KN := Not_walk 0 0 255 5
  rw [show (if rightB 0 0 = true then notI 0 else 0) = 1 by rfl] at KN
  have KR := Right_walk 0 0 255 5
  rw [show rightB 0 0 = true by rfl] at KR
  have KH := Holds_walk 0 0 255 5 0 0 0 _ isDat5 (by unfold u64P; omega)
  rw [show holdsB 0 0 255 5 [261, 0, 0, 0, 0, 0] = true by rfl] at KH
  have KT := Print_walk 0 1 255 5 (by unfold u64P; omega) (by unfold u64P; omega)
  rw [kp_print] at KT
  unfold CV at KP KN KR KH KT
  replace KP := Lib.hid KP
  replace KN := Lib.hid KN
  replace KR := Lib.hid KR
  replace KH := Lib.hid KH
  replace KT := Lib.hid KT
  go_enter Try.func18, Try.ntmps18
  go_wp2_with fail
  refine (KP.out _).mono ?_
  rintro e w1 ⟨rfl, hb⟩
  have B1 := Lib.hid hb
  clear hb
  go_wp2_with fail
  have z1 : (w1.alloc (.cells #[.int .i64 0, .int .i64 0, .int .u64 255, .int .u64 5] 24)).heap.size = w1.heap.size + 1 := Array.size_push _
  have hc := blk_alloc (heap_alloc_new w1 (.cells #[.int .i64 0, .int .i64 0, .int .u64 255, .int .u64 5] 24)) (.cells #[.int .u32 0, .int .u32 0, .int .u64 0, .int .u64 261, .int .u64 0, .int .u64 0, .int .u64 0, .int .u64 0, .int .u64 0] 28)
  have hd := heap_alloc_new (w1.alloc (.cells #[.int .i64 0, .int .i64 0, .int .u64 255, .int .u64 5] 24)) (.cells #[.int .u32 0, .int .u32 0, .int .u64 0, .int .u64 261, .int .u64 0, .int .u64 0, .int .u64 0, .int .u64 0, .int .u64 0] 28)
  rw [z1] at hd
  have hB := (B1.out.alloc B1.out.size (.cells #[.int .i64 0, .int .i64 0, .int .u64 255, .int .u64 5] 24)).alloc (by rw [z1]; exact Nat.le_succ_of_le B1.out.size) (.cells #[.int .u32 0, .int .u32 0, .int .u64 0, .int .u64 261, .int .u64 0, .int .u64 0, .int .u64 0, .int .u64 0, .int .u64 0] 28)
  obtain ⟨W2, hW2⟩ : ∃ W2, ((w1.alloc (.cells #[.int .i64 0, .int .i64 0, .int .u64 255, .int .u64 5] 24)).alloc (.cells #[.int .u32 0, .int .u32 0, .int .u64 0, .int .u64 261, .int .u64 0, .int .u64 0, .int .u64 0, .int .u64 0, .int .u64 0] 28)) = W2 := ⟨_, rfl⟩
  rw [hW2] at hc hd hB
  have HW2 := Lib.hid hW2
  have GC := Lib.hid hc
  have GD := Lib.hid hd
  have HB := Lib.hid hB
  clear hc hd hB hW2 z1 B1
  rw [HW2.out]
  clear HW2
  refine (KN.out _).mono ?_
  rintro e w3 ⟨rfl, hb⟩
  have gc3 := Lib.hid (blk_below GC.out hb)
  have gd3 := Lib.hid (blk_below GD.out hb)
  have b3 := Lib.hid (HB.out.trans (hb.mono HB.out.size))
  clear hb GC GD HB
  have GC := Lib.hid gc3.out
  have GD := Lib.hid gd3.out
  have HB := Lib.hid b3.out
  clear gc3 gd3 b3
  obtain ⟨c0, c1, c2, c3⟩ := cells4 GC.out
  obtain ⟨d0, d1, d2, d3, d4, d5, d6, d7, d8⟩ := cells9c GD.out
  go_wp2_with fail
  clear c0 c1 c2 c3 d0 d1 d2 d3 d4 d5 d6 d7 d8
  refine (KT.out _).mono ?_
  rintro e w4 ⟨rfl, hb⟩
  have gc4 := Lib.hid (blk_below GC.out hb)
  have gd4 := Lib.hid (blk_below GD.out hb)
  have b4 := Lib.hid (HB.out.trans (hb.mono HB.out.size))
  clear hb GC GD HB
  have GC := Lib.hid gc4.out
  have GD := Lib.hid gd4.out
  have HB := Lib.hid b4.out
  clear gc4 gd4 b4
  obtain ⟨c0, c1, c2, c3⟩ := cells4 GC.out
  obtain ⟨d0, d1, d2, d3, d4, d5, d6, d7, d8⟩ := cells9c GD.out
  go_wp2_with fail
  clear c0 c1 c2 c3 d0 d1 d2 d3 d4 d5 d6 d7 d8
  refine (KR.out _).mono ?_
  rintro e w5 ⟨rfl, hb⟩
  have gc5 := Lib.hid (blk_below GC.out hb)
  have gd5 := Lib.hid (blk_below GD.out hb)
  have b5 := Lib.hid (HB.out.trans (hb.mono HB.out.size))
  clear hb GC GD HB
  have GC := Lib.hid gc5.out
  have GD := Lib.hid gd5.out
  have HB := Lib.hid b5.out
  clear gc5 gd5 b5
  obtain ⟨c0, c1, c2, c3⟩ := cells4 GC.out
  obtain ⟨d0, d1, d2, d3, d4, d5, d6, d7, d8⟩ := cells9c GD.out
  go_wp2_with fail
  clear c0 c1 c2 c3 d0 d1 d2 d3 d4 d5 d6 d7 d8
  refine (KH.out _).mono ?_
  rintro e w6 ⟨rfl, hb⟩
  have gc6 := Lib.hid (blk_below GC.out hb)
  have gd6 := Lib.hid (blk_below GD.out hb)
  have b6 := Lib.hid (HB.out.trans (hb.mono HB.out.size))
  clear hb GC GD HB
  have GC := Lib.hid gc6.out
  have GD := Lib.hid gd6.out
  have HB := Lib.hid b6.out
  clear gc6 gd6 b6
  obtain ⟨c0, c1, c2, c3⟩ := cells4 GC.out
  obtain ⟨d0, d1, d2, d3, d4, d5, d6, d7, d8⟩ := cells9c GD.out
  go_wp2_with fail
  clear c0 c1 c2 c3 d0 d1 d2 d3 d4 d5 d6 d7 d8
  go_ret
  exact ⟨rfl, HB.out⟩
def hurdlelaw08_knows.f : Option Bool := some true
theorem hurdlelaw08_knows.calls (r : Bool) (w : World) (h : hurdlelaw08_knows.f = some r) :
    Calls Try.prog 18 #[] w fun e w' => e = .returned (.bool r) ∧ Below w.heap.size w w' := by
  have := Option.some.inj h
  subst this
  exact knows_walk w
def cond_Print.f (a0_0 : Int) (a0_1 : Int) (a0_2 : Int) (a0_3 : Int) : Option (ByteArray × Int) := if u64P a0_2 ∧ u64P a0_3 then some (printR a0_0 a0_1 a0_2 a0_3) else none
theorem cond_Print.calls (a0_0 : Int) (a0_1 : Int) (a0_2 : Int) (a0_3 : Int) (r1 : ByteArray) (r2 : Int) (w : World) (h : cond_Print.f a0_0 a0_1 a0_2 a0_3 = some (r1, r2)) :
    Calls Try.prog 19 #[.agg #[.int .i64 a0_0, .int .i64 a0_1, .int .u64 a0_2, .int .u64 a0_3]] w fun e w' => e = .returned (.tuple #[.string r1, .int .i64 r2]) ∧ Below w.heap.size w w' := by
  unfold cond_Print.f at h
  split at h
  · rename_i hh
    have := Print_walk a0_0 a0_1 a0_2 a0_3 hh.1 hh.2 w
    rw [Option.some.inj h] at this
    exact this
  · simp at h
def parseI : Option (Nat × Nat × Nat × Nat) → Int × Int × Int × Int × Int
  | some (a, k, m, v) => ((a : Int), (k : Int), (m : Int), (v : Int), 0)
  | none => (0, 0, 0, 0, 2)
def cond_Parse.f (a0 : ByteArray) : Option (Int × Int × Int × Int × Int) := if a0.size ≤ 140737488351232 then some (parseI (condParse a0.data.toList)) else none
theorem cond_Parse.calls (a0 : ByteArray) (r1 : Int) (r2 : Int) (r3 : Int) (r4 : Int) (r5 : Int) (w : World) (h : cond_Parse.f a0 = some (r1, r2, r3, r4, r5)) :
    Calls Try.prog 20 #[.string a0] w fun e w' => e = .returned (.tuple #[.agg #[.int .i64 r1, .int .i64 r2, .int .u64 r3, .int .u64 r4], .int .i64 r5]) ∧ Below w.heap.size w w' := by
  unfold cond_Parse.f at h
  split at h
  · rename_i hh
    have := condParse_walk a0 hh w
    cases hp : condParse a0.data.toList with
    | none => rw [hp] at this h; simp [parseI] at h; obtain ⟨rfl, rfl, rfl, rfl, rfl⟩ := h; exact this
    | some x =>
      obtain ⟨a, k, m, v⟩ := x
      rw [hp] at this h; simp [parseI] at h; obtain ⟨rfl, rfl, rfl, rfl, rfl⟩ := h; exact this
  · simp at h
end Go.Proofs.Ythdkgpmpopjnaaa.H
