/-
DataKnown: the walk.
-/
import Derived.Test.YtgfmeiddicodoaaProg
import Derived.WalkKit
import Derived.WalkSpells
import Derived.WalkLawsBesides
import Derived.Handy
import Derived.Lib.Hide
import Derived.Deep.QuietTactic
import Derived.BigQuiet
import Derived.Deep.RegionHeld3
import Derived.Test.YtgfmeiddicodoaaHData5
import Derived.Test.YtgfmeiddicodoaaHEqD
import Derived.Test.YtgfmeiddicodoaaHOpenD
set_option linter.unusedVariables false
set_option linter.unusedSimpArgs false
namespace Go.Proofs.Ytgfmeiddicodoaa.H
open Go.RowKit Go.Proofs.YtgfmeiddicodoaaW.PrintWords

attribute [local go_sem high] eqDn

theorem s9_below {b : Nat} {w0 W w' : World} {v0 v1 v2 v3 v4 v5 v6 v7 v8 : Value}
    (h : (W.cell? ⟨b, 0, none⟩ = some v0 ∧ W.cell? ⟨b, 1, none⟩ = some v1 ∧ W.cell? ⟨b, 2, none⟩ = some v2 ∧ W.cell? ⟨b, 3, none⟩ = some v3 ∧ W.cell? ⟨b, 4, none⟩ = some v4 ∧ W.cell? ⟨b, 5, none⟩ = some v5 ∧
      W.cell? ⟨b, 6, none⟩ = some v6 ∧ W.cell? ⟨b, 7, none⟩ = some v7 ∧ W.cell? ⟨b, 8, none⟩ = some v8) ∧ Below w0.heap.size w0 W) (hb : Below W.heap.size W w') :
    (w'.cell? ⟨b, 0, none⟩ = some v0 ∧ w'.cell? ⟨b, 1, none⟩ = some v1 ∧ w'.cell? ⟨b, 2, none⟩ = some v2 ∧ w'.cell? ⟨b, 3, none⟩ = some v3 ∧ w'.cell? ⟨b, 4, none⟩ = some v4 ∧ w'.cell? ⟨b, 5, none⟩ = some v5 ∧
      w'.cell? ⟨b, 6, none⟩ = some v6 ∧ w'.cell? ⟨b, 7, none⟩ = some v7 ∧ w'.cell? ⟨b, 8, none⟩ = some v8) ∧ Below w0.heap.size w0 w' := by
  obtain ⟨⟨h0, h1, h2, h3, h4, h5, h6, h7, h8⟩, hB⟩ := h
  exact ⟨⟨pw_cell_below hb h0, pw_cell_below hb h1, pw_cell_below hb h2, pw_cell_below hb h3, pw_cell_below hb h4, pw_cell_below hb h5, pw_cell_below hb h6, pw_cell_below hb h7, pw_cell_below hb h8⟩, hB.trans (hb.mono hB.size)⟩

def sameN (ws us : List Int) (k : Nat) : Bool := (List.range k).all fun i => ws.getD i 0 == us.getD i 0
theorem sameN_succ (ws us : List Int) (k : Nat) : sameN ws us (k + 1) = (sameN ws us k && (ws.getD k 0 == us.getD k 0)) := by
  simp [sameN, List.range_succ]
theorem thereB_at (k : Nat) (h : k < 16) : thereB (4 * (k : Int)) = true := by
  simp [thereB]; omega
theorem wordI_at (x0 x1 x2 x3 x4 x5 x6 x7 x8 : Int) (k : Nat) (h : k < 16) : wordI x0 x1 x2 x3 x4 x5 x6 x7 x8 (4 * (k : Int)) = (wordsL x0 x1 x2 [x3, x4, x5, x6, x7, x8]).getD k 0 := by
  unfold wordI
  rw [if_pos (thereB_at k h), show (4 * (k : Int) / 4).toNat = k by omega]
theorem words_eq (x0 x1 x2 x3 x4 x5 x6 x7 x8 y0 y1 y2 y3 y4 y5 y6 y7 y8 : Int) :
    sameN (wordsL x0 x1 x2 [x3, x4, x5, x6, x7, x8]) (wordsL y0 y1 y2 [y3, y4, y5, y6, y7, y8]) 16 = (x0 == y0 && (x1 == y1 && (x2 == y2 && ([x3, x4, x5, x6, x7, x8] == [y3, y4, y5, y6, y7, y8])))) := by
  unfold sameN
  rw [show (16 : Nat) = (wordsL x0 x1 x2 [x3, x4, x5, x6, x7, x8]).length from rfl]
  refine (all_range_eq (wordsL x0 x1 x2 [x3, x4, x5, x6, x7, x8]) (wordsL y0 y1 y2 [y3, y4, y5, y6, y7, y8]) rfl).trans ?_
  rw [Bool.eq_iff_iff]
  simp only [wordsL, Bool.and_eq_true, beq_iff_eq, List.cons.injEq, List.getD_cons_zero, List.getD_cons_succ]
  constructor
  · rintro ⟨h0, h1, h2, h3, h4, h5, h6, h7, h8, h9, h10, h11, h12, h13, h14, h15, -⟩
    refine ⟨h0, h1, by omega, by omega, by omega, by omega, by omega, by omega, by omega, trivial⟩
  · rintro ⟨rfl, rfl, rfl, rfl, rfl, rfl, rfl, rfl, rfl, -⟩
    simp

theorem alloc2d (w : World) (A B : Obj) : ((w.alloc A).alloc B).heap[w.heap.size]? = some A ∧ ((w.alloc A).alloc B).heap[w.heap.size + 1]? = some B ∧ Below w.heap.size w ((w.alloc A).alloc B) :=
  ⟨heap_alloc2_old w A B, heap_alloc2_new w A B, ((Below.refl _ _).alloc (Nat.le_refl _) _).alloc (by simp) _⟩

set_option maxHeartbeats 2000000 in
theorem DataKnown_walk (x0 x1 x2 x3 x4 x5 x6 x7 x8 y0 y1 y2 y3 y4 y5 y6 y7 y8 a : Int) (hx : IsD x0 x1 x2 [x3, x4, x5, x6, x7, x8]) (hy : IsD y0 y1 y2 [y3, y4, y5, y6, y7, y8])
    (ha : -9223372036854775808 ≤ a ∧ a < 9223372036854775808) (w : World) :
    Calls Try.prog 3 #[.agg #[.int .u32 x0, .int .u32 x1, .int .u64 x2, .int .u64 x3, .int .u64 x4, .int .u64 x5, .int .u64 x6, .int .u64 x7, .int .u64 x8], .agg #[.int .u32 y0, .int .u32 y1, .int .u64 y2, .int .u64 y3, .int .u64 y4, .int .u64 y5, .int .u64 y6, .int .u64 y7, .int .u64 y8], .int .i64 a] w fun e w' => e = .returned (.bool true) ∧ Below w.heap.size w w' := by
  have HX := Lib.hid hx
  have HY := Lib.hid hy
  clear hx hy
  go_enter Try.func3, Try.ntmps3
  go_wp2_with fail
  obtain ⟨g0, g1, hb⟩ := alloc2d w (.cells #[.int .u32 x0, .int .u32 x1, .int .u64 x2, .int .u64 x3, .int .u64 x4, .int .u64 x5, .int .u64 x6, .int .u64 x7, .int .u64 x8] 26) (.cells #[.int .u32 y0, .int .u32 y1, .int .u64 y2, .int .u64 y3, .int .u64 y4, .int .u64 y5, .int .u64 y6, .int .u64 y7, .int .u64 y8] 26)
  generalize hW : (w.alloc _).alloc _ = W0 at *
  have G0 := Lib.hid g0
  have G1 := Lib.hid g1
  have HB := Lib.hid hb
  have SZ := Lib.hid (show w.heap.size + 2 = W0.heap.size by rw [← hW]; simp)
  have HA := Lib.hid ha
  clear hb g0 g1 hW
  go_loopw [7, 8] (fun l i wr => ∃ k : Nat, k ≤ 16 ∧ i = .int .u32 (4 * (k : Int)) ∧ l = .bool (sameN (wordsL x0 x1 x2 [x3, x4, x5, x6, x7, x8]) (wordsL y0 y1 y2 [y3, y4, y5, y6, y7, y8]) k) ∧ Below (w.heap.size + 2) W0 wr) (fun _ i _ => 64 - (intOf i).toNat)
  case atStart => exact ⟨0, by omega, rfl, rfl, Below.refl _ _⟩
  case round =>
    obtain ⟨k, hk, rfl, rfl, hb⟩ := hrel
    have HBW := Lib.hid hb
    have gg0 := (hb.block _ (by omega)).trans G0.out
    have gg1 := (hb.block _ (by omega)).trans G1.out
    clear hb
    by_cases hlt : k < 16
    · have HS := Lib.hid (sameN_succ (wordsL x0 x1 x2 [x3, x4, x5, x6, x7, x8]) (wordsL y0 y1 y2 [y3, y4, y5, y6, y7, y8]) k)
      have WX := Lib.hid (Word_walk x0 x1 x2 x3 x4 x5 x6 x7 x8 HX.out (4 * (k : Int)) (by omega))
      have WY := Lib.hid (Word_walk y0 y1 y2 y3 y4 y5 y6 y7 y8 HY.out (4 * (k : Int)) (by omega))
      rw [wordI_at _ _ _ _ _ _ _ _ _ k hlt, thereB_at k hlt] at WX WY
      generalize (wordsL x0 x1 x2 [x3, x4, x5, x6, x7, x8]).getD k 0 = u at *
      generalize (wordsL y0 y1 y2 [y3, y4, y5, y6, y7, y8]).getD k 0 = v at *
      generalize hl : sameN (wordsL x0 x1 x2 [x3, x4, x5, x6, x7, x8]) (wordsL y0 y1 y2 [y3, y4, y5, y6, y7, y8]) k = L at *
      clear hl
      have GG0 := Lib.hid gg0
      have GG1 := Lib.hid gg1
      obtain ⟨c0, c1, c2, c3, c4, c5, c6, c7, c8⟩ := cells9 gg0
      clear gg0 gg1
      go_wp2_with fail
      refine (WX.out _).mono ?_
      rintro e w1 ⟨rfl, hb⟩
      clear c0 c1 c2 c3 c4 c5 c6 c7 c8
      have HB1 := Lib.hid hb
      obtain ⟨c0, c1, c2, c3, c4, c5, c6, c7, c8⟩ := cells9 (blk_below GG1.out hb)
      clear hb
      go_wp2_with fail
      refine (WY.out _).mono ?_
      rintro e w2 ⟨rfl, hb⟩
      clear c0 c1 c2 c3 c4 c5 c6 c7 c8
      have HB2 := Lib.hid (HB1.out.trans (hb.mono HB1.out.size))
      clear hb
      cases L with
      | true =>
        cases huv : (u == v) with
        | true =>
          have HUV := Lib.hid huv
          go_wp2_with fail
          go_roundw
          case rel => exact ⟨k + 1, by omega, by go_num, by rw [HS.out, HUV.out]; rfl, HBW.out.trans (HB2.out.mono (by have := HBW.out.size; have := SZ.out; omega))⟩
          case measure => simp [intOf]; omega
        | false =>
          have HUV := Lib.hid huv
          go_wp2_with fail
          go_roundw
          case rel => exact ⟨k + 1, by omega, by go_num, by rw [HS.out, HUV.out]; rfl, HBW.out.trans (HB2.out.mono (by have := HBW.out.size; have := SZ.out; omega))⟩
          case measure => simp [intOf]; omega
      | false =>
        go_wp2_with fail
        go_roundw
        case rel => exact ⟨k + 1, by omega, by go_num, by rw [HS.out]; rfl, HBW.out.trans (HB2.out.mono (by have := HBW.out.size; have := SZ.out; omega))⟩
        case measure => simp [intOf]; omega
    · obtain rfl : k = 16 := by omega
      have hq : _ = eqDB x0 x1 x2 x3 x4 x5 x6 x7 x8 y0 y1 y2 y3 y4 y5 y6 y7 y8 := words_eq x0 x1 x2 x3 x4 x5 x6 x7 x8 y0 y1 y2 y3 y4 y5 y6 y7 y8
      replace hq := hq.symm
      generalize hl : sameN (wordsL x0 x1 x2 [x3, x4, x5, x6, x7, x8]) (wordsL y0 y1 y2 [y3, y4, y5, y6, y7, y8]) 16 = L at *
      clear hl
      have GG0 := Lib.hid gg0
      have GG1 := Lib.hid gg1
      obtain ⟨c0, c1, c2, c3, c4, c5, c6, c7, c8⟩ := cells9 gg0
      obtain ⟨d0, d1, d2, d3, d4, d5, d6, d7, d8⟩ := cells9 gg1
      clear gg0 gg1
      have hLL : (L == L) = true := by cases L <;> rfl
      have hne : (L != L) = false := by cases L <;> rfl
      have KN := Lib.hid knows_walk
      have HT := Lib.hid (HB.out.trans (HBW.out.mono (by omega)))
      by_cases hneg : a < 0
      · have LO := Lib.hid (Low_walk a HA.out)
        have HI := Lib.hid (High_walk a HA.out)
        rw [show lowI a = 64 from if_pos (.inl hneg)] at LO
        rw [show highI a = 64 from if_pos (.inl hneg)] at HI
        go_wp2_with fail
        refine (LO.out _).mono ?_
        rintro e w1 ⟨rfl, hb⟩
        have HT1 := Lib.hid (HT.out.trans (hb.mono HT.out.size))
        clear hb
        go_wp2_with fail
        refine (HI.out _).mono ?_
        rintro e w2 ⟨rfl, hb⟩
        have HT2 := Lib.hid (HT1.out.trans (hb.mono HT1.out.size))
        clear hb
        go_wp2_with fail
        refine (KN.out _).mono ?_
        rintro e w3 ⟨rfl, hb⟩
        have HT3 := Lib.hid (HT2.out.trans (hb.mono HT2.out.size))
        clear hb
        go_wp2_with fail
        go_ret
        exact ⟨rfl, HT3.out⟩
      · by_cases hbig : 5 < a
        · have LO := Lib.hid (Low_walk a HA.out)
          have HI := Lib.hid (High_walk a HA.out)
          rw [show lowI a = 64 from if_pos (.inr (by omega))] at LO
          rw [show highI a = 64 from if_pos (.inr (by omega))] at HI
          go_wp2_with fail
          refine (LO.out _).mono ?_
          rintro e w1 ⟨rfl, hb⟩
          have HT1 := Lib.hid (HT.out.trans (hb.mono HT.out.size))
          clear hb
          go_wp2_with fail
          refine (HI.out _).mono ?_
          rintro e w2 ⟨rfl, hb⟩
          have HT2 := Lib.hid (HT1.out.trans (hb.mono HT1.out.size))
          clear hb
          go_wp2_with fail
          refine (KN.out _).mono ?_
          rintro e w3 ⟨rfl, hb⟩
          have HT3 := Lib.hid (HT2.out.trans (hb.mono HT2.out.size))
          clear hb
          go_wp2_with fail
          go_ret
          exact ⟨rfl, HT3.out⟩
        · rcases (by omega : a = 0 ∨ a = 1 ∨ a = 2 ∨ a = 3 ∨ a = 4 ∨ a = 5) with rfl | rfl | rfl | rfl | rfl | rfl
          · have LO := Lib.hid (Low_walk 0 HA.out)
            have HI := Lib.hid (High_walk 0 HA.out)
            have WL := Lib.hid (Word_walk x0 x1 x2 x3 x4 x5 x6 x7 x8 HX.out 16 (by omega))
            have WH := Lib.hid (Word_walk x0 x1 x2 x3 x4 x5 x6 x7 x8 HX.out 20 (by omega))
            rw [show lowI 0 = 16 from rfl] at LO
            rw [show highI 0 = 20 from rfl] at HI
            rw [show wordI x0 x1 x2 x3 x4 x5 x6 x7 x8 16 = x3 % 4294967296 from rfl, show thereB 16 = true from rfl] at WL
            rw [show wordI x0 x1 x2 x3 x4 x5 x6 x7 x8 20 = x3 / 4294967296 from rfl, show thereB 20 = true from rfl] at WH
            have hz := HX.out.ags 0 (by omega)
            simp only [List.getD_cons_zero, List.getD_cons_succ] at hz
            have he : x3 / 4294967296 * 4294967296 + x3 % 4294967296 = x3 := by omega
            go_wp2_with fail
            go_region_held3 (fun w' => (w'.cell? ⟨w.heap.size, 0, none⟩ = some (.int .u32 x0) ∧ w'.cell? ⟨w.heap.size, 1, none⟩ = some (.int .u32 x1) ∧ w'.cell? ⟨w.heap.size, 2, none⟩ = some (.int .u64 x2) ∧ w'.cell? ⟨w.heap.size, 3, none⟩ = some (.int .u64 x3) ∧ w'.cell? ⟨w.heap.size, 4, none⟩ = some (.int .u64 x4) ∧ w'.cell? ⟨w.heap.size, 5, none⟩ = some (.int .u64 x5) ∧ w'.cell? ⟨w.heap.size, 6, none⟩ = some (.int .u64 x6) ∧ w'.cell? ⟨w.heap.size, 7, none⟩ = some (.int .u64 x7) ∧ w'.cell? ⟨w.heap.size, 8, none⟩ = some (.int .u64 x8)) ∧ Below w.heap.size w w') (first | exact ⟨⟨c0, c1, c2, c3, c4, c5, c6, c7, c8⟩, HT.out.drew⟩ | exact s9_below (by assumption) hb)
              (first | (go_at_call 16; refine (LO.out _).mono ?_; rintro e w' ⟨rfl, hb⟩) | (go_at_call 15; refine (WL.out _).mono ?_; rintro e w' ⟨rfl, hb⟩))
            rename_i hH
            clear hb
            clear c0 c1 c2 c3 c4 c5 c6 c7 c8 d0 d1 d2 d3 d4 d5 d6 d7 d8
            obtain ⟨⟨c0, c1, c2, c3, c4, c5, c6, c7, c8⟩, hB⟩ := hH
            have HT2 := Lib.hid hB
            clear hB
            go_wp2_with fail
            go_region_held3 (fun w' => (w'.cell? ⟨w.heap.size, 0, none⟩ = some (.int .u32 x0) ∧ w'.cell? ⟨w.heap.size, 1, none⟩ = some (.int .u32 x1) ∧ w'.cell? ⟨w.heap.size, 2, none⟩ = some (.int .u64 x2) ∧ w'.cell? ⟨w.heap.size, 3, none⟩ = some (.int .u64 x3) ∧ w'.cell? ⟨w.heap.size, 4, none⟩ = some (.int .u64 x4) ∧ w'.cell? ⟨w.heap.size, 5, none⟩ = some (.int .u64 x5) ∧ w'.cell? ⟨w.heap.size, 6, none⟩ = some (.int .u64 x6) ∧ w'.cell? ⟨w.heap.size, 7, none⟩ = some (.int .u64 x7) ∧ w'.cell? ⟨w.heap.size, 8, none⟩ = some (.int .u64 x8)) ∧ Below w.heap.size w w') (first | exact ⟨⟨c0, c1, c2, c3, c4, c5, c6, c7, c8⟩, HT2.out.drew⟩ | exact s9_below (by assumption) hb)
              (first | (go_at_call 17; refine (HI.out _).mono ?_; rintro e w' ⟨rfl, hb⟩) | (go_at_call 15; refine (WH.out _).mono ?_; rintro e w' ⟨rfl, hb⟩))
            rename_i hH
            clear hb
            clear c0 c1 c2 c3 c4 c5 c6 c7 c8
            obtain ⟨⟨c0, c1, c2, c3, c4, c5, c6, c7, c8⟩, hB⟩ := hH
            have HT3 := Lib.hid hB
            clear hB
            go_wp2_with fail
            refine (KN.out _).mono ?_
            rintro e w5 ⟨rfl, hb⟩
            have HT4 := Lib.hid (HT3.out.trans (hb.mono HT3.out.size))
            clear hb
            go_wp2_with fail
            go_ret
            exact ⟨rfl, HT4.out⟩
          · have LO := Lib.hid (Low_walk 1 HA.out)
            have HI := Lib.hid (High_walk 1 HA.out)
            have WL := Lib.hid (Word_walk x0 x1 x2 x3 x4 x5 x6 x7 x8 HX.out 24 (by omega))
            have WH := Lib.hid (Word_walk x0 x1 x2 x3 x4 x5 x6 x7 x8 HX.out 28 (by omega))
            rw [show lowI 1 = 24 from rfl] at LO
            rw [show highI 1 = 28 from rfl] at HI
            rw [show wordI x0 x1 x2 x3 x4 x5 x6 x7 x8 24 = x4 % 4294967296 from rfl, show thereB 24 = true from rfl] at WL
            rw [show wordI x0 x1 x2 x3 x4 x5 x6 x7 x8 28 = x4 / 4294967296 from rfl, show thereB 28 = true from rfl] at WH
            have hz := HX.out.ags 1 (by omega)
            simp only [List.getD_cons_zero, List.getD_cons_succ] at hz
            have he : x4 / 4294967296 * 4294967296 + x4 % 4294967296 = x4 := by omega
            go_wp2_with fail
            go_region_held3 (fun w' => (w'.cell? ⟨w.heap.size, 0, none⟩ = some (.int .u32 x0) ∧ w'.cell? ⟨w.heap.size, 1, none⟩ = some (.int .u32 x1) ∧ w'.cell? ⟨w.heap.size, 2, none⟩ = some (.int .u64 x2) ∧ w'.cell? ⟨w.heap.size, 3, none⟩ = some (.int .u64 x3) ∧ w'.cell? ⟨w.heap.size, 4, none⟩ = some (.int .u64 x4) ∧ w'.cell? ⟨w.heap.size, 5, none⟩ = some (.int .u64 x5) ∧ w'.cell? ⟨w.heap.size, 6, none⟩ = some (.int .u64 x6) ∧ w'.cell? ⟨w.heap.size, 7, none⟩ = some (.int .u64 x7) ∧ w'.cell? ⟨w.heap.size, 8, none⟩ = some (.int .u64 x8)) ∧ Below w.heap.size w w') (first | exact ⟨⟨c0, c1, c2, c3, c4, c5, c6, c7, c8⟩, HT.out.drew⟩ | exact s9_below (by assumption) hb)
              (first | (go_at_call 16; refine (LO.out _).mono ?_; rintro e w' ⟨rfl, hb⟩) | (go_at_call 15; refine (WL.out _).mono ?_; rintro e w' ⟨rfl, hb⟩))
            rename_i hH
            clear hb
            clear c0 c1 c2 c3 c4 c5 c6 c7 c8 d0 d1 d2 d3 d4 d5 d6 d7 d8
            obtain ⟨⟨c0, c1, c2, c3, c4, c5, c6, c7, c8⟩, hB⟩ := hH
            have HT2 := Lib.hid hB
            clear hB
            go_wp2_with fail
            go_region_held3 (fun w' => (w'.cell? ⟨w.heap.size, 0, none⟩ = some (.int .u32 x0) ∧ w'.cell? ⟨w.heap.size, 1, none⟩ = some (.int .u32 x1) ∧ w'.cell? ⟨w.heap.size, 2, none⟩ = some (.int .u64 x2) ∧ w'.cell? ⟨w.heap.size, 3, none⟩ = some (.int .u64 x3) ∧ w'.cell? ⟨w.heap.size, 4, none⟩ = some (.int .u64 x4) ∧ w'.cell? ⟨w.heap.size, 5, none⟩ = some (.int .u64 x5) ∧ w'.cell? ⟨w.heap.size, 6, none⟩ = some (.int .u64 x6) ∧ w'.cell? ⟨w.heap.size, 7, none⟩ = some (.int .u64 x7) ∧ w'.cell? ⟨w.heap.size, 8, none⟩ = some (.int .u64 x8)) ∧ Below w.heap.size w w') (first | exact ⟨⟨c0, c1, c2, c3, c4, c5, c6, c7, c8⟩, HT2.out.drew⟩ | exact s9_below (by assumption) hb)
              (first | (go_at_call 17; refine (HI.out _).mono ?_; rintro e w' ⟨rfl, hb⟩) | (go_at_call 15; refine (WH.out _).mono ?_; rintro e w' ⟨rfl, hb⟩))
            rename_i hH
            clear hb
            clear c0 c1 c2 c3 c4 c5 c6 c7 c8
            obtain ⟨⟨c0, c1, c2, c3, c4, c5, c6, c7, c8⟩, hB⟩ := hH
            have HT3 := Lib.hid hB
            clear hB
            go_wp2_with fail
            refine (KN.out _).mono ?_
            rintro e w5 ⟨rfl, hb⟩
            have HT4 := Lib.hid (HT3.out.trans (hb.mono HT3.out.size))
            clear hb
            go_wp2_with fail
            go_ret
            exact ⟨rfl, HT4.out⟩
          · have LO := Lib.hid (Low_walk 2 HA.out)
            have HI := Lib.hid (High_walk 2 HA.out)
            have WL := Lib.hid (Word_walk x0 x1 x2 x3 x4 x5 x6 x7 x8 HX.out 32 (by omega))
            have WH := Lib.hid (Word_walk x0 x1 x2 x3 x4 x5 x6 x7 x8 HX.out 36 (by omega))
            rw [show lowI 2 = 32 from rfl] at LO
            rw [show highI 2 = 36 from rfl] at HI
            rw [show wordI x0 x1 x2 x3 x4 x5 x6 x7 x8 32 = x5 % 4294967296 from rfl, show thereB 32 = true from rfl] at WL
            rw [show wordI x0 x1 x2 x3 x4 x5 x6 x7 x8 36 = x5 / 4294967296 from rfl, show thereB 36 = true from rfl] at WH
            have hz := HX.out.ags 2 (by omega)
            simp only [List.getD_cons_zero, List.getD_cons_succ] at hz
            have he : x5 / 4294967296 * 4294967296 + x5 % 4294967296 = x5 := by omega
            go_wp2_with fail
            go_region_held3 (fun w' => (w'.cell? ⟨w.heap.size, 0, none⟩ = some (.int .u32 x0) ∧ w'.cell? ⟨w.heap.size, 1, none⟩ = some (.int .u32 x1) ∧ w'.cell? ⟨w.heap.size, 2, none⟩ = some (.int .u64 x2) ∧ w'.cell? ⟨w.heap.size, 3, none⟩ = some (.int .u64 x3) ∧ w'.cell? ⟨w.heap.size, 4, none⟩ = some (.int .u64 x4) ∧ w'.cell? ⟨w.heap.size, 5, none⟩ = some (.int .u64 x5) ∧ w'.cell? ⟨w.heap.size, 6, none⟩ = some (.int .u64 x6) ∧ w'.cell? ⟨w.heap.size, 7, none⟩ = some (.int .u64 x7) ∧ w'.cell? ⟨w.heap.size, 8, none⟩ = some (.int .u64 x8)) ∧ Below w.heap.size w w') (first | exact ⟨⟨c0, c1, c2, c3, c4, c5, c6, c7, c8⟩, HT.out.drew⟩ | exact s9_below (by assumption) hb)
              (first | (go_at_call 16; refine (LO.out _).mono ?_; rintro e w' ⟨rfl, hb⟩) | (go_at_call 15; refine (WL.out _).mono ?_; rintro e w' ⟨rfl, hb⟩))
            rename_i hH
            clear hb
            clear c0 c1 c2 c3 c4 c5 c6 c7 c8 d0 d1 d2 d3 d4 d5 d6 d7 d8
            obtain ⟨⟨c0, c1, c2, c3, c4, c5, c6, c7, c8⟩, hB⟩ := hH
            have HT2 := Lib.hid hB
            clear hB
            go_wp2_with fail
            go_region_held3 (fun w' => (w'.cell? ⟨w.heap.size, 0, none⟩ = some (.int .u32 x0) ∧ w'.cell? ⟨w.heap.size, 1, none⟩ = some (.int .u32 x1) ∧ w'.cell? ⟨w.heap.size, 2, none⟩ = some (.int .u64 x2) ∧ w'.cell? ⟨w.heap.size, 3, none⟩ = some (.int .u64 x3) ∧ w'.cell? ⟨w.heap.size, 4, none⟩ = some (.int .u64 x4) ∧ w'.cell? ⟨w.heap.size, 5, none⟩ = some (.int .u64 x5) ∧ w'.cell? ⟨w.heap.size, 6, none⟩ = some (.int .u64 x6) ∧ w'.cell? ⟨w.heap.size, 7, none⟩ = some (.int .u64 x7) ∧ w'.cell? ⟨w.heap.size, 8, none⟩ = some (.int .u64 x8)) ∧ Below w.heap.size w w') (first | exact ⟨⟨c0, c1, c2, c3, c4, c5, c6, c7, c8⟩, HT2.out.drew⟩ | exact s9_below (by assumption) hb)
              (first | (go_at_call 17; refine (HI.out _).mono ?_; rintro e w' ⟨rfl, hb⟩) | (go_at_call 15; refine (WH.out _).mono ?_; rintro e w' ⟨rfl, hb⟩))
            rename_i hH
            clear hb
            clear c0 c1 c2 c3 c4 c5 c6 c7 c8
            obtain ⟨⟨c0, c1, c2, c3, c4, c5, c6, c7, c8⟩, hB⟩ := hH
            have HT3 := Lib.hid hB
            clear hB
            go_wp2_with fail
            refine (KN.out _).mono ?_
            rintro e w5 ⟨rfl, hb⟩
            have HT4 := Lib.hid (HT3.out.trans (hb.mono HT3.out.size))
            clear hb
            go_wp2_with fail
            go_ret
            exact ⟨rfl, HT4.out⟩
          · have LO := Lib.hid (Low_walk 3 HA.out)
            have HI := Lib.hid (High_walk 3 HA.out)
            have WL := Lib.hid (Word_walk x0 x1 x2 x3 x4 x5 x6 x7 x8 HX.out 40 (by omega))
            have WH := Lib.hid (Word_walk x0 x1 x2 x3 x4 x5 x6 x7 x8 HX.out 44 (by omega))
            rw [show lowI 3 = 40 from rfl] at LO
            rw [show highI 3 = 44 from rfl] at HI
            rw [show wordI x0 x1 x2 x3 x4 x5 x6 x7 x8 40 = x6 % 4294967296 from rfl, show thereB 40 = true from rfl] at WL
            rw [show wordI x0 x1 x2 x3 x4 x5 x6 x7 x8 44 = x6 / 4294967296 from rfl, show thereB 44 = true from rfl] at WH
            have hz := HX.out.ags 3 (by omega)
            simp only [List.getD_cons_zero, List.getD_cons_succ] at hz
            have he : x6 / 4294967296 * 4294967296 + x6 % 4294967296 = x6 := by omega
            go_wp2_with fail
            go_region_held3 (fun w' => (w'.cell? ⟨w.heap.size, 0, none⟩ = some (.int .u32 x0) ∧ w'.cell? ⟨w.heap.size, 1, none⟩ = some (.int .u32 x1) ∧ w'.cell? ⟨w.heap.size, 2, none⟩ = some (.int .u64 x2) ∧ w'.cell? ⟨w.heap.size, 3, none⟩ = some (.int .u64 x3) ∧ w'.cell? ⟨w.heap.size, 4, none⟩ = some (.int .u64 x4) ∧ w'.cell? ⟨w.heap.size, 5, none⟩ = some (.int .u64 x5) ∧ w'.cell? ⟨w.heap.size, 6, none⟩ = some (.int .u64 x6) ∧ w'.cell? ⟨w.heap.size, 7, none⟩ = some (.int .u64 x7) ∧ w'.cell? ⟨w.heap.size, 8, none⟩ = some (.int .u64 x8)) ∧ Below w.heap.size w w') (first | exact ⟨⟨c0, c1, c2, c3, c4, c5, c6, c7, c8⟩, HT.out.drew⟩ | exact s9_below (by assumption) hb)
              (first | (go_at_call 16; refine (LO.out _).mono ?_; rintro e w' ⟨rfl, hb⟩) | (go_at_call 15; refine (WL.out _).mono ?_; rintro e w' ⟨rfl, hb⟩))
            rename_i hH
            clear hb
            clear c0 c1 c2 c3 c4 c5 c6 c7 c8 d0 d1 d2 d3 d4 d5 d6 d7 d8
            obtain ⟨⟨c0, c1, c2, c3, c4, c5, c6, c7, c8⟩, hB⟩ := hH
            have HT2 := Lib.hid hB
            clear hB
            go_wp2_with fail
            go_region_held3 (fun w' => (w'.cell? ⟨w.heap.size, 0, none⟩ = some (.int .u32 x0) ∧ w'.cell? ⟨w.heap.size, 1, none⟩ = some (.int .u32 x1) ∧ w'.cell? ⟨w.heap.size, 2, none⟩ = some (.int .u64 x2) ∧ w'.cell? ⟨w.heap.size, 3, none⟩ = some (.int .u64 x3) ∧ w'.cell? ⟨w.heap.size, 4, none⟩ = some (.int .u64 x4) ∧ w'.cell? ⟨w.heap.size, 5, none⟩ = some (.int .u64 x5) ∧ w'.cell? ⟨w.heap.size, 6, none⟩ = some (.int .u64 x6) ∧ w'.cell? ⟨w.heap.size, 7, none⟩ = some (.int .u64 x7) ∧ w'.cell? ⟨w.heap.size, 8, none⟩ = some (.int .u64 x8)) ∧ Below w.heap.size w w') (first | exact ⟨⟨c0, c1, c2, c3, c4, c5, c6, c7, c8⟩, HT2.out.drew⟩ | exact s9_below (by assumption) hb)
              (first | (go_at_call 17; refine (HI.out _).mono ?_; rintro e w' ⟨rfl, hb⟩) | (go_at_call 15; refine (WH.out _).mono ?_; rintro e w' ⟨rfl, hb⟩))
            rename_i hH
            clear hb
            clear c0 c1 c2 c3 c4 c5 c6 c7 c8
            obtain ⟨⟨c0, c1, c2, c3, c4, c5, c6, c7, c8⟩, hB⟩ := hH
            have HT3 := Lib.hid hB
            clear hB
            go_wp2_with fail
            refine (KN.out _).mono ?_
            rintro e w5 ⟨rfl, hb⟩
            have HT4 := Lib.hid (HT3.out.trans (hb.mono HT3.out.size))
            clear hb
            go_wp2_with fail
            go_ret
            exact ⟨rfl, HT4.out⟩
          · have LO := Lib.hid (Low_walk 4 HA.out)
            have HI := Lib.hid (High_walk 4 HA.out)
            have WL := Lib.hid (Word_walk x0 x1 x2 x3 x4 x5 x6 x7 x8 HX.out 48 (by omega))
            have WH := Lib.hid (Word_walk x0 x1 x2 x3 x4 x5 x6 x7 x8 HX.out 52 (by omega))
            rw [show lowI 4 = 48 from rfl] at LO
            rw [show highI 4 = 52 from rfl] at HI
            rw [show wordI x0 x1 x2 x3 x4 x5 x6 x7 x8 48 = x7 % 4294967296 from rfl, show thereB 48 = true from rfl] at WL
            rw [show wordI x0 x1 x2 x3 x4 x5 x6 x7 x8 52 = x7 / 4294967296 from rfl, show thereB 52 = true from rfl] at WH
            have hz := HX.out.ags 4 (by omega)
            simp only [List.getD_cons_zero, List.getD_cons_succ] at hz
            have he : x7 / 4294967296 * 4294967296 + x7 % 4294967296 = x7 := by omega
            go_wp2_with fail
            go_region_held3 (fun w' => (w'.cell? ⟨w.heap.size, 0, none⟩ = some (.int .u32 x0) ∧ w'.cell? ⟨w.heap.size, 1, none⟩ = some (.int .u32 x1) ∧ w'.cell? ⟨w.heap.size, 2, none⟩ = some (.int .u64 x2) ∧ w'.cell? ⟨w.heap.size, 3, none⟩ = some (.int .u64 x3) ∧ w'.cell? ⟨w.heap.size, 4, none⟩ = some (.int .u64 x4) ∧ w'.cell? ⟨w.heap.size, 5, none⟩ = some (.int .u64 x5) ∧ w'.cell? ⟨w.heap.size, 6, none⟩ = some (.int .u64 x6) ∧ w'.cell? ⟨w.heap.size, 7, none⟩ = some (.int .u64 x7) ∧ w'.cell? ⟨w.heap.size, 8, none⟩ = some (.int .u64 x8)) ∧ Below w.heap.size w w') (first | exact ⟨⟨c0, c1, c2, c3, c4, c5, c6, c7, c8⟩, HT.out.drew⟩ | exact s9_below (by assumption) hb)
              (first | (go_at_call 16; refine (LO.out _).mono ?_; rintro e w' ⟨rfl, hb⟩) | (go_at_call 15; refine (WL.out _).mono ?_; rintro e w' ⟨rfl, hb⟩))
            rename_i hH
            clear hb
            clear c0 c1 c2 c3 c4 c5 c6 c7 c8 d0 d1 d2 d3 d4 d5 d6 d7 d8
            obtain ⟨⟨c0, c1, c2, c3, c4, c5, c6, c7, c8⟩, hB⟩ := hH
            have HT2 := Lib.hid hB
            clear hB
            go_wp2_with fail
            go_region_held3 (fun w' => (w'.cell? ⟨w.heap.size, 0, none⟩ = some (.int .u32 x0) ∧ w'.cell? ⟨w.heap.size, 1, none⟩ = some (.int .u32 x1) ∧ w'.cell? ⟨w.heap.size, 2, none⟩ = some (.int .u64 x2) ∧ w'.cell? ⟨w.heap.size, 3, none⟩ = some (.int .u64 x3) ∧ w'.cell? ⟨w.heap.size, 4, none⟩ = some (.int .u64 x4) ∧ w'.cell? ⟨w.heap.size, 5, none⟩ = some (.int .u64 x5) ∧ w'.cell? ⟨w.heap.size, 6, none⟩ = some (.int .u64 x6) ∧ w'.cell? ⟨w.heap.size, 7, none⟩ = some (.int .u64 x7) ∧ w'.cell? ⟨w.heap.size, 8, none⟩ = some (.int .u64 x8)) ∧ Below w.heap.size w w') (first | exact ⟨⟨c0, c1, c2, c3, c4, c5, c6, c7, c8⟩, HT2.out.drew⟩ | exact s9_below (by assumption) hb)
              (first | (go_at_call 17; refine (HI.out _).mono ?_; rintro e w' ⟨rfl, hb⟩) | (go_at_call 15; refine (WH.out _).mono ?_; rintro e w' ⟨rfl, hb⟩))
            rename_i hH
            clear hb
            clear c0 c1 c2 c3 c4 c5 c6 c7 c8
            obtain ⟨⟨c0, c1, c2, c3, c4, c5, c6, c7, c8⟩, hB⟩ := hH
            have HT3 := Lib.hid hB
            clear hB
            go_wp2_with fail
            refine (KN.out _).mono ?_
            rintro e w5 ⟨rfl, hb⟩
            have HT4 := Lib.hid (HT3.out.trans (hb.mono HT3.out.size))
            clear hb
            go_wp2_with fail
            go_ret
            exact ⟨rfl, HT4.out⟩
          · have LO := Lib.hid (Low_walk 5 HA.out)
            have HI := Lib.hid (High_walk 5 HA.out)
            have WL := Lib.hid (Word_walk x0 x1 x2 x3 x4 x5 x6 x7 x8 HX.out 56 (by omega))
            have WH := Lib.hid (Word_walk x0 x1 x2 x3 x4 x5 x6 x7 x8 HX.out 60 (by omega))
            rw [show lowI 5 = 56 from rfl] at LO
            rw [show highI 5 = 60 from rfl] at HI
            rw [show wordI x0 x1 x2 x3 x4 x5 x6 x7 x8 56 = x8 % 4294967296 from rfl, show thereB 56 = true from rfl] at WL
            rw [show wordI x0 x1 x2 x3 x4 x5 x6 x7 x8 60 = x8 / 4294967296 from rfl, show thereB 60 = true from rfl] at WH
            have hz := HX.out.ags 5 (by omega)
            simp only [List.getD_cons_zero, List.getD_cons_succ] at hz
            have he : x8 / 4294967296 * 4294967296 + x8 % 4294967296 = x8 := by omega
            go_wp2_with fail
            go_region_held3 (fun w' => (w'.cell? ⟨w.heap.size, 0, none⟩ = some (.int .u32 x0) ∧ w'.cell? ⟨w.heap.size, 1, none⟩ = some (.int .u32 x1) ∧ w'.cell? ⟨w.heap.size, 2, none⟩ = some (.int .u64 x2) ∧ w'.cell? ⟨w.heap.size, 3, none⟩ = some (.int .u64 x3) ∧ w'.cell? ⟨w.heap.size, 4, none⟩ = some (.int .u64 x4) ∧ w'.cell? ⟨w.heap.size, 5, none⟩ = some (.int .u64 x5) ∧ w'.cell? ⟨w.heap.size, 6, none⟩ = some (.int .u64 x6) ∧ w'.cell? ⟨w.heap.size, 7, none⟩ = some (.int .u64 x7) ∧ w'.cell? ⟨w.heap.size, 8, none⟩ = some (.int .u64 x8)) ∧ Below w.heap.size w w') (first | exact ⟨⟨c0, c1, c2, c3, c4, c5, c6, c7, c8⟩, HT.out.drew⟩ | exact s9_below (by assumption) hb)
              (first | (go_at_call 16; refine (LO.out _).mono ?_; rintro e w' ⟨rfl, hb⟩) | (go_at_call 15; refine (WL.out _).mono ?_; rintro e w' ⟨rfl, hb⟩))
            rename_i hH
            clear hb
            clear c0 c1 c2 c3 c4 c5 c6 c7 c8 d0 d1 d2 d3 d4 d5 d6 d7 d8
            obtain ⟨⟨c0, c1, c2, c3, c4, c5, c6, c7, c8⟩, hB⟩ := hH
            have HT2 := Lib.hid hB
            clear hB
            go_wp2_with fail
            go_region_held3 (fun w' => (w'.cell? ⟨w.heap.size, 0, none⟩ = some (.int .u32 x0) ∧ w'.cell? ⟨w.heap.size, 1, none⟩ = some (.int .u32 x1) ∧ w'.cell? ⟨w.heap.size, 2, none⟩ = some (.int .u64 x2) ∧ w'.cell? ⟨w.heap.size, 3, none⟩ = some (.int .u64 x3) ∧ w'.cell? ⟨w.heap.size, 4, none⟩ = some (.int .u64 x4) ∧ w'.cell? ⟨w.heap.size, 5, none⟩ = some (.int .u64 x5) ∧ w'.cell? ⟨w.heap.size, 6, none⟩ = some (.int .u64 x6) ∧ w'.cell? ⟨w.heap.size, 7, none⟩ = some (.int .u64 x7) ∧ w'.cell? ⟨w.heap.size, 8, none⟩ = some (.int .u64 x8)) ∧ Below w.heap.size w w') (first | exact ⟨⟨c0, c1, c2, c3, c4, c5, c6, c7, c8⟩, HT2.out.drew⟩ | exact s9_below (by assumption) hb)
              (first | (go_at_call 17; refine (HI.out _).mono ?_; rintro e w' ⟨rfl, hb⟩) | (go_at_call 15; refine (WH.out _).mono ?_; rintro e w' ⟨rfl, hb⟩))
            rename_i hH
            clear hb
            clear c0 c1 c2 c3 c4 c5 c6 c7 c8
            obtain ⟨⟨c0, c1, c2, c3, c4, c5, c6, c7, c8⟩, hB⟩ := hH
            have HT3 := Lib.hid hB
            clear hB
            go_wp2_with fail
            refine (KN.out _).mono ?_
            rintro e w5 ⟨rfl, hb⟩
            have HT4 := Lib.hid (HT3.out.trans (hb.mono HT3.out.size))
            clear hb
            go_wp2_with fail
            go_ret
            exact ⟨rfl, HT4.out⟩
end Go.Proofs.Ytgfmeiddicodoaa.H
