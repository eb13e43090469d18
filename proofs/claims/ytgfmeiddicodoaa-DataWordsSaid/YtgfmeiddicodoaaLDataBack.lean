/-
DataBack: the walk.
-/
import Derived.Test.YtgfmeiddicodoaaProg
import Derived.WalkKit
import Derived.WalkSpells
import Derived.WalkLawsBesides
import Derived.Handy
import Derived.Lib.Hide
import Derived.Deep.QuietTactic
import Derived.BigQuiet
import Derived.StillTailTactics
import Derived.Deep.RegionHeld3
import Derived.Test.YtgfmeiddicodoaaHData5
import Derived.Test.YtgfmeiddicodoaaHData7
import Derived.Test.YtgfmeiddicodoaaHSeq
import Derived.Test.YtgfmeiddicodoaaHEqD
import Derived.Test.YtgfmeiddicodoaaHOpenD
set_option linter.unusedVariables false
set_option linter.unusedSimpArgs false
namespace Go.Proofs.Ytgfmeiddicodoaa.H
open Go.RowKit Go.Proofs.YtgfmeiddicodoaaW.PrintWords

attribute [local go_sem high] eqDn

theorem b4_get (ws : List Int) : ∀ (i : Nat), i < ws.length → (b4s ws).getD (4 * i) 0 = ws.getD i 0 % 256 ∧ (b4s ws).getD (4 * i + 1) 0 = ws.getD i 0 / 256 % 256 ∧ (b4s ws).getD (4 * i + 2) 0 = ws.getD i 0 / 65536 % 256 ∧ (b4s ws).getD (4 * i + 3) 0 = ws.getD i 0 / 16777216 := by
  induction ws with
  | nil => intro i h; simp at h
  | cons x xs ih =>
    intro i h
    match i with
    | 0 => simp [b4s, b4]
    | i + 1 =>
      have h2 := ih i (by simpa using h)
      rw [show 4 * (i + 1) = 4 * i + 1 + 1 + 1 + 1 by omega]
      simpa only [b4s, b4, List.cons_append, List.nil_append, List.getD_cons_succ] using h2
/-- The words of the bytes of words. -/
theorem fromL_b4s (ws : List Int) (hl : ws.length = 16) (hu : U32s ws) : fromL (b4s ws) = ws := by
  apply List.ext_getElem (by simp [fromL, hl])
  intro i h1 h2
  have h3 := fromL_get (b4s ws) i (by omega)
  obtain ⟨g0, g1, g2, g3⟩ := b4_get ws i h2
  have hb := hu i
  unfold fw at h3
  rw [g0, g1, g2, g3] at h3
  have h4 : (fromL (b4s ws)).getD i 0 = ws.getD i 0 := by rw [h3]; omega
  simpa [List.getD_eq_getElem?_getD, List.getElem?_eq_getElem h1, List.getElem?_eq_getElem h2] using h4
theorem b4s_bytes (ws : List Int) (hu : U32s ws) : Bytes8 (b4s ws) := by
  intro j
  by_cases h : j < 4 * ws.length
  · obtain ⟨g0, g1, g2, g3⟩ := b4_get ws (j / 4) (by omega)
    have hb := hu (j / 4)
    rcases (by omega : j = 4 * (j / 4) ∨ j = 4 * (j / 4) + 1 ∨ j = 4 * (j / 4) + 2 ∨ j = 4 * (j / 4) + 3) with e | e | e | e
    · rw [e, g0]; omega
    · rw [e, g1]; omega
    · rw [e, g2]; omega
    · rw [e, g3]; omega
  · rw [List.getD_eq_getElem?_getD, List.getElem?_eq_none (by rw [b4s_length]; omega)]
    simp
/-- The bytes of the words of 64 bytes. -/
theorem b4s_fromL (L : List Int) (hl : L.length = 64) (hb : Bytes8 L) : b4s (fromL L) = L := by
  have hfl : (fromL L).length = 16 := by simp [fromL]
  apply List.ext_getElem (by rw [b4s_length, hfl, hl])
  intro j h1 h2
  have key : (b4s (fromL L)).getD j 0 = L.getD j 0 := by
    obtain ⟨g0, g1, g2, g3⟩ := b4_get (fromL L) (j / 4) (by omega)
    have h3 := fromL_get L (j / 4) (by omega)
    have a0 := hb (4 * (j / 4))
    have a1 := hb (4 * (j / 4) + 1)
    have a2 := hb (4 * (j / 4) + 2)
    have a3 := hb (4 * (j / 4) + 3)
    rw [h3] at g0 g1 g2 g3
    unfold fw at g0 g1 g2 g3
    rcases (by omega : j = 4 * (j / 4) ∨ j = 4 * (j / 4) + 1 ∨ j = 4 * (j / 4) + 2 ∨ j = 4 * (j / 4) + 3) with e | e | e | e
    · rw [e, g0]; omega
    · rw [e, g1]; omega
    · rw [e, g2]; omega
    · rw [e, g3]; omega
  simpa [List.getD_eq_getElem?_getD, List.getElem?_eq_getElem h1, List.getElem?_eq_getElem h2] using key

def ZR : Array Value := #[.int .u32 0, .int .u32 0, .int .u64 0, .int .u64 0, .int .u64 0, .int .u64 0, .int .u64 0, .int .u64 0, .int .u64 0]
/-- From, of whatever many bytes. -/
def fromRow (L : List Int) : Array Value := if L.length = 64 then ofRow (fromL L) else ZR
def fromErr (L : List Int) : Int := if L.length = 64 then 0 else if L.length < 64 then 9 else 3
theorem From_any (A : Option Addr) (c : Nat) (L : List Int) (w : World) (hr : ReadsInt w .u8 A L.length L) (hb : Bytes8 L) :
    Calls Try.prog 32 #[.slice A L.length c] w fun e w' => e = .returned (.tuple #[.agg (fromRow L), .int .i64 (fromErr L)]) ∧ Below w.heap.size w w' := by
  unfold fromRow fromErr
  by_cases h : L.length = 64
  · rw [if_pos h, if_pos h]
    rw [h] at hr ⊢
    exact From_walk A c L w hr hb
  · rw [if_neg h, if_neg h]
    by_cases h2 : L.length < 64
    · rw [if_pos h2]; exact From_less A _ c h2 w
    · rw [if_neg h2]; exact From_more A _ c (by omega) w
theorem Bytes_of (qs : List Int) (hl : qs.length = 16) (hu : U32s qs) (w : World) :
    Calls Try.prog 33 #[.agg (ofRow qs)] w fun e w' => ∃ v, e = .returned v ∧ w'.ownsRow w.heap.size 5 1 v 64 (nums .u8 (b4s qs)) ∧ Below w.heap.size w w' := by
  have h := Bytes_walk _ _ _ _ _ _ _ _ _ (isD_of qs hu) w
  rw [words_of qs hl hu] at h
  exact h
theorem info_row (L : List Int) : (Try.prog.info? 26).map (·.size) = some (fromRow L).size := by
  unfold fromRow; split
  · exact info_data _ _ _ _ _ _ _ _ _
  · exact info_data _ _ _ _ _ _ _ _ _
theorem one_row (L : List Int) : ∀ v ∈ (fromRow L).toList, v.oneCell' = true := by
  unfold fromRow; split
  · exact one_data _ _ _ _ _ _ _ _ _
  · exact one_data _ _ _ _ _ _ _ _ _
theorem size_row (L : List Int) : 9 = (fromRow L).size := by unfold fromRow; split <;> rfl

theorem s27_below {b d y : Nat} {w0 W w' : World} {v0 v1 v2 v3 v4 v5 v6 v7 v8 u0 u1 u2 u3 u4 u5 u6 u7 u8 t0 t1 t2 t3 t4 t5 t6 t7 t8 : Value} {A : Option Addr} {n : Nat} {L : List Int}
    (h : (W.cell? ⟨b, 0, none⟩ = some v0 ∧ W.cell? ⟨b, 1, none⟩ = some v1 ∧ W.cell? ⟨b, 2, none⟩ = some v2 ∧ W.cell? ⟨b, 3, none⟩ = some v3 ∧ W.cell? ⟨b, 4, none⟩ = some v4 ∧ W.cell? ⟨b, 5, none⟩ = some v5 ∧ W.cell? ⟨b, 6, none⟩ = some v6 ∧ W.cell? ⟨b, 7, none⟩ = some v7 ∧ W.cell? ⟨b, 8, none⟩ = some v8) ∧ (W.cell? ⟨d, 0, none⟩ = some u0 ∧ W.cell? ⟨d, 1, none⟩ = some u1 ∧ W.cell? ⟨d, 2, none⟩ = some u2 ∧ W.cell? ⟨d, 3, none⟩ = some u3 ∧ W.cell? ⟨d, 4, none⟩ = some u4 ∧ W.cell? ⟨d, 5, none⟩ = some u5 ∧ W.cell? ⟨d, 6, none⟩ = some u6 ∧ W.cell? ⟨d, 7, none⟩ = some u7 ∧ W.cell? ⟨d, 8, none⟩ = some u8) ∧ (W.cell? ⟨y, 0, none⟩ = some t0 ∧ W.cell? ⟨y, 1, none⟩ = some t1 ∧ W.cell? ⟨y, 2, none⟩ = some t2 ∧ W.cell? ⟨y, 3, none⟩ = some t3 ∧ W.cell? ⟨y, 4, none⟩ = some t4 ∧ W.cell? ⟨y, 5, none⟩ = some t5 ∧ W.cell? ⟨y, 6, none⟩ = some t6 ∧ W.cell? ⟨y, 7, none⟩ = some t7 ∧ W.cell? ⟨y, 8, none⟩ = some t8) ∧ ReadsInt W .u8 A n L ∧ Below w0.heap.size w0 W) (hb : Below W.heap.size W w') :
    (w'.cell? ⟨b, 0, none⟩ = some v0 ∧ w'.cell? ⟨b, 1, none⟩ = some v1 ∧ w'.cell? ⟨b, 2, none⟩ = some v2 ∧ w'.cell? ⟨b, 3, none⟩ = some v3 ∧ w'.cell? ⟨b, 4, none⟩ = some v4 ∧ w'.cell? ⟨b, 5, none⟩ = some v5 ∧ w'.cell? ⟨b, 6, none⟩ = some v6 ∧ w'.cell? ⟨b, 7, none⟩ = some v7 ∧ w'.cell? ⟨b, 8, none⟩ = some v8) ∧ (w'.cell? ⟨d, 0, none⟩ = some u0 ∧ w'.cell? ⟨d, 1, none⟩ = some u1 ∧ w'.cell? ⟨d, 2, none⟩ = some u2 ∧ w'.cell? ⟨d, 3, none⟩ = some u3 ∧ w'.cell? ⟨d, 4, none⟩ = some u4 ∧ w'.cell? ⟨d, 5, none⟩ = some u5 ∧ w'.cell? ⟨d, 6, none⟩ = some u6 ∧ w'.cell? ⟨d, 7, none⟩ = some u7 ∧ w'.cell? ⟨d, 8, none⟩ = some u8) ∧ (w'.cell? ⟨y, 0, none⟩ = some t0 ∧ w'.cell? ⟨y, 1, none⟩ = some t1 ∧ w'.cell? ⟨y, 2, none⟩ = some t2 ∧ w'.cell? ⟨y, 3, none⟩ = some t3 ∧ w'.cell? ⟨y, 4, none⟩ = some t4 ∧ w'.cell? ⟨y, 5, none⟩ = some t5 ∧ w'.cell? ⟨y, 6, none⟩ = some t6 ∧ w'.cell? ⟨y, 7, none⟩ = some t7 ∧ w'.cell? ⟨y, 8, none⟩ = some t8) ∧ ReadsInt w' .u8 A n L ∧ Below w0.heap.size w0 w' := by
  obtain ⟨⟨h0, h1, h2, h3, h4, h5, h6, h7, h8⟩, ⟨g0, g1, g2, g3, g4, g5, g6, g7, g8⟩, ⟨f0, f1, f2, f3, f4, f5, f6, f7, f8⟩, hr, hB⟩ := h
  exact ⟨⟨pw_cell_below hb h0, pw_cell_below hb h1, pw_cell_below hb h2, pw_cell_below hb h3, pw_cell_below hb h4, pw_cell_below hb h5, pw_cell_below hb h6, pw_cell_below hb h7, pw_cell_below hb h8⟩,
    ⟨pw_cell_below hb g0, pw_cell_below hb g1, pw_cell_below hb g2, pw_cell_below hb g3, pw_cell_below hb g4, pw_cell_below hb g5, pw_cell_below hb g6, pw_cell_below hb g7, pw_cell_below hb g8⟩,
    ⟨pw_cell_below hb f0, pw_cell_below hb f1, pw_cell_below hb f2, pw_cell_below hb f3, pw_cell_below hb f4, pw_cell_below hb f5, pw_cell_below hb f6, pw_cell_below hb f7, pw_cell_below hb f8⟩, hr.below hb, hB.trans (hb.mono hB.size)⟩

set_option maxHeartbeats 0 in
theorem DataBack_walk (x0 x1 x2 x3 x4 x5 x6 x7 x8 : Int) (A : Option Addr) (c : Nat) (L : List Int) (hd : IsD x0 x1 x2 [x3, x4, x5, x6, x7, x8]) (w : World) (hL : ReadsInt w .u8 A L.length L) (hB : Bytes8 L) :
    Calls Try.prog 14 #[.agg #[.int .u32 x0, .int .u32 x1, .int .u64 x2, .int .u64 x3, .int .u64 x4, .int .u64 x5, .int .u64 x6, .int .u64 x7, .int .u64 x8], .slice A L.length c] w fun e w' => e = .returned (.bool true) ∧ Below w.heap.size w w' := by
  have KN := Lib.hid knows_walk
  have HI := Lib.hid (info_data (.int .u32 x0) (.int .u32 x1) (.int .u64 x2) (.int .u64 x3) (.int .u64 x4) (.int .u64 x5) (.int .u64 x6) (.int .u64 x7) (.int .u64 x8))
  have HO := Lib.hid (one_data x0 x1 x2 x3 x4 x5 x6 x7 x8)
  have Q0 := Lib.hid (heap_alloc_new w (.cells #[.int .u32 x0, .int .u32 x1, .int .u64 x2, .int .u64 x3, .int .u64 x4, .int .u64 x5, .int .u64 x6, .int .u64 x7, .int .u64 x8] 26))
  have Q3 := Lib.hid ((Below.refl w.heap.size w).alloc (Nat.le_refl _) (.cells #[.int .u32 x0, .int .u32 x1, .int .u64 x2, .int .u64 x3, .int .u64 x4, .int .u64 x5, .int .u64 x6, .int .u64 x7, .int .u64 x8] 26))
  have BY := Lib.hid (fun w => Bytes_walk x0 x1 x2 x3 x4 x5 x6 x7 x8 hd w)
  have hu := hd.words
  have FB := Lib.hid (fromL_b4s (wordsL x0 x1 x2 [x3, x4, x5, x6, x7, x8]) rfl hu)
  have BB := Lib.hid (b4s_bytes (wordsL x0 x1 x2 [x3, x4, x5, x6, x7, x8]) hu)
  have OF := Lib.hid (ofL_words x0 x1 x2 x3 x4 x5 x6 x7 x8)
  generalize hws : wordsL x0 x1 x2 [x3, x4, x5, x6, x7, x8] = ws at *
  have RL := Lib.hid hL
  have B8 := Lib.hid hB
  have FA := Lib.hid (fun A c w hr => From_any A c L w hr hB)
  have FI := Lib.hid (info_row L)
  have FO := Lib.hid (one_row L)
  have FS := Lib.hid (size_row L)
  clear hd hL hB hu hws
  by_cases hbig : 200 < L.length
  · go_enter Try.func14, Try.ntmps14
    go_wp2_with fail
    refine (KN.out _).mono ?_
    rintro e w1 ⟨rfl, hb⟩
    have HB7 := Lib.hid (Q3.out.trans (hb.mono Q3.out.size))
    clear hb
    go_wp2_with fail
    go_ret
    exact ⟨rfl, HB7.out⟩
  · go_enter Try.func14, Try.ntmps14
    go_wp2_with (refine wpList_load_row rfl 26 (.tmp 2) rfl (w.heap.size) rfl _ _ _ _ Q0.out Try.underlying26 rfl HI.out ?_)
    refine (BY.out _).mono ?_
    rintro e w1 ⟨v, rfl, ho, hb⟩
    obtain ⟨A1, c1, rfl, hr1⟩ := own_reads ho
    have G1 := Lib.hid (blk_below Q0.out hb)
    have HB1 := Lib.hid (Q3.out.trans (hb.mono Q3.out.size))
    have HR1 := Lib.hid hr1
    clear ho hb hr1
    go_wp2_with fail
    refine (From_walk A1 c1 _ _ HR1.out BB.out).mono ?_
    rintro e w2 ⟨rfl, hb⟩
    rw [FB.out, OF.out]
    have G2 := Lib.hid (blk_below G1.out hb)
    have HB2 := Lib.hid (HB1.out.trans (hb.mono HB1.out.size))
    clear hb
    obtain ⟨W3, hW3⟩ : ∃ W3, (w2.alloc (.cells #[.int .u32 0, .int .u32 0, .int .u64 0, .int .u64 0, .int .u64 0, .int .u64 0, .int .u64 0, .int .u64 0, .int .u64 0] 26)).setRow w2.heap.size #[.int .u32 x0, .int .u32 x1, .int .u64 x2, .int .u64 x3, .int .u64 x4, .int .u64 x5, .int .u64 x6, .int .u64 x7, .int .u64 x8] = W3 := ⟨_, rfl⟩
    have r3 := heap_setRow_same (w2.alloc (.cells #[.int .u32 0, .int .u32 0, .int .u64 0, .int .u64 0, .int .u64 0, .int .u64 0, .int .u64 0, .int .u64 0, .int .u64 0] 26)) w2.heap.size #[.int .u32 x0, .int .u32 x1, .int .u64 x2, .int .u64 x3, .int .u64 x4, .int .u64 x5, .int .u64 x6, .int .u64 x7, .int .u64 x8] _ _ _ (heap_alloc_new w2 (.cells #[.int .u32 0, .int .u32 0, .int .u64 0, .int .u64 0, .int .u64 0, .int .u64 0, .int .u64 0, .int .u64 0, .int .u64 0] 26))
    rw [hW3] at r3
    have b3 : Below w2.heap.size w2 W3 := by rw [← hW3]; exact ((Below.refl _ _).alloc (Nat.le_refl _) _).trans ⟨rfl, rfl, rfl, by simp, fun k hk => heap_setRow_other _ _ _ _ (by omega)⟩
    have HW3 := Lib.hid hW3
    have R3 := Lib.hid r3
    have D3 := Lib.hid (blk_below G2.out b3)
    have HB3 := Lib.hid (HB2.out.trans (b3.mono HB2.out.size))
    clear hW3 r3 b3
    go_wp2_with (first | (refine wpList_store_row rfl 26 (.tmp 5) (.tmp 17) rfl rfl w2.heap.size rfl #[.int .u32 x0, .int .u32 x1, .int .u64 x2, .int .u64 x3, .int .u64 x4, .int .u64 x5, .int .u64 x6, .int .u64 x7, .int .u64 x8] rfl _ _ (heap_alloc_new _ _) rfl HI.out HO.out ?_; rw [HW3.out]) | (at_builtin; go_must (refine print_append_row (w0 := w) (W := W3.alloc (.cells #[] 5)) w.heap.size rfl (.tmp 20) (.tmp 21) 49 5 .u8 1 rfl Try.underlying49 Try.info8d (by decide) (.slice (some ⟨W3.heap.size, 0, none⟩) 0 0) [] L A L.length c rfl rfl (own_lit W3 w.heap.size 5 .u8 [] HB3.out.size (by simp)) (RL.out.below (HB3.out.alloc HB3.out.size _)) (HB3.out.alloc HB3.out.size _) (by have := HB3.out.size; simp; omega) (by simp; omega) ?_); intro v1 w5 ho hb hg hat; have HO5 := Lib.hid ho; have HB5 := Lib.hid hb; have HG5 := Lib.hid hg; clear ho hb hg hat))
    have hE : eqDB x0 x1 x2 x3 x4 x5 x6 x7 x8 x0 x1 x2 x3 x4 x5 x6 x7 x8 = true := (eqDB_iff x0 x1 x2 x3 x4 x5 x6 x7 x8 x0 x1 x2 x3 x4 x5 x6 x7 x8).2 ⟨rfl, rfl, rfl, rfl, rfl, rfl, rfl, rfl, rfl⟩
    by_cases h64 : L.length = 64
    · rw [show fromRow L = ofRow (fromL L) from if_pos h64, show fromErr L = 0 from if_pos h64] at FA
      rw [show fromRow L = ofRow (fromL L) from if_pos h64] at FI FO
      have YB := Lib.hid (Bytes_of (fromL L) (by simp [fromL]) (fromL_u32 L B8.out))
      rw [b4s_fromL L h64 B8.out] at YB
      have hcl : ∀ W : World, ReadsInt W .u8 A L.length L → (convert 49 9 (.slice A L.length c)).run Try.prog W = .ok (.string (strOfNums L)) W := fun W h => string_of_reads Try.underlying49 Try.underlying5 Try.underlying9 h
      unfold ofRow at FA FI FO YB
      clear h64
      have hx5 := blk_grown (blk_alloc R3.out (.cells #[] 5)) HG5.out (by intro h; have := blk_lt R3.out; simp [Value.ownBlock] at h; omega)
      have hd5 := blk_grown (blk_alloc D3.out (.cells #[] 5)) HG5.out (by intro h; have := blk_lt D3.out; simp [Value.ownBlock] at h; omega)
      have ho5 : w5.ownsRow w.heap.size 5 1 v1 L.length (nums .u8 L) := HO5.out
      have X5 := Lib.hid hx5
      have D5 := Lib.hid hd5
      have O5 := Lib.hid ho5
      clear HO5 HG5 hx5 hd5 ho5
      obtain ⟨A5, c5, rfl, hr5⟩ := own_reads O5.out
      have R5 := Lib.hid hr5
      clear hr5 O5
      refine (FA.out A5 c5 w5 R5.out).mono ?_
      rintro e w6 ⟨rfl, hb⟩
      have X6 := Lib.hid (blk_below X5.out hb)
      have D6 := Lib.hid (blk_below D5.out hb)
      have RL6 := Lib.hid (RL.out.below (HB5.out.trans (hb.mono HB5.out.size)))
      have HB6 := Lib.hid (HB5.out.trans (hb.mono HB5.out.size))
      clear hb
      obtain ⟨W7, hW7⟩ : ∃ W7, (w6.alloc (.cells #[(.int .u32 0), (.int .u32 0), (.int .u64 0), (.int .u64 0), (.int .u64 0), (.int .u64 0), (.int .u64 0), (.int .u64 0), (.int .u64 0)] 26)).setRow w6.heap.size #[(.int .u32 ((fromL L).getD 0 0)), (.int .u32 ((fromL L).getD 1 0)), (.int .u64 (arg2 (fromL L) 2)), (.int .u64 (arg2 (fromL L) 4)), (.int .u64 (arg2 (fromL L) 6)), (.int .u64 (arg2 (fromL L) 8)), (.int .u64 (arg2 (fromL L) 10)), (.int .u64 (arg2 (fromL L) 12)), (.int .u64 (arg2 (fromL L) 14))] = W7 := ⟨_, rfl⟩
      have r7 := heap_setRow_same (w6.alloc (.cells #[(.int .u32 0), (.int .u32 0), (.int .u64 0), (.int .u64 0), (.int .u64 0), (.int .u64 0), (.int .u64 0), (.int .u64 0), (.int .u64 0)] 26)) w6.heap.size #[(.int .u32 ((fromL L).getD 0 0)), (.int .u32 ((fromL L).getD 1 0)), (.int .u64 (arg2 (fromL L) 2)), (.int .u64 (arg2 (fromL L) 4)), (.int .u64 (arg2 (fromL L) 6)), (.int .u64 (arg2 (fromL L) 8)), (.int .u64 (arg2 (fromL L) 10)), (.int .u64 (arg2 (fromL L) 12)), (.int .u64 (arg2 (fromL L) 14))] _ _ _ (heap_alloc_new w6 (.cells #[(.int .u32 0), (.int .u32 0), (.int .u64 0), (.int .u64 0), (.int .u64 0), (.int .u64 0), (.int .u64 0), (.int .u64 0), (.int .u64 0)] 26))
      rw [hW7] at r7
      have b7 : Below w6.heap.size w6 W7 := by rw [← hW7]; exact ((Below.refl _ _).alloc (Nat.le_refl _) _).trans ⟨rfl, rfl, rfl, by simp, fun k hk => heap_setRow_other _ _ _ _ (by omega)⟩
      have HW7 := Lib.hid hW7
      have Y7 := Lib.hid r7
      have X7 := Lib.hid (blk_below X6.out b7)
      have D7 := Lib.hid (blk_below D6.out b7)
      have RL7 := Lib.hid (RL6.out.below b7)
      have HB7 := Lib.hid (HB6.out.trans (b7.mono HB6.out.size))
      clear hW7 r7 b7
      go_wp2_with (refine wpList_store_row rfl 26 (.tmp 7) (.tmp 24) rfl rfl w6.heap.size rfl #[(.int .u32 ((fromL L).getD 0 0)), (.int .u32 ((fromL L).getD 1 0)), (.int .u64 (arg2 (fromL L) 2)), (.int .u64 (arg2 (fromL L) 4)), (.int .u64 (arg2 (fromL L) 6)), (.int .u64 (arg2 (fromL L) 8)), (.int .u64 (arg2 (fromL L) 10)), (.int .u64 (arg2 (fromL L) 12)), (.int .u64 (arg2 (fromL L) 14))] rfl _ _ (heap_alloc_new _ _) rfl FI.out FO.out ?_; rw [HW7.out])
      have hNewE : (Below w.heap.size w W7.drew) := HB7.out.drew
      have hEx := Lib.hid hNewE
      clear hNewE
      refine Go.Proofs.YtgfmeiddicodoaaW.PrintLast.wp_region_last_drew (S := fun w' => (w'.heap[w2.heap.size]? = some (.cells #[.int .u32 x0, .int .u32 x1, .int .u64 x2, .int .u64 x3, .int .u64 x4, .int .u64 x5, .int .u64 x6, .int .u64 x7, .int .u64 x8] 26 (0, 0))) ∧ (w'.heap[w.heap.size]? = some (.cells #[.int .u32 x0, .int .u32 x1, .int .u64 x2, .int .u64 x3, .int .u64 x4, .int .u64 x5, .int .u64 x6, .int .u64 x7, .int .u64 x8] 26 (0, 0))) ∧ (w'.heap[w6.heap.size]? = some (.cells #[.int .u32 ((fromL L).getD 0 0), .int .u32 ((fromL L).getD 1 0), .int .u64 (arg2 (fromL L) 2), .int .u64 (arg2 (fromL L) 4), .int .u64 (arg2 (fromL L) 6), .int .u64 (arg2 (fromL L) 8), .int .u64 (arg2 (fromL L) 10), .int .u64 (arg2 (fromL L) 12), .int .u64 (arg2 (fromL L) 14)] 26 (0, 0))) ∧ (ReadsInt w' .u8 A L.length L)) (ds := []) (by kernel_rfl) ⟨X7.out, D7.out, Y7.out, RL7.out⟩ (fun hNewS => ?_)
      have hHeld := Lib.hid hNewS
      clear hNewS
      refine lastTake 0 rfl (by kernel_rfl) (by kernel_rfl) (by kernel_rfl) (by kernel_rfl) (by kernel_rfl) (fun _ _ _ h => h) hHeld.out (yieldsIf_row rfl 26 (.tmp 5) rfl _ rfl _ #[.int .u32 x0, .int .u32 x1, .int .u64 x2, .int .u64 x3, .int .u64 x4, .int .u64 x5, .int .u64 x6, .int .u64 x7, .int .u64 x8] _ _ (fun _ h => h.1) Try.underlying26 rfl HI.out) ?_
      try simp only [Act.put, List.setIfInBounds_toArray, List.set_cons_zero, List.set_cons_succ]
      refine lastTake 1 rfl (by kernel_rfl) (by kernel_rfl) (by kernel_rfl) (by kernel_rfl) (by kernel_rfl) (fun _ _ _ h => h) hHeld.out (yieldsIf_row rfl 26 (.tmp 2) rfl _ rfl _ #[.int .u32 x0, .int .u32 x1, .int .u64 x2, .int .u64 x3, .int .u64 x4, .int .u64 x5, .int .u64 x6, .int .u64 x7, .int .u64 x8] _ _ (fun _ h => h.2.1) Try.underlying26 rfl HI.out) ?_
      try simp only [Act.put, List.setIfInBounds_toArray, List.set_cons_zero, List.set_cons_succ]
      refine lastTake 2 (v := ?_) rfl (by kernel_rfl) (by kernel_rfl) (by kernel_rfl) (by kernel_rfl) (by kernel_rfl) (fun _ _ _ h => h) hHeld.out (yieldsIf_of rfl ?_) ?_
      rotate_left
      · (intro w hSw; go_simp <;> with_reducible rfl)
      try simp only [Act.put, List.setIfInBounds_toArray, List.set_cons_zero, List.set_cons_succ]
      refine lastTake 3 (v := ?_) rfl (by kernel_rfl) (by kernel_rfl) (by kernel_rfl) (by kernel_rfl) (by kernel_rfl) (fun _ _ _ h => h) hHeld.out (yieldsIf_of rfl ?_) ?_
      rotate_left
      · (intro w hSw; go_simp <;> with_reducible rfl)
      try simp only [Act.put, List.setIfInBounds_toArray, List.set_cons_zero, List.set_cons_succ]
      refine lastTake 4 (v := ?_) rfl (by kernel_rfl) (by kernel_rfl) (by kernel_rfl) (by kernel_rfl) (by kernel_rfl) (fun _ _ _ h => h) hHeld.out (yieldsIf_of rfl ?_) ?_
      rotate_left
      · (intro w hSw; go_simp <;> with_reducible rfl)
      try simp only [Act.put, List.setIfInBounds_toArray, List.set_cons_zero, List.set_cons_succ]
      refine lastTake 5 (v := ?_) rfl (by kernel_rfl) (by kernel_rfl) (by kernel_rfl) (by kernel_rfl) (by kernel_rfl) (fun _ _ _ h => h) hHeld.out (yieldsIf_of rfl ?_) ?_
      rotate_left
      · (intro w hSw; go_simp <;> with_reducible rfl)
      try simp only [Act.put, List.setIfInBounds_toArray, List.set_cons_zero, List.set_cons_succ]
      refine lastTake 6 (v := ?_) rfl (by kernel_rfl) (by kernel_rfl) (by kernel_rfl) (by kernel_rfl) (by kernel_rfl) (fun _ _ _ h => h) hHeld.out (yieldsIf_of rfl ?_) ?_
      rotate_left
      · (intro w hSw; go_simp <;> with_reducible rfl)
      try simp only [Act.put, List.setIfInBounds_toArray, List.set_cons_zero, List.set_cons_succ]
      refine lastTake 7 (v := ?_) rfl (by kernel_rfl) (by kernel_rfl) (by kernel_rfl) (by kernel_rfl) (by kernel_rfl) (fun _ _ _ h => h) hHeld.out (yieldsIf_of rfl ?_) ?_
      rotate_left
      · (intro w hSw; go_simp <;> with_reducible rfl)
      try simp only [Act.put, List.setIfInBounds_toArray, List.set_cons_zero, List.set_cons_succ]
      refine lastTake 8 (v := ?_) rfl (by kernel_rfl) (by kernel_rfl) (by kernel_rfl) (by kernel_rfl) (by kernel_rfl) (fun _ _ _ h => h) hHeld.out (yieldsIf_of rfl ?_) ?_
      rotate_left
      · (intro w hSw; go_simp <;> with_reducible rfl)
      try simp only [Act.put, List.setIfInBounds_toArray, List.set_cons_zero, List.set_cons_succ]
      refine lastTake 9 (v := ?_) rfl (by kernel_rfl) (by kernel_rfl) (by kernel_rfl) (by kernel_rfl) (by kernel_rfl) (fun _ _ _ h => h) hHeld.out (yieldsIf_of rfl ?_) ?_
      rotate_left
      · (intro w hSw; go_simp <;> with_reducible rfl)
      try simp only [Act.put, List.setIfInBounds_toArray, List.set_cons_zero, List.set_cons_succ]
      refine lastTake 10 (v := ?_) rfl (by kernel_rfl) (by kernel_rfl) (by kernel_rfl) (by kernel_rfl) (by kernel_rfl) (fun _ _ _ h => h) hHeld.out (yieldsIf_of rfl ?_) ?_
      rotate_left
      · (intro w hSw; go_simp <;> with_reducible rfl)
      try simp only [Act.put, List.setIfInBounds_toArray, List.set_cons_zero, List.set_cons_succ]
      refine lastTake 11 rfl (by kernel_rfl) (by kernel_rfl) (by kernel_rfl) (by kernel_rfl) (by kernel_rfl) (fun _ _ _ h => h) hHeld.out (yieldsIf_row rfl 26 (.tmp 7) rfl _ rfl _ #[.int .u32 ((fromL L).getD 0 0), .int .u32 ((fromL L).getD 1 0), .int .u64 (arg2 (fromL L) 2), .int .u64 (arg2 (fromL L) 4), .int .u64 (arg2 (fromL L) 6), .int .u64 (arg2 (fromL L) 8), .int .u64 (arg2 (fromL L) 10), .int .u64 (arg2 (fromL L) 12), .int .u64 (arg2 (fromL L) 14)] _ _ (fun _ h => h.2.2.1) Try.underlying26 rfl FI.out) ?_
      try simp only [Act.put, List.setIfInBounds_toArray, List.set_cons_zero, List.set_cons_succ]
      refine lastTake 14 (v := ?_) rfl (by kernel_rfl) (by kernel_rfl) (by kernel_rfl) (by kernel_rfl) (by kernel_rfl) (fun _ _ _ h => h) hHeld.out (yieldsIf_of rfl ?_) ?_
      rotate_left
      · (intro w hSw; go_simp <;> with_reducible rfl)
      try simp only [Act.put, List.setIfInBounds_toArray, List.set_cons_zero, List.set_cons_succ]
      refine lastTake 15 rfl (by kernel_rfl) (by kernel_rfl) (by kernel_rfl) (by kernel_rfl) (by kernel_rfl) (fun _ _ _ h => h) hHeld.out (yieldsIf_of (v := .string (strOfNums L)) rfl (fun w h => by have hq := hcl w h.2.2.2; go_simp)) ?_
      try simp only [Act.put, List.setIfInBounds_toArray, List.set_cons_zero, List.set_cons_succ]
      refine lastOne 12 (by kernel_rfl) rfl (by decide) (fun K hK => ?_)
      go_simp
      refine (YB.out _).mono ?_
      rintro _ v1 ⟨v, rfl, ho, hb⟩
      obtain ⟨Ab, cb, rfl⟩ := own_slice ho
      have hcv := own_string Try.underlying49 Try.underlying5 Try.underlying9 ho
      have hNewE : (Below w.heap.size w v1) := below_more (hEx.out) (Nat.le_refl _) hb
      refine hK.out _ _ ⟨blk_below (hHeld.out.1) hb, blk_below (hHeld.out.2.1) hb, blk_below (hHeld.out.2.2.1) hb, ReadsInt.below (hHeld.out.2.2.2) hb⟩ (fun hNewS => ?_)
      clear hK K
      clear hHeld hEx
      have hHeld := Lib.hid hNewS
      have hEx := Lib.hid hNewE
      clear hNewS hNewE
      clear hb ho
      try simp only [Act.put, List.setIfInBounds_toArray, List.set_cons_zero, List.set_cons_succ]
      refine lastOne 13 (by kernel_rfl) rfl (by decide) (fun K hK => ?_)
      go_simp
      have hNewE : (Below w.heap.size w v1) := (hEx.out)
      refine hK.out _ _ ⟨(hHeld.out.1), (hHeld.out.2.1), (hHeld.out.2.2.1), (hHeld.out.2.2.2)⟩ (fun hNewS => ?_)
      clear hK K
      clear hHeld hEx
      have hHeld := Lib.hid hNewS
      have hEx := Lib.hid hNewE
      clear hNewS hNewE
      clear hcv
      try simp only [Act.put, List.setIfInBounds_toArray, List.set_cons_zero, List.set_cons_succ]
      refine lastTake 16 (v := ?_) rfl (by kernel_rfl) (by kernel_rfl) (by kernel_rfl) (by kernel_rfl) (by kernel_rfl) (fun _ _ _ h => h) hHeld.out (yieldsIf_of rfl ?_) ?_
      rotate_left
      · (intro w hSw; go_simp <;> with_reducible rfl)
      try simp only [Act.put, List.setIfInBounds_toArray, List.set_cons_zero, List.set_cons_succ]
      refine lastTake 17 (v := ?_) rfl (by kernel_rfl) (by kernel_rfl) (by kernel_rfl) (by kernel_rfl) (by kernel_rfl) (fun _ _ _ h => h) hHeld.out (yieldsIf_of rfl ?_) ?_
      rotate_left
      · (intro w hSw; go_simp <;> with_reducible rfl)
      try simp only [Act.put, List.setIfInBounds_toArray, List.set_cons_zero, List.set_cons_succ]
      refine lastTake 18 (v := ?_) rfl (by kernel_rfl) (by kernel_rfl) (by kernel_rfl) (by kernel_rfl) (by kernel_rfl) (fun _ _ _ h => h) hHeld.out (yieldsIf_of rfl ?_) ?_
      rotate_left
      · (intro w hSw; go_simp <;> with_reducible rfl)
      try simp only [Act.put, List.setIfInBounds_toArray, List.set_cons_zero, List.set_cons_succ]
      refine lastTake 19 (v := ?_) rfl (by kernel_rfl) (by kernel_rfl) (by kernel_rfl) (by kernel_rfl) (by kernel_rfl) (fun _ _ _ h => h) hHeld.out (yieldsIf_of rfl ?_) ?_
      rotate_left
      · (intro w hSw; go_simp <;> with_reducible rfl)
      try simp only [Act.put, List.setIfInBounds_toArray, List.set_cons_zero, List.set_cons_succ]
      refine lastOne 20 (by kernel_rfl) rfl (by decide) (fun K hK => ?_)
      go_simp
      refine (KN.out _).mono ?_
      rintro _ v2 ⟨rfl, hb⟩
      have hNewE : (Below w.heap.size w v2) := below_more (hEx.out) (Nat.le_refl _) hb
      refine hK.out _ _ ⟨blk_below (hHeld.out.1) hb, blk_below (hHeld.out.2.1) hb, blk_below (hHeld.out.2.2.1) hb, ReadsInt.below (hHeld.out.2.2.2) hb⟩ (fun hNewS => ?_)
      clear hK K
      clear hHeld hEx
      have hHeld := Lib.hid hNewS
      have hEx := Lib.hid hNewE
      clear hNewS hNewE
      clear hb
      try simp only [Act.put, List.setIfInBounds_toArray, List.set_cons_zero, List.set_cons_succ]
      refine lastTake 21 (v := ?_) rfl (by kernel_rfl) (by kernel_rfl) (by kernel_rfl) (by kernel_rfl) (by kernel_rfl) (fun _ _ _ h => h) hHeld.out (yieldsIf_of rfl ?_) ?_
      rotate_left
      · (intro w hSw; go_simp <;> with_reducible rfl)
      try simp only [Act.put, List.setIfInBounds_toArray, List.set_cons_zero, List.set_cons_succ]
      refine lastTake 22 (v := ?_) rfl (by kernel_rfl) (by kernel_rfl) (by kernel_rfl) (by kernel_rfl) (by kernel_rfl) (fun _ _ _ h => h) hHeld.out (yieldsIf_of rfl ?_) ?_
      rotate_left
      · (intro w hSw; go_simp <;> with_reducible rfl)
      try simp only [Act.put, List.setIfInBounds_toArray, List.set_cons_zero, List.set_cons_succ]
      refine Go.Proofs.YtgfmeiddicodoaaW.PrintLast.wpAnyLast_done (by kernel_rfl) ?_ _
      have HFI := Lib.hid hEx.out
      clear hHeld hEx
      go_wp2_with fail
      go_ret
      exact ⟨rfl, HFI.out⟩
    · rw [show fromRow L = ZR from if_neg h64] at FA FI FO
      unfold ZR at FA FI FO
      by_cases hlt : L.length < 64
      · rw [show fromErr L = 9 by unfold fromErr; rw [if_neg h64, if_pos hlt]] at FA
        clear h64 hlt
        have hx5 := blk_grown (blk_alloc R3.out (.cells #[] 5)) HG5.out (by intro h; have := blk_lt R3.out; simp [Value.ownBlock] at h; omega)
        have hd5 := blk_grown (blk_alloc D3.out (.cells #[] 5)) HG5.out (by intro h; have := blk_lt D3.out; simp [Value.ownBlock] at h; omega)
        have ho5 : w5.ownsRow w.heap.size 5 1 v1 L.length (nums .u8 L) := HO5.out
        have X5 := Lib.hid hx5
        have D5 := Lib.hid hd5
        have O5 := Lib.hid ho5
        clear HO5 HG5 hx5 hd5 ho5
        obtain ⟨A5, c5, rfl, hr5⟩ := own_reads O5.out
        have R5 := Lib.hid hr5
        clear hr5 O5
        refine (FA.out A5 c5 w5 R5.out).mono ?_
        rintro e w6 ⟨rfl, hb⟩
        have X6 := Lib.hid (blk_below X5.out hb)
        have D6 := Lib.hid (blk_below D5.out hb)
        have RL6 := Lib.hid (RL.out.below (HB5.out.trans (hb.mono HB5.out.size)))
        have HB6 := Lib.hid (HB5.out.trans (hb.mono HB5.out.size))
        clear hb
        obtain ⟨W7, hW7⟩ : ∃ W7, (w6.alloc (.cells #[(.int .u32 0), (.int .u32 0), (.int .u64 0), (.int .u64 0), (.int .u64 0), (.int .u64 0), (.int .u64 0), (.int .u64 0), (.int .u64 0)] 26)).setRow w6.heap.size #[(.int .u32 0), (.int .u32 0), (.int .u64 0), (.int .u64 0), (.int .u64 0), (.int .u64 0), (.int .u64 0), (.int .u64 0), (.int .u64 0)] = W7 := ⟨_, rfl⟩
        have r7 := heap_setRow_same (w6.alloc (.cells #[(.int .u32 0), (.int .u32 0), (.int .u64 0), (.int .u64 0), (.int .u64 0), (.int .u64 0), (.int .u64 0), (.int .u64 0), (.int .u64 0)] 26)) w6.heap.size #[(.int .u32 0), (.int .u32 0), (.int .u64 0), (.int .u64 0), (.int .u64 0), (.int .u64 0), (.int .u64 0), (.int .u64 0), (.int .u64 0)] _ _ _ (heap_alloc_new w6 (.cells #[(.int .u32 0), (.int .u32 0), (.int .u64 0), (.int .u64 0), (.int .u64 0), (.int .u64 0), (.int .u64 0), (.int .u64 0), (.int .u64 0)] 26))
        rw [hW7] at r7
        have b7 : Below w6.heap.size w6 W7 := by rw [← hW7]; exact ((Below.refl _ _).alloc (Nat.le_refl _) _).trans ⟨rfl, rfl, rfl, by simp, fun k hk => heap_setRow_other _ _ _ _ (by omega)⟩
        have HW7 := Lib.hid hW7
        have Y7 := Lib.hid r7
        have X7 := Lib.hid (blk_below X6.out b7)
        have D7 := Lib.hid (blk_below D6.out b7)
        have RL7 := Lib.hid (RL6.out.below b7)
        have HB7 := Lib.hid (HB6.out.trans (b7.mono HB6.out.size))
        clear hW7 r7 b7
        go_wp2_with (refine wpList_store_row rfl 26 (.tmp 7) (.tmp 24) rfl rfl w6.heap.size rfl #[(.int .u32 0), (.int .u32 0), (.int .u64 0), (.int .u64 0), (.int .u64 0), (.int .u64 0), (.int .u64 0), (.int .u64 0), (.int .u64 0)] rfl _ _ (heap_alloc_new _ _) rfl FI.out FO.out ?_; rw [HW7.out])
        obtain ⟨c0, c1, c2, c3, c4, c5, c6, c7, c8⟩ := cells9 X7.out
        obtain ⟨d0, d1, d2, d3, d4, d5, d6, d7, d8⟩ := cells9 D7.out
        obtain ⟨e0, e1, e2, e3, e4, e5, e6, e7, e8⟩ := cells9 Y7.out
        go_still_tail 20, (by kernel_rfl)
        change wpList _ _ _ _ _ W7.drew
        have HT3 := Lib.hid HB7.out.drew
        clear c0 c1 c2 c3 c4 c5 c6 c7 c8 d0 d1 d2 d3 d4 d5 d6 d7 d8 e0 e1 e2 e3 e4 e5 e6 e7 e8
        go_wp2_with fail
        refine (KN.out _).mono ?_
        rintro e w8 ⟨rfl, hb⟩
        have HT4 := Lib.hid (HT3.out.trans (hb.mono HT3.out.size))
        clear hb
        go_wp2_with fail
        go_ret
        exact ⟨rfl, HT4.out⟩
      · rw [show fromErr L = 3 by unfold fromErr; rw [if_neg h64, if_neg hlt]] at FA
        clear h64 hlt
        have hx5 := blk_grown (blk_alloc R3.out (.cells #[] 5)) HG5.out (by intro h; have := blk_lt R3.out; simp [Value.ownBlock] at h; omega)
        have hd5 := blk_grown (blk_alloc D3.out (.cells #[] 5)) HG5.out (by intro h; have := blk_lt D3.out; simp [Value.ownBlock] at h; omega)
        have ho5 : w5.ownsRow w.heap.size 5 1 v1 L.length (nums .u8 L) := HO5.out
        have X5 := Lib.hid hx5
        have D5 := Lib.hid hd5
        have O5 := Lib.hid ho5
        clear HO5 HG5 hx5 hd5 ho5
        obtain ⟨A5, c5, rfl, hr5⟩ := own_reads O5.out
        have R5 := Lib.hid hr5
        clear hr5 O5
        refine (FA.out A5 c5 w5 R5.out).mono ?_
        rintro e w6 ⟨rfl, hb⟩
        have X6 := Lib.hid (blk_below X5.out hb)
        have D6 := Lib.hid (blk_below D5.out hb)
        have RL6 := Lib.hid (RL.out.below (HB5.out.trans (hb.mono HB5.out.size)))
        have HB6 := Lib.hid (HB5.out.trans (hb.mono HB5.out.size))
        clear hb
        obtain ⟨W7, hW7⟩ : ∃ W7, (w6.alloc (.cells #[(.int .u32 0), (.int .u32 0), (.int .u64 0), (.int .u64 0), (.int .u64 0), (.int .u64 0), (.int .u64 0), (.int .u64 0), (.int .u64 0)] 26)).setRow w6.heap.size #[(.int .u32 0), (.int .u32 0), (.int .u64 0), (.int .u64 0), (.int .u64 0), (.int .u64 0), (.int .u64 0), (.int .u64 0), (.int .u64 0)] = W7 := ⟨_, rfl⟩
        have r7 := heap_setRow_same (w6.alloc (.cells #[(.int .u32 0), (.int .u32 0), (.int .u64 0), (.int .u64 0), (.int .u64 0), (.int .u64 0), (.int .u64 0), (.int .u64 0), (.int .u64 0)] 26)) w6.heap.size #[(.int .u32 0), (.int .u32 0), (.int .u64 0), (.int .u64 0), (.int .u64 0), (.int .u64 0), (.int .u64 0), (.int .u64 0), (.int .u64 0)] _ _ _ (heap_alloc_new w6 (.cells #[(.int .u32 0), (.int .u32 0), (.int .u64 0), (.int .u64 0), (.int .u64 0), (.int .u64 0), (.int .u64 0), (.int .u64 0), (.int .u64 0)] 26))
        rw [hW7] at r7
        have b7 : Below w6.heap.size w6 W7 := by rw [← hW7]; exact ((Below.refl _ _).alloc (Nat.le_refl _) _).trans ⟨rfl, rfl, rfl, by simp, fun k hk => heap_setRow_other _ _ _ _ (by omega)⟩
        have HW7 := Lib.hid hW7
        have Y7 := Lib.hid r7
        have X7 := Lib.hid (blk_below X6.out b7)
        have D7 := Lib.hid (blk_below D6.out b7)
        have RL7 := Lib.hid (RL6.out.below b7)
        have HB7 := Lib.hid (HB6.out.trans (b7.mono HB6.out.size))
        clear hW7 r7 b7
        go_wp2_with (refine wpList_store_row rfl 26 (.tmp 7) (.tmp 24) rfl rfl w6.heap.size rfl #[(.int .u32 0), (.int .u32 0), (.int .u64 0), (.int .u64 0), (.int .u64 0), (.int .u64 0), (.int .u64 0), (.int .u64 0), (.int .u64 0)] rfl _ _ (heap_alloc_new _ _) rfl FI.out FO.out ?_; rw [HW7.out])
        obtain ⟨c0, c1, c2, c3, c4, c5, c6, c7, c8⟩ := cells9 X7.out
        obtain ⟨d0, d1, d2, d3, d4, d5, d6, d7, d8⟩ := cells9 D7.out
        obtain ⟨e0, e1, e2, e3, e4, e5, e6, e7, e8⟩ := cells9 Y7.out
        go_still_tail 20, (by kernel_rfl)
        change wpList _ _ _ _ _ W7.drew
        have HT3 := Lib.hid HB7.out.drew
        clear c0 c1 c2 c3 c4 c5 c6 c7 c8 d0 d1 d2 d3 d4 d5 d6 d7 d8 e0 e1 e2 e3 e4 e5 e6 e7 e8
        go_wp2_with fail
        refine (KN.out _).mono ?_
        rintro e w8 ⟨rfl, hb⟩
        have HT4 := Lib.hid (HT3.out.trans (hb.mono HT3.out.size))
        clear hb
        go_wp2_with fail
        go_ret
        exact ⟨rfl, HT4.out⟩
end Go.Proofs.Ytgfmeiddicodoaa.H
