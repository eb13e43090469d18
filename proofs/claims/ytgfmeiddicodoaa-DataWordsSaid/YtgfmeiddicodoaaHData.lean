/-
The contracts of package data: words, of, Word, With.
-/
import Derived.Test.YtgfmeiddicodoaaProg
import Derived.WalkKit
import Derived.WalkSpells
import Derived.WalkLawsBesides
import Derived.Handy
import Derived.Lib.Hide
import Derived.Deep.QuietTactic
import Derived.BigQuiet
import Derived.Test.YtgfmeiddicodoaaHArr
import Derived.Test.YtgfmeiddicodoaaWWords
set_option linter.unusedVariables false
set_option linter.unusedSimpArgs false
namespace Go.Proofs.Ytgfmeiddicodoaa.H
open Go.RowKit Go.Proofs.YtgfmeiddicodoaaW.PrintWords

/-- Two blocks may have turned; the rest is ags it was. -/
structure But2 (g a : Nat) (w w' : World) : Prop where
  os : w'.os = w.os
  tape : w'.tape = w.tape
  output : w'.output = w.output
  size : w'.heap.size = w.heap.size
  block : ∀ k, k ≠ g → k ≠ a → w'.heap[k]? = w.heap[k]?

theorem But2.below {g a B : Nat} {w w' : World} (h : But2 g a w w') (hg : B ≤ g) (ha : B ≤ a) : Below B w w' :=
  ⟨h.os, h.tape, h.output, by rw [h.size]; exact Nat.le_refl _, fun k hk => h.block k (by omega) (by omega)⟩
theorem But2.trans {g a : Nat} {x y z : World} (h : But2 g a x y) (k : But2 g a y z) : But2 g a x z :=
  ⟨k.os.trans h.os, k.tape.trans h.tape, k.output.trans h.output, k.size.trans h.size, fun i h1 h2 => (k.block i h1 h2).trans (h.block i h1 h2)⟩
theorem But2.refl (g a : Nat) (w : World) : But2 g a w w := ⟨rfl, rfl, rfl, rfl, fun _ _ _ => rfl⟩
theorem But2.set1 {g a : Nat} {x w : World} (h : But2 g a x w) (i : Nat) (v : Value) : But2 g a x (w.setCell ⟨g, i, none⟩ v) :=
  ⟨h.os, h.tape, h.output, by simp [World.setCell, h.size], fun k h1 h2 => by rw [heap_setCell_other _ _ _ _ h1]; exact h.block k h1 h2⟩
theorem But2.set2 {g a : Nat} {x w : World} (h : But2 g a x w) (i : Nat) (v : Value) : But2 g a x (w.setCell ⟨a, i, none⟩ v) :=
  ⟨h.os, h.tape, h.output, by simp [World.setCell, h.size], fun k h1 h2 => by rw [heap_setCell_other _ _ _ _ h2]; exact h.block k h1 h2⟩
theorem But2.drew {g a : Nat} {x w : World} (h : But2 g a x w) : But2 g a x w.drew := ⟨h.os, h.tape, h.output, h.size, h.block⟩

theorem cell_row {w : World} {g : Nat} {cs : List Value} {t : TypeId} {fr : Nat × Nat} (hg : w.heap[g]? = some (.cells cs.toArray t fr)) (j : Nat) (v : Value) (h : cs[j]? = some v) : w.cell? ⟨g, j, none⟩ = some v := by
  rw [cell_of_row w g j _ t fr hg]; simpa using h
theorem heap_set_row {w : World} {g : Nat} {cs : List Value} {t : TypeId} (hg : w.heap[g]? = some (.cells cs.toArray t (0, 0))) (i : Nat) (v : Value) :
    (w.setCell ⟨g, i, none⟩ v).heap[g]? = some (.cells (cs.set i v).toArray t (0, 0)) := by
  rw [heap_setCell_same w g i _ t v hg]
  simp

def PutEnd (g a : Nat) (w : World) (cs : List Value) (j : Nat) (v : Int) (e : Ending) (w' : World) : Prop :=
  e = .returned (.tuple #[]) ∧ But2 g a w w' ∧ w'.heap[g]? = some (.cells ((cs.set j (.int .u32 (v % 4294967296))).set (j + 1) (.int .u32 (v / 4294967296))).toArray 55 (0, 0)) ∧
    w'.heap[a]? = some (.cells #[.int .i64 ((j : Int) + 2)] 3 (0, 0))

set_option maxHeartbeats 400000 in
theorem put_walk (v : Int) (hv : 0 ≤ v ∧ v < 18446744073709551616) (g a : Nat) (hne : g ≠ a) (j : Nat) (w : World) (cs : List Value) (hj : j + 1 < cs.length) (hlen : cs.length = 16)
    (hg : w.heap[g]? = some (.cells cs.toArray 55 (0, 0))) (ha : w.heap[a]? = some (.cells #[.int .i64 (j : Int)] 3 (0, 0))) :
    Calls Try.prog 44 #[.int .u64 v, .pointer (some ⟨g, 0, none⟩), .pointer (some ⟨a, 0, none⟩)] w fun e w' => PutEnd g a w cs j v e w' := by
  have h1 : w.cell? ⟨a, 0, none⟩ = some (.int .i64 (j : Int)) := cell_row (cs := [.int .i64 (j : Int)]) ha 0 _ rfl
  have h2 : w.cell? ⟨g, j, none⟩ = some (cs[j]'(by omega)) := cell_row hg j _ (List.getElem?_eq_getElem (by omega))
  have h3 : w.cell? ⟨g, j + 1, none⟩ = some (cs[j + 1]'(by omega)) := cell_row hg (j + 1) _ (List.getElem?_eq_getElem (by omega))
  have f2 : w.frozen? ⟨g, j, none⟩ = false := frozen_of_row w g j _ _ hg
  have f3 : w.frozen? ⟨g, j + 1, none⟩ = false := frozen_of_row w g (j + 1) _ _ hg
  have hj16 : j ≤ 14 := by omega
  have HG := Lib.hid hg
  have HA := Lib.hid ha
  have HL := Lib.hid hlen
  generalize cs[j]'(by omega) = x at *
  generalize cs[j + 1]'(by omega) = y at *
  clear hg ha hlen hj
  go_enter Try.func44, Try.ntmps44
  go_wp2
  go_region
  obtain ⟨W1, hW1⟩ : ∃ W1, (((w.setCell ⟨g, j, none⟩ (.int .u32 (v % 4294967296))).setCell ⟨g, j + 1, none⟩ (.int .u32 (v / 4294967296))).drew) = W1 := ⟨_, rfl⟩
  have hb : But2 g a w W1 := by rw [← hW1]; exact (((But2.refl g a w).set1 _ _).set1 _ _).drew
  have hg1 : W1.heap[g]? = some (.cells ((cs.set j (.int .u32 (v % 4294967296))).set (j + 1) (.int .u32 (v / 4294967296))).toArray 55 (0, 0)) := by
    rw [← hW1]; exact heap_set_row (heap_set_row HG.out j _) (j + 1) _
  have ha1 : W1.heap[a]? = some (.cells #[.int .i64 (j : Int)] 3 (0, 0)) := by
    rw [← hW1]
    show ((w.setCell _ _).setCell _ _).heap[a]? = _
    rw [heap_setCell_other _ _ _ _ (by simpa using fun h => hne h.symm), heap_setCell_other _ _ _ _ (by simpa using fun h => hne h.symm)]
    exact HA.out
  rw [hW1]
  have c1 : W1.cell? ⟨a, 0, none⟩ = some (.int .i64 (j : Int)) := cell_row (cs := [.int .i64 (j : Int)]) ha1 0 _ rfl
  have f1 : W1.frozen? ⟨a, 0, none⟩ = false := frozen_of_row W1 a 0 _ _ ha1
  have HB := Lib.hid hb
  have HG1 := Lib.hid hg1
  have HA1 := Lib.hid ha1
  have HNE := Lib.hid hne
  clear hb hg1 ha1 hW1 h1 h2 h3 f2 f3 hne
  go_wp2
  go_end0
  refine ⟨rfl, HB.out.set2 _ _, ?_, ?_⟩
  · rw [heap_setCell_other _ _ _ _ (by simpa using HNE.out)]; exact HG1.out
  · have := heap_set_row (cs := [.int .i64 (j : Int)]) HA1.out 0 (.int .i64 ((j : Int) + 2))
    exact this

theorem push_at (h : Array Obj) (o : Obj) : (h.push o)[h.size]? = some o := by simp
theorem push_lt (h : Array Obj) (o : Obj) (k : Nat) (hk : k < h.size) : (h.push o)[k]? = h[k]? := by
  rw [Array.getElem?_push, if_neg (by omega)]
theorem alloc4 (w : World) (A B C D : Obj) :
    ((((w.alloc A).alloc B).alloc C).alloc D).heap[w.heap.size]? = some A ∧ ((((w.alloc A).alloc B).alloc C).alloc D).heap[w.heap.size + 1]? = some B ∧
    ((((w.alloc A).alloc B).alloc C).alloc D).heap[w.heap.size + 1 + 1]? = some C ∧ ((((w.alloc A).alloc B).alloc C).alloc D).heap[w.heap.size + 1 + 1 + 1]? = some D ∧
    Below w.heap.size w ((((w.alloc A).alloc B).alloc C).alloc D) := by
  have e : ((((w.alloc A).alloc B).alloc C).alloc D).heap = (((w.heap.push A).push B).push C).push D := rfl
  rw [e]
  refine ⟨?_, ?_, ?_, ?_, ?_⟩
  · simp only [Array.getElem?_push, Array.size_push]; rw [if_neg (by omega), if_neg (by omega), if_neg (by omega), if_pos trivial]
  · simp only [Array.getElem?_push, Array.size_push]; rw [if_neg (by omega), if_neg (by omega), if_pos trivial]
  · simp only [Array.getElem?_push, Array.size_push]; rw [if_neg (by omega), if_pos trivial]
  · simp only [Array.getElem?_push, Array.size_push]; rw [if_pos trivial]
  · exact (((((Below.refl _ _).alloc (Nat.le_refl _) _).alloc (by simp) _).alloc (by simp; omega) _).alloc (by simp; omega) _)

theorem or32 (a b : Int) (ha : 0 ≤ a ∧ a < 4294967296) (hb : 0 ≤ b ∧ b < 4294967296) : bits .or .u64 a (b * 4294967296) = a + b * 4294967296 := by
  obtain ⟨x, rfl⟩ := Int.eq_ofNat_of_zero_le ha.1
  obtain ⟨y, rfl⟩ := Int.eq_ofNat_of_zero_le hb.1
  have e : (y : Int) * 4294967296 = ((y * 4294967296 : Nat) : Int) := by omega
  rw [e, u64_or_nat _ _ (by omega) (by omega), Nat.or_comm, nat_join 32 _ _ (by omega) (by omega)]
  omega

def z16 : List Value := List.replicate 16 (.int .u32 0)
def put2 (cs : List Value) (j : Nat) (v : Int) : List Value := (cs.set j (.int .u32 (v % 4294967296))).set (j + 1) (.int .u32 (v / 4294967296))
theorem put2_length (cs : List Value) (j : Nat) (v : Int) : (put2 cs j v).length = cs.length := by simp [put2]
def wcs (v0 ip : Int) (ags : List Int) : Nat → List Value
  | 0 => put2 (put2 z16 0 v0) 2 ip
  | k + 1 => put2 (wcs v0 ip ags k) (4 + 2 * k) (ags.getD k 0)
theorem wcs_length (v0 ip : Int) (ags : List Int) (k : Nat) : (wcs v0 ip ags k).length = 16 := by
  induction k with
  | zero => simp [wcs, put2_length, z16]
  | succ k ih => simp [wcs, put2_length, ih]

/-- The words of a record. -/
def wordsL (nr ar ip : Int) (ags : List Int) : List Int :=
  [nr, ar, ip % 4294967296, ip / 4294967296, ags.getD 0 0 % 4294967296, ags.getD 0 0 / 4294967296, ags.getD 1 0 % 4294967296, ags.getD 1 0 / 4294967296, ags.getD 2 0 % 4294967296, ags.getD 2 0 / 4294967296,
   ags.getD 3 0 % 4294967296, ags.getD 3 0 / 4294967296, ags.getD 4 0 % 4294967296, ags.getD 4 0 / 4294967296, ags.getD 5 0 % 4294967296, ags.getD 5 0 / 4294967296]
theorem wcs_six (nr ar ip : Int) (ags : List Int) (h0 : 0 ≤ nr ∧ nr < 4294967296) (h1 : 0 ≤ ar ∧ ar < 4294967296) : wcs (nr + ar * 4294967296) ip ags 6 = nums .u32 (wordsL nr ar ip ags) := by
  have e1 : (nr + ar * 4294967296) % 4294967296 = nr := by omega
  have e2 : (nr + ar * 4294967296) / 4294967296 = ar := by omega
  simp only [wcs, put2, z16, e1, e2]
  rfl

def dataV (nr ar ip : Int) (ags : List Int) : Value := .agg ((Value.int .u32 nr :: Value.int .u32 ar :: Value.int .u64 ip :: nums .u64 ags).toArray)
theorem idx6 (ags : List Int) (hl : ags.length = 6) (k : Nat) (hk : k < 6) (w : World) :
    (Instr.index 24 (.agg (nums .u64 ags).toArray) (.int .i64 (k : Int))).run Try.prog w = .ok (.int .u64 (ags.getD k 0)) w :=
  run_index_arr Try.underlying24 Try.underlying23 (by kernel_rfl) _ k hk _ (by simp [nums, List.getElem?_eq_getElem (show k < ags.length by omega), List.getD_eq_getElem?_getD]) w

set_option maxHeartbeats 2000000 in
theorem words_walk (nr ar ip : Int) (ags : List Int) (hl : ags.length = 6) (w : World) (h0 : 0 ≤ nr ∧ nr < 4294967296) (h1 : 0 ≤ ar ∧ ar < 4294967296) (h2 : 0 ≤ ip ∧ ip < 18446744073709551616)
    (h3 : ∀ k, k < 6 → 0 ≤ ags.getD k 0 ∧ ags.getD k 0 < 18446744073709551616) :
    Calls Try.prog 37 #[dataV nr ar ip ags] w fun e w' => e = .returned (.agg (nums .u32 (wordsL nr ar ip ags)).toArray) ∧ Below w.heap.size w w' := by
  have hor := or32 nr ar h0 h1
  have HS := Lib.hid (wcs_six nr ar ip ags h0 h1)
  have HIX := Lib.hid (idx6 ags hl)
  have H3 := Lib.hid h3
  clear h3
  unfold dataV
  generalize hR : (nums .u32 (wordsL nr ar ip ags)) = R at *
  generalize hA : (nums .u64 ags) = A at *
  have hAl : A.length = 6 := by rw [← hA]; simpa [nums] using hl
  have HAL := Lib.hid hAl
  clear hR hA hl hAl
  go_enter Try.func37, Try.ntmps37
  go_wp2_with fail
  obtain ⟨q1, q2, q3, q4, q5⟩ := alloc4 w (Obj.cells (Value.int IntKind.u32 nr :: Value.int IntKind.u32 ar :: Value.int IntKind.u64 ip :: A).toArray 26) (Obj.cells z16.toArray 55) (Obj.cells z16.toArray 55) (Obj.cells #[Value.int IntKind.i64 0] 3)
  have hv : 0 ≤ nr + ar * 4294967296 ∧ nr + ar * 4294967296 < 18446744073709551616 := by omega
  refine (put_walk (nr + ar * 4294967296) hv _ _ (by omega) 0 _ z16 (by simp [z16]) (by simp [z16]) q3 q4).mono ?_
  rintro e W1 ⟨rfl, hb, hg, ha⟩
  have k1 : W1.heap[w.heap.size]? = _ := (hb.block _ (by omega) (by omega)).trans q1
  have k2 : W1.heap[w.heap.size + 1]? = _ := (hb.block _ (by omega) (by omega)).trans q2
  have kb : Below w.heap.size w W1 := q5.trans (hb.below (by omega) (by omega))
  have KB := Lib.hid kb
  have K1 := Lib.hid k1
  have K2 := Lib.hid k2
  have KG := Lib.hid hg
  have KA := Lib.hid ha
  have c2 : W1.cell? ⟨w.heap.size, 2, none⟩ = some (.int .u64 ip) := cell_row k1 2 _ rfl
  clear hor hb hg ha k1 k2 kb q1 q2 q3 q4 q5 hv
  go_wp2_with fail
  have KA' : W1.heap[w.heap.size + 1 + 1 + 1]? = some (.cells #[.int .i64 ((2 : Nat) : Int)] 3 (0, 0)) := KA.out
  refine (put_walk ip h2 _ _ (by omega) 2 _ (put2 z16 0 (nr + ar * 4294967296)) (by simp [put2_length, z16]) (by simp [put2_length, z16]) KG.out KA').mono ?_
  rintro e W2 ⟨rfl, hb, hg, ha⟩
  have k1 : W2.heap[w.heap.size]? = _ := (hb.block _ (by omega) (by omega)).trans K1.out
  have k2 : W2.heap[w.heap.size + 1]? = _ := (hb.block _ (by omega) (by omega)).trans K2.out
  have kb : Below w.heap.size w W2 := KB.out.trans (hb.below (by omega) (by omega))
  clear KB K1 K2 KG KA KA' c2
  have KB := Lib.hid kb
  have K1 := Lib.hid k1
  have K2 := Lib.hid k2
  have KG := Lib.hid hg
  have KA := Lib.hid ha
  clear hb hg ha k1 k2 kb
  have hex : (Value.int IntKind.u32 nr :: Value.int IntKind.u32 ar :: Value.int IntKind.u64 ip :: A).toArray.extract 3 (3 + 6) = A.toArray := by
    have h6 := HAL.out
    apply Array.ext'
    simp only [Array.toList_extract, List.extract_eq_take_drop, List.drop_succ_cons, List.drop_zero]
    exact List.take_of_length_le (by simp; omega)
  have HEX := Lib.hid hex
  clear hex
  go_wp2_with (refine wpList_load_sub rfl 24 (.tmp 23) rfl w.heap.size 3 6 rfl _ _ _ _ K1.out Try.underlying24 rfl (by kernel_rfl) (by simp [HAL.out]) ?_; rw [HEX.out])
  clear HEX
  go_loopw [25] (fun i wr => ∃ k : Nat, k ≤ 6 ∧ i = .int .i64 (k : Int) ∧ wr.heap[w.heap.size + 1 + 1]? = some (.cells (wcs (nr + ar * 4294967296) ip ags k).toArray 55 (0, 0)) ∧
      wr.heap[w.heap.size + 1 + 1 + 1]? = some (.cells #[.int .i64 ((4 + 2 * k : Nat) : Int)] 3 (0, 0)) ∧ But2 (w.heap.size + 1 + 1) (w.heap.size + 1 + 1 + 1) W2 wr) (fun i _ => 6 - (intOf i).toNat)
  case atStart => exact ⟨0, by omega, rfl, KG.out, KA.out, But2.refl _ _ _⟩
  case round =>
    obtain ⟨k, hk, rfl, hg, ha, hb⟩ := hrel
    have HG := Lib.hid hg
    have HA := Lib.hid ha
    have HB := Lib.hid hb
    clear hg ha hb
    by_cases hlt : k < 6
    · have hix := HIX.out k hlt
      have hv := H3.out k hlt
      have hwl := wcs_length (nr + ar * 4294967296) ip ags k
      have HWL := Lib.hid hwl
      clear hwl
      generalize hx : ags.getD k 0 = x at *
      generalize hcs : wcs (nr + ar * 4294967296) ip ags k = cs at *
      have HX := Lib.hid hx
      have HCS := Lib.hid hcs
      clear hx hcs
      go_wp2_with fail
      refine (put_walk x hv _ _ (by omega) (4 + 2 * k) _ cs (by rw [HWL.out]; omega) HWL.out HG.out HA.out).mono ?_
      rintro e W3 ⟨rfl, hb, hg, ha⟩
      have HG3 := Lib.hid hg
      have HA3 := Lib.hid ha
      have HB3 := Lib.hid hb
      clear hg ha hb
      go_wp2
      go_roundw
      case rel => exact ⟨k + 1, by omega, by go_num, by rw [HG3.out]; show _ = some (Obj.cells (put2 (wcs (nr + ar * 4294967296) ip ags k) (4 + 2 * k) (ags.getD k 0)).toArray _ _); rw [HCS.out, HX.out]; rfl, by rw [HA3.out]; congr 3, HB.out.trans HB3.out⟩
      case measure => simp [intOf]; omega
    · obtain rfl : k = 6 := by omega
      have hg6 := HG.out
      rw [HS.out] at hg6
      have hres : wr.heap[w.heap.size + 1]? = some (.cells z16.toArray 55 (0, 0)) := (HB.out.block _ (by omega) (by omega)).trans K2.out
      have hR : R.length = 16 := by rw [← HS.out]; exact wcs_length _ _ _ _
      have hone : ∀ v ∈ R.toArray.toList, v.oneCell' = true := by
        rw [← HS.out, wcs_six nr ar ip ags h0 h1]; exact oneCell_nums _ _
      have hi : (Try.prog.info? 55).map (·.size) = some R.toArray.size := by
        rw [show R.toArray.size = 16 from by simp [hR]]; kernel_rfl
      have HI := Lib.hid hi
      have G6 := Lib.hid hg6
      have RES := Lib.hid hres
      have RL := Lib.hid hR
      have ONE := Lib.hid hone
      clear hg6 hres hR hone hi
      go_wp2_with (first | (refine wpList_load_row rfl 55 (.tmp 3) rfl (w.heap.size + 1 + 1) rfl _ _ _ _ G6.out Try.underlying55 rfl HI.out ?_) | (refine wpList_store_row rfl 55 (.tmp 2) (.tmp 32) rfl rfl (w.heap.size + 1) rfl R.toArray rfl _ _ RES.out (by simp [RL.out, z16]) HI.out ONE.out ?_))
      have hfin := heap_setRow_same wr (w.heap.size + 1) R.toArray z16.toArray 55 _ RES.out
      refine bodyPost_ret (results_cell_row rfl _ _ (w.heap.size + 1) _ _ _ _ rfl hfin Try.underlying55 rfl HI.out) rfl ?_
      refine ⟨rfl, ?_⟩
      refine (KB.out.trans (HB.out.below (by omega) (by omega))).trans ⟨rfl, rfl, rfl, by simp [World.setRow], fun k hk => heap_setRow_other _ _ _ _ (by omega)⟩

/-! ### of -/
def arg2 (ws : List Int) (j : Nat) : Int := ws.getD j 0 + ws.getD (j + 1) 0 * 4294967296
def GetEnd (a : Nat) (w : World) (ws : List Int) (j : Nat) (e : Ending) (w' : World) : Prop :=
  e = .returned (.int .u64 (arg2 ws j)) ∧ But2 a a w w' ∧ w'.heap[a]? = some (.cells #[.int .i64 ((j : Int) + 2)] 3 (0, 0))
def U32s (ws : List Int) : Prop := ∀ i, 0 ≤ ws.getD i 0 ∧ ws.getD i 0 < 4294967296

theorem nums_get (k : IntKind) (l : List Int) (i : Nat) (h : i < l.length) : (nums k l)[i]? = some (.int k (l.getD i 0)) := by
  simp [nums, List.getElem?_eq_getElem h, List.getD_eq_getElem?_getD]

set_option maxHeartbeats 1000000 in
theorem get_walk (ws : List Int) (hl : ws.length = 16) (hu : U32s ws) (g a : Nat) (hne : g ≠ a) (j : Nat) (hj : j ≤ 14) (w : World)
    (hg : w.heap[g]? = some (.cells (nums .u32 ws).toArray 55 (0, 0))) (ha : w.heap[a]? = some (.cells #[.int .i64 (j : Int)] 3 (0, 0))) :
    Calls Try.prog 46 #[.pointer (some ⟨g, 0, none⟩), .pointer (some ⟨a, 0, none⟩)] w fun e w' => GetEnd a w ws j e w' := by
  have h1 : w.cell? ⟨a, 0, none⟩ = some (.int .i64 (j : Int)) := cell_row (cs := [.int .i64 (j : Int)]) ha 0 _ rfl
  have h2 : w.cell? ⟨g, j, none⟩ = some (.int .u32 (ws.getD j 0)) := cell_row hg j _ (nums_get _ _ _ (by omega))
  have h3 : w.cell? ⟨g, j + 1, none⟩ = some (.int .u32 (ws.getD (j + 1) 0)) := cell_row hg (j + 1) _ (nums_get _ _ _ (by omega))
  have b2 := hu j
  have b3 := hu (j + 1)
  have hor := or32 _ _ b2 b3
  have f1 : w.frozen? ⟨a, 0, none⟩ = false := frozen_of_row w a 0 _ _ ha
  have HA := Lib.hid ha
  have HNE := Lib.hid hne
  generalize hx : ws.getD j 0 = x at *
  generalize hy : ws.getD (j + 1) 0 = y at *
  have HX := Lib.hid hx
  have HY := Lib.hid hy
  clear hg ha hl hu hx hy hne
  go_enter Try.func46, Try.ntmps46
  go_wp2
  go_region
  go_wp2
  go_ret
  refine ⟨?_, ((But2.refl a a w).set1 _ _).drew, ?_⟩
  · unfold arg2; rw [HX.out, HY.out]; rfl
  · exact heap_set_row (cs := [.int .i64 (j : Int)]) HA.out 0 (.int .i64 ((j : Int) + 2))

/-- The record of words. -/
def argsOf (ws : List Int) : List Int := [arg2 ws 4, arg2 ws 6, arg2 ws 8, arg2 ws 10, arg2 ws 12, arg2 ws 14]
def ocs (ws : List Int) : Nat → List Value
  | 0 => [.int .u32 (ws.getD 0 0), .int .u32 (ws.getD 1 0), .int .u64 (arg2 ws 2), .int .u64 0, .int .u64 0, .int .u64 0, .int .u64 0, .int .u64 0, .int .u64 0]
  | k + 1 => (ocs ws k).set (3 + k) (.int .u64 (arg2 ws (4 + 2 * k)))
theorem ocs_length (ws : List Int) (k : Nat) : (ocs ws k).length = 9 := by
  induction k with
  | zero => rfl
  | succ k ih => simp [ocs, ih]
theorem ocs_six (ws : List Int) : ocs ws 6 = Value.int .u32 (ws.getD 0 0) :: Value.int .u32 (ws.getD 1 0) :: Value.int .u64 (arg2 ws 2) :: nums .u64 (argsOf ws) := rfl

end Go.Proofs.Ytgfmeiddicodoaa.H
