/- Lemmas for this claim: A text is the policy that the document says, or the place and the error are told (any text of up to 25000 bytes). (Some lines were printed for this seat by the kit's print.sh; wip/pack.py has put the needed ones together.) -/
import Derived.KernelRfl
import Derived.Laws.BitsAllLaws
import Derived.Test.YtekpbgmmogpbdaaProg
import Derived.WalkKit
import Derived.WalkSpells
import Derived.WalkLawsBesides
import Derived.Handy
import Derived.Lib.Hide
import Derived.Lib.Strings
import Derived.Lib.SlBytesConst
import Derived.ArgAppend
import Derived.Laws.IdiomRangeMap
import Derived.Maps.RangeRun
import Derived.Carry
import Derived.Deep.QuietTactic
import Derived.ChangeKeysEq
import Derived.Laws.StructEq
import Derived.OrdersHeld
import Derived.Deep.RegionHeld
import Derived.Laws.RangeString
import Derived.Laws.RangeAny
import Derived.BigQuiet
import Derived.Below
import Derived.Deep.Draws
import Derived.Deep.AppendLies
import Derived.Maps.AppendAt
import Derived.OwnWalk
import Derived.Laws.BytesArg
import Derived.Laws.MakeOwn
import Derived.Laws.OwnMore
import Derived.Deep.OwnRows
import Derived.Tactics
import Derived.Lib.ConvBytes
import Derived.Laws.Slices
import Derived.RowKit3
import Derived.Deep.LoopGhost
import Derived.WideLaws
import Derived.Deep.DeepCutAuto
import Derived.Deep.CutBlock
import Derived.Deep.RegionHeld3
import Derived.Laws.Rows
import Derived.Lib.AppendStr
import Derived.Laws.IdiomCopy
import Derived.Laws.BitsLemmas
import Derived.RowKit
import Derived.OpenShut
import Derived.Test.YtekpbgmmogpbdaaZPP0
set_option linter.unusedVariables false
set_option linter.unusedSimpArgs false
set_option maxRecDepth 100000
namespace Go.Proofs.Ytekpbgmmogpbdaa
open Go.RowKit Go.Proofs.YtekpbgmmogpbdaaW.PrintWords
theorem bkS {P Q : Prop} (h : P) (t : P → Q := by intro h_; (with_reducible repeat (first | refine Go.Proofs.YtekpbgmmogpbdaaW.PrintWords.blk_drewN ?_ _ | refine Go.Proofs.YtekpbgmmogpbdaaW.PrintWords.blk_drew ?_ | refine Go.Proofs.YtekpbgmmogpbdaaW.PrintWords.blk_alloc ?_ _)); exact h_) : Q := t h
theorem rdS {P Q : Prop} (h : P) (t : P → Q := by intro h_; (with_reducible repeat (first | apply Go.Proofs.YtekpbgmmogpbdaaW.PrintWords.Kd.R_alloc | apply Go.Proofs.YtekpbgmmogpbdaaW.PrintWords.Kd.R_drewN | apply Go.Proofs.YtekpbgmmogpbdaaW.PrintWords.Kd.R_drew)); exact h_) : Q := t h
theorem sdS {P Q : Prop} (h : P) (t : P → Q := by intro h_; (with_reducible repeat (first | apply Go.Proofs.YtekpbgmmogpbdaaW.PrintWords.Kd.S_alloc | apply Go.Proofs.YtekpbgmmogpbdaaW.PrintWords.Kd.S_drewN | apply Go.Proofs.YtekpbgmmogpbdaaW.PrintWords.Kd.S_drew)); exact h_) : Q := t h
theorem bl0 {Q : Prop} (t : Q := by repeat (first | (with_reducible first | exact HB.out | apply Go.Proofs.YtekpbgmmogpbdaaW.PrintWords.below_alloc | apply Go.Proofs.YtekpbgmmogpbdaaW.PrintWords.pw_below_drewN | apply Go.Proofs.YtekpbgmmogpbdaaW.PrintWords.below_drew1) | exact HB.out)) : Q := t
theorem bl1 {P1 Q : Prop} (h1 : P1) (t : P1 → Q := by intro g1_; repeat (first | (with_reducible first | exact HB.out | apply Go.Proofs.YtekpbgmmogpbdaaW.PrintWords.below_alloc | apply Go.Proofs.YtekpbgmmogpbdaaW.PrintWords.pw_below_drewN | apply Go.Proofs.YtekpbgmmogpbdaaW.PrintWords.below_drew1 | refine Go.Proofs.YtekpbgmmogpbdaaW.PrintWords.below_set ?_ g1_) | exact HB.out)) : Q := t h1
theorem bl2 {P1 P2 Q : Prop} (h1 : P1) (h2 : P2) (t : P1 → P2 → Q := by intro g1_ g2_; repeat (first | (with_reducible first | exact HB.out | apply Go.Proofs.YtekpbgmmogpbdaaW.PrintWords.below_alloc | apply Go.Proofs.YtekpbgmmogpbdaaW.PrintWords.pw_below_drewN | apply Go.Proofs.YtekpbgmmogpbdaaW.PrintWords.below_drew1 | refine Go.Proofs.YtekpbgmmogpbdaaW.PrintWords.below_set ?_ g1_ | refine Go.Proofs.YtekpbgmmogpbdaaW.PrintWords.below_set ?_ g2_) | exact HB.out)) : Q := t h1 h2
theorem bl3 {P1 P2 P3 Q : Prop} (h1 : P1) (h2 : P2) (h3 : P3) (t : P1 → P2 → P3 → Q := by intro g1_ g2_ g3_; repeat (first | (with_reducible first | exact HB.out | apply Go.Proofs.YtekpbgmmogpbdaaW.PrintWords.below_alloc | apply Go.Proofs.YtekpbgmmogpbdaaW.PrintWords.pw_below_drewN | apply Go.Proofs.YtekpbgmmogpbdaaW.PrintWords.below_drew1 | refine Go.Proofs.YtekpbgmmogpbdaaW.PrintWords.below_set ?_ g1_ | refine Go.Proofs.YtekpbgmmogpbdaaW.PrintWords.below_set ?_ g2_ | refine Go.Proofs.YtekpbgmmogpbdaaW.PrintWords.below_set ?_ g3_) | exact HB.out)) : Q := t h1 h2 h3
theorem mpA {Q : Prop} (t : Q := by (try simp only [List.map_toArray, List.map_cons, List.map_nil]); first | done | rfl | (simp only [List.length_drop, List.length_take]; rfl)) : Q := t
theorem as_ {Q : Prop} (t : Q := by first | (with_reducible assumption) | assumption) : Q := t
theorem erA {Q : Prop} (t : Q := by first | rfl | (simp [errW_none, errW_some] <;> rfl) | (simp [*, errW_none, errW_some] <;> rfl)) : Q := t
theorem apS {P Q : Prop} (h : P) (t : P → Q := by intro h_; simp only [Act.put, List.setIfInBounds_toArray, List.set_cons_zero, List.set_cons_succ]; exact h_) : Q := t h
theorem apW {P Q : Prop} (h : P) (t : P → Q := by intro h_; simp only [Act.put, List.setIfInBounds_toArray, List.set_cons_zero, List.set_cons_succ, i64_w, i32_w]; exact h_) : Q := t h
theorem piA {Q : Prop} (t : Q := by repeat (first | (with_reducible exact HP.out) | (with_reducible refine PI.drewN ?_ _) | (with_reducible refine PI.drew ?_) | (with_reducible refine PI.alloc ?_ _) | exact HP.out)) : Q := t
theorem owA {P Q : Prop} (h : P) (t : P → Q := by intro h_; first | exact h_ | (rw [Go.Proofs.YtekpbgmmogpbdaaW.PrintWords.add_block]; exact h_) | (show (Addr.add _ _).block ≠ _; rw [Go.Proofs.YtekpbgmmogpbdaaW.PrintWords.add_block]; exact h_) | (dsimp only; exact h_)) : Q := t h
theorem bpI {P : Program} {fn : Func} {R : Ending → World → Prop} {e : Exit} {a : Act} {w : World} (h : bodyPost P fn R e a w) : bodyPost P fn R e a w := h
theorem kR {Q : Prop} (t : Q := by kernel_rfl) : Q := t
theorem aM {p : Prop} (h : p) : Aside0 p := ⟨h⟩
end Go.Proofs.Ytekpbgmmogpbdaa
set_option maxRecDepth 100000
namespace Go.Proofs.Ytekpbgmmogpbdaa.H
def hexd (c : Nat) : Option Nat := if 48 ≤ c ∧ c ≤ 57 then some (c - 48) else if 97 ≤ c ∧ c ≤ 102 then some (c - 87) else none
def hexGo : List UInt8 → Nat → Option Nat
 | [], n => some n
 | c :: l, n => match hexd c.toNat with
  | none => none
  | some d => hexGo l ((n * 16 + d) % 18446744073709551616)
def parseL (l : List UInt8) : Option Nat :=
 if 3 ≤ l.length ∧ l.length ≤ 18 ∧ l.take 2 = [48, 120] ∧ ¬ (l.getD 2 0 = 48 ∧ 3 < l.length) then hexGo (l.drop 2) 0 else none
theorem hexd_lt {c d : Nat} (h : hexd c = some d) : d < 16 := by
 unfold hexd at h
 split at h
 · simp at h; omega
 · split at h
   · simp at h; omega
   · simp at h
theorem hexGo_lt (l : List UInt8) : ∀ n r, n < 18446744073709551616 → hexGo l n = some r → r < 18446744073709551616 := by
 induction l with
 | nil => intro n r hn h; simp [hexGo] at h; omega
 | cons c l ih =>
  intro n r hn h
  simp only [hexGo] at h
  split at h
  · simp at h
  · exact ih _ _ (Nat.mod_lt _ (by omega)) h
theorem parseL_lt {l : List UInt8} {r : Nat} (h : parseL l = some r) : r < 18446744073709551616 := by
 unfold parseL at h
 split at h
 · exact hexGo_lt _ _ _ (by omega) h
 · simp at h
theorem or_step (n d : Nat) (hd : d < 16) :
 bits .or .u64 (IntKind.u64.wrap ((n : Int) * 16)) (d : Int) = (((n * 16 + d) % 18446744073709551616 : Nat) : Int) := by
 have h1 : IntKind.u64.wrap ((n : Int) * 16) = ((n * 16 % 18446744073709551616 : Nat) : Int) := by
  rw [IntKind.wrap_u64]; omega
 rw [h1, u64_or_nat _ _ (by omega) (by omega)]
 have h2 : n * 16 % 18446744073709551616 ||| d = n * 16 % 18446744073709551616 + d := nat_join 4 _ _ (by omega) (by omega)
 rw [h2]
 have h3 : n * 16 % 18446744073709551616 + d = (n * 16 + d) % 18446744073709551616 := by omega
 rw [h3]
end Go.Proofs.Ytekpbgmmogpbdaa.H
set_option maxRecDepth 100000
namespace Go.Proofs.Ytekpbgmmogpbdaa.H
open Go.RowKit
def pRes : Option Nat → Value
 | some n => .tuple #[.int .u64 n, .int .i64 0]
 | none => .tuple #[.int .u64 0, .int .i64 2]
theorem toList_get (t : ByteArray) (pos : Nat) (h : pos < t.size) : t.data.toList.drop pos = (t[pos]'h) :: t.data.toList.drop (pos + 1) := by
 have h' : pos < t.data.toList.length := by simpa using h
 rw [List.drop_eq_getElem_cons h']
 rfl
theorem take2 (s : ByteArray) : (s.extract 0 2).toList = s.data.toList.take 2 := by
 rw [Lib.extract_toList]; rfl
theorem getD2 (s : ByteArray) (h : 2 < s.size) : s.data.toList.getD 2 0 = s[2] := by
 have h' : 2 < s.data.toList.length := by simpa using h
 rw [List.getD_eq_getElem?_getD, List.getElem?_eq_getElem h']
 rfl
theorem parse_short {s : ByteArray} (h : ¬ (3 ≤ s.size ∧ s.size ≤ 18)) : parseL s.data.toList = none := by
 unfold parseL
 rw [if_neg]
 rintro ⟨h1, h2, _⟩
 exact h ⟨by simpa using h1, by simpa using h2⟩
theorem parse_head {s : ByteArray} (h : ¬ (s.extract 0 2).toList = [48, 120]) : parseL s.data.toList = none := by
 unfold parseL
 rw [if_neg]
 rintro ⟨_, _, h3, _⟩
 exact h (by rw [take2]; exact h3)
theorem parse_zero {s : ByteArray} (h2 : 2 < s.size) (h : ((s[2]'h2).toNat : Int) = 48) (h3 : 3 < s.size) : parseL s.data.toList = none := by
 unfold parseL
 rw [if_neg]
 rintro ⟨_, _, _, h4⟩
 refine h4 ⟨?_, by simpa using h3⟩
 rw [getD2 s h2]
 apply UInt8.toNat_inj.mp
 have : (s[2]'h2).toNat = 48 := by omega
 simpa using this
theorem parse_go {s : ByteArray} (h1 : 3 ≤ s.size) (h18 : s.size ≤ 18) (hx : (s.extract 0 2).toList = [48, 120]) (h : ¬ (((s[2]'(by omega)).toNat : Int) = 48 ∧ 3 < s.size)) :
 parseL s.data.toList = hexGo (s.extract 2 s.size).data.toList 0 := by
 unfold parseL
 rw [if_pos]
 · rw [Lib.extract_data]
   congr 1
   rw [List.take_of_length_le]
   simp
 · refine ⟨by simpa using h1, by simpa using h18, by rw [← take2]; exact hx, ?_⟩
   rintro ⟨h4, h5⟩
   refine h ⟨?_, by simpa using h5⟩
   rw [getD2 s (by omega)] at h4
   rw [h4]; rfl
theorem go_digit {t : ByteArray} {pos n c d : Nat} {l : Option Nat} (h : pos < t.size) (hc : (t[pos]'h).toNat = c) (hd : hexd c = some d) (hg : hexGo (t.data.toList.drop pos) n = l) :
 hexGo (t.data.toList.drop (pos + 1)) ((n * 16 + d) % 18446744073709551616) = l := by
 rw [toList_get t pos h] at hg
 simp only [hexGo, hc, hd] at hg
 exact hg
theorem go_none {t : ByteArray} {pos n c : Nat} {l : Option Nat} (h : pos < t.size) (hc : (t[pos]'h).toNat = c) (hd : hexd c = none) (hg : hexGo (t.data.toList.drop pos) n = l) :
 l = none := by
 rw [toList_get t pos h] at hg
 simp only [hexGo, hc, hd] at hg
 exact hg.symm
theorem go_end {t : ByteArray} {pos n : Nat} {l : Option Nat} (h : ¬ pos < t.size) (hg : hexGo (t.data.toList.drop pos) n = l) :
 l = some n := by
 rw [List.drop_eq_nil_of_le (by have : t.data.toList.length = t.size := by simp
                                omega)] at hg
 exact hg.symm
def ParseEnd (l : Option Nat) (e : Ending) : Prop := e = .returned (pRes l)
theorem ParseEnd.no {l : Option Nat} (h : l = none) : ParseEnd l (.returned (.tuple #[.int .u64 0, .int .i64 2])) := by subst h; rfl
theorem ParseEnd.yes {l : Option Nat} {n : Nat} (h : l = some n) : ParseEnd l (.returned (.tuple #[.int .u64 n, .int .i64 0])) := by subst h; rfl
def Rel (w : World) (t : ByteArray) (l : Option Nat) (v : Value) (wr : World) : Prop :=
 ∃ pos n : Nat, wr = w.iter t pos ∧ v = .int .u64 n ∧ pos ≤ t.size ∧ n < 18446744073709551616 ∧ hexGo (t.data.toList.drop pos) n = l
theorem Rel.digit {w : World} {t : ByteArray} {l : Option Nat} {pos n c d : Nat} {x : Int} (h : pos < t.size) (hn : n < 18446744073709551616) (hc : (t[pos]'h).toNat = c)
 (hd : hexd c = some d) (hx : x = d) (hg : hexGo (t.data.toList.drop pos) n = l) :
 Rel w t l (.int .u64 (bits .or .u64 (IntKind.u64.wrap ((n : Int) * 16)) x)) (w.iter t (pos + 1)) := by
 subst hx
 rw [or_step n d (hexd_lt hd)]
 exact ⟨pos + 1, _, rfl, rfl, by omega, Nat.mod_lt _ (by omega), go_digit h hc hd hg⟩
theorem iter_below (w : World) (t : ByteArray) (p : Nat) : Below w.heap.size w (w.iter t p) := by
 unfold World.iter
 exact (Below.refl _ _).alloc (Nat.le_refl _) _
set_option maxHeartbeats 1000000 in
theorem parse_walk (s : ByteArray) (w : World) :
 Calls Try.prog 62 #[.string s] w fun e w' => ParseEnd (parseL s.data.toList) e ∧ Below w.heap.size w w' := by
 by_cases h0 : 3 ≤ s.size ∧ s.size ≤ 18
 rotate_left
 · have HP := Lib.hid (parse_short h0)
   by_cases h1 : s.size < 3
   · go_enter Try.func62, Try.ntmps62
     go_wp2
     go_ret2
     exact ⟨ParseEnd.no HP.out, Below.refl _ _⟩
   have h3 : 18 < s.size := by omega
   clear h0
   go_enter Try.func62, Try.ntmps62
   go_wp2
   go_ret2
   exact ⟨ParseEnd.no HP.out, Below.refl _ _⟩
 obtain ⟨h1, h18⟩ := h0
 by_cases hx : (s.extract 0 2).toList = [48, 120]
 rotate_left
 · have HP := Lib.hid (parse_head hx)
   go_enter Try.func62, Try.ntmps62
   go_wp2
   go_ret2
   exact ⟨ParseEnd.no HP.out, Below.refl _ _⟩
 obtain ⟨l, hl⟩ : ∃ l, parseL s.data.toList = l := ⟨_, rfl⟩
 rw [hl]
 obtain ⟨t, ht⟩ : ∃ t, s.extract 2 s.size = t := ⟨_, rfl⟩
 have HT := Lib.hid ht
 have h2 : 2 < s.size := by omega
 have Hz := Lib.hid (fun (h : ((s[2]'h2).toNat : Int) = 48) (h3 : 3 < s.size) => (hl.symm.trans (parse_zero h2 h h3)))
 have Hg := Lib.hid (fun (h : ¬ (((s[2]'h2).toNat : Int) = 48 ∧ 3 < s.size)) => (parse_go h1 h18 hx h).symm.trans hl)
 clear hl
 go_enter Try.func62, Try.ntmps62
 go_wp2_with fail
 · have h48 : ((s[2]'h2).toNat : Int) = 48 := by assumption
   go_ret2
   exact ⟨ParseEnd.no (Hz.out h48 (by omega)), Below.refl _ _⟩
 all_goals
  clear ht
  have hg0 : hexGo t.data.toList 0 = l := by
   have q := Hg.out (by first | (rintro ⟨_, _⟩; omega) | (rintro ⟨q, _⟩; exact absurd q ‹_›))
   rw [HT.out] at q; exact q
  have HG0 := Lib.hid hg0
  clear hg0 Hz Hg
  go_loopw [4] (fun v wr => Rel w t l v wr) (fun _ wr => t.size - wr.iterPos w.heap.size)
  case atStart => exact ⟨0, 0, rfl, rfl, by omega, by omega, HG0.out⟩
  case round =>
   obtain ⟨pos, n, rfl, rfl, hp, hn, hg⟩ := hrel
   have HG := Lib.hid hg
   clear hg
   by_cases hlt : pos < t.size
   rotate_left
   · have hnx : ∀ ty, (Instr.next (.pointer (some ⟨w.heap.size, 0, none⟩)) true ty).run Try.prog (w.iter t pos) = _ := fun ty => run_next_end w t pos ty hlt
     go_wp2
     go_ret2
     exact ⟨ParseEnd.yes (go_end hlt HG.out), iter_below _ _ _⟩
   by_cases ha : (t[pos]'hlt).toNat < 128
   rotate_left
   · have hnx : ∀ ty, (Instr.next (.pointer (some ⟨w.heap.size, 0, none⟩)) true ty).run Try.prog (w.iter t pos) = _ := fun ty => run_next_any w t pos ty hlt
     have hb := decode_high t pos hlt (by omega)
     have hle := decode_le t pos
     have HN := Lib.hid (go_none (c := (t[pos]'hlt).toNat) hlt rfl (by unfold hexd; rw [if_neg (by omega), if_neg (by omega)]) HG.out)
     clear ha
     generalize (Utf8.decode t pos).1 = c at *
     generalize (Utf8.decode t pos).2 = p2 at *
     go_wp2
     all_goals
      go_ret2
      exact ⟨ParseEnd.no HN.out, iter_below _ _ _⟩
   have hnx : ∀ ty, (Instr.next (.pointer (some ⟨w.heap.size, 0, none⟩)) true ty).run Try.prog (w.iter t pos) = _ := fun ty => run_next_ascii w t pos ty hlt ha
   obtain ⟨c, hc⟩ : ∃ c, (t[pos]'hlt).toNat = c := ⟨_, rfl⟩
   rw [hc] at hnx
   have HC := Lib.hid hc
   clear hc ha
   go_wp2
   · go_roundw
     case rel => exact Rel.digit hlt hn HC.out (d := c - 48) (by unfold hexd; rw [if_pos ⟨by omega, by omega⟩]) (by omega) HG.out
     case measure => simp; omega
   · go_roundw
     case rel => exact Rel.digit hlt hn HC.out (d := c - 87) (by unfold hexd; rw [if_neg (by omega), if_pos ⟨by omega, by omega⟩]) (by omega) HG.out
     case measure => simp; omega
   all_goals
    go_ret2
    exact ⟨ParseEnd.no (go_none hlt HC.out (by unfold hexd; rw [if_neg (by omega), if_neg (by omega)]) HG.out), iter_below _ _ _⟩
end Go.Proofs.Ytekpbgmmogpbdaa.H
set_option maxRecDepth 100000
namespace Go.Proofs.Ytekpbgmmogpbdaa.H
open Go.RowKit Go.Proofs.YtekpbgmmogpbdaaW.PrintWords
def hexc (d : Nat) : Nat := if d < 10 then 48 + d else 87 + d
theorem dig_0 (w : World) : (Instr.index 9 (.string ⟨#[48, 49, 50, 51, 52, 53, 54, 55, 56, 57, 97, 98, 99, 100, 101, 102]⟩) (.int .u64 ((0 : Nat) : Int))).run Try.prog w = .ok (.int .u8 ((hexc 0 : Nat) : Int)) w := by kernel_rfl
theorem dig_1 (w : World) : (Instr.index 9 (.string ⟨#[48, 49, 50, 51, 52, 53, 54, 55, 56, 57, 97, 98, 99, 100, 101, 102]⟩) (.int .u64 ((1 : Nat) : Int))).run Try.prog w = .ok (.int .u8 ((hexc 1 : Nat) : Int)) w := by kernel_rfl
theorem dig_2 (w : World) : (Instr.index 9 (.string ⟨#[48, 49, 50, 51, 52, 53, 54, 55, 56, 57, 97, 98, 99, 100, 101, 102]⟩) (.int .u64 ((2 : Nat) : Int))).run Try.prog w = .ok (.int .u8 ((hexc 2 : Nat) : Int)) w := by kernel_rfl
theorem dig_3 (w : World) : (Instr.index 9 (.string ⟨#[48, 49, 50, 51, 52, 53, 54, 55, 56, 57, 97, 98, 99, 100, 101, 102]⟩) (.int .u64 ((3 : Nat) : Int))).run Try.prog w = .ok (.int .u8 ((hexc 3 : Nat) : Int)) w := by kernel_rfl
theorem dig_4 (w : World) : (Instr.index 9 (.string ⟨#[48, 49, 50, 51, 52, 53, 54, 55, 56, 57, 97, 98, 99, 100, 101, 102]⟩) (.int .u64 ((4 : Nat) : Int))).run Try.prog w = .ok (.int .u8 ((hexc 4 : Nat) : Int)) w := by kernel_rfl
theorem dig_5 (w : World) : (Instr.index 9 (.string ⟨#[48, 49, 50, 51, 52, 53, 54, 55, 56, 57, 97, 98, 99, 100, 101, 102]⟩) (.int .u64 ((5 : Nat) : Int))).run Try.prog w = .ok (.int .u8 ((hexc 5 : Nat) : Int)) w := by kernel_rfl
theorem dig_6 (w : World) : (Instr.index 9 (.string ⟨#[48, 49, 50, 51, 52, 53, 54, 55, 56, 57, 97, 98, 99, 100, 101, 102]⟩) (.int .u64 ((6 : Nat) : Int))).run Try.prog w = .ok (.int .u8 ((hexc 6 : Nat) : Int)) w := by kernel_rfl
theorem dig_7 (w : World) : (Instr.index 9 (.string ⟨#[48, 49, 50, 51, 52, 53, 54, 55, 56, 57, 97, 98, 99, 100, 101, 102]⟩) (.int .u64 ((7 : Nat) : Int))).run Try.prog w = .ok (.int .u8 ((hexc 7 : Nat) : Int)) w := by kernel_rfl
theorem dig_8 (w : World) : (Instr.index 9 (.string ⟨#[48, 49, 50, 51, 52, 53, 54, 55, 56, 57, 97, 98, 99, 100, 101, 102]⟩) (.int .u64 ((8 : Nat) : Int))).run Try.prog w = .ok (.int .u8 ((hexc 8 : Nat) : Int)) w := by kernel_rfl
theorem dig_9 (w : World) : (Instr.index 9 (.string ⟨#[48, 49, 50, 51, 52, 53, 54, 55, 56, 57, 97, 98, 99, 100, 101, 102]⟩) (.int .u64 ((9 : Nat) : Int))).run Try.prog w = .ok (.int .u8 ((hexc 9 : Nat) : Int)) w := by kernel_rfl
theorem dig_10 (w : World) : (Instr.index 9 (.string ⟨#[48, 49, 50, 51, 52, 53, 54, 55, 56, 57, 97, 98, 99, 100, 101, 102]⟩) (.int .u64 ((10 : Nat) : Int))).run Try.prog w = .ok (.int .u8 ((hexc 10 : Nat) : Int)) w := by kernel_rfl
theorem dig_11 (w : World) : (Instr.index 9 (.string ⟨#[48, 49, 50, 51, 52, 53, 54, 55, 56, 57, 97, 98, 99, 100, 101, 102]⟩) (.int .u64 ((11 : Nat) : Int))).run Try.prog w = .ok (.int .u8 ((hexc 11 : Nat) : Int)) w := by kernel_rfl
theorem dig_12 (w : World) : (Instr.index 9 (.string ⟨#[48, 49, 50, 51, 52, 53, 54, 55, 56, 57, 97, 98, 99, 100, 101, 102]⟩) (.int .u64 ((12 : Nat) : Int))).run Try.prog w = .ok (.int .u8 ((hexc 12 : Nat) : Int)) w := by kernel_rfl
theorem dig_13 (w : World) : (Instr.index 9 (.string ⟨#[48, 49, 50, 51, 52, 53, 54, 55, 56, 57, 97, 98, 99, 100, 101, 102]⟩) (.int .u64 ((13 : Nat) : Int))).run Try.prog w = .ok (.int .u8 ((hexc 13 : Nat) : Int)) w := by kernel_rfl
theorem dig_14 (w : World) : (Instr.index 9 (.string ⟨#[48, 49, 50, 51, 52, 53, 54, 55, 56, 57, 97, 98, 99, 100, 101, 102]⟩) (.int .u64 ((14 : Nat) : Int))).run Try.prog w = .ok (.int .u8 ((hexc 14 : Nat) : Int)) w := by kernel_rfl
theorem dig_15 (w : World) : (Instr.index 9 (.string ⟨#[48, 49, 50, 51, 52, 53, 54, 55, 56, 57, 97, 98, 99, 100, 101, 102]⟩) (.int .u64 ((15 : Nat) : Int))).run Try.prog w = .ok (.int .u8 ((hexc 15 : Nat) : Int)) w := by kernel_rfl
theorem dig_index (d : Nat) (h : d < 16) (w : World) :
 (Instr.index 9 (.string ⟨#[48, 49, 50, 51, 52, 53, 54, 55, 56, 57, 97, 98, 99, 100, 101, 102]⟩) (.int .u64 (d : Int))).run Try.prog w = .ok (.int .u8 ((hexc d : Nat) : Int)) w := by
 have hd : d = 0 ∨ d = 1 ∨ d = 2 ∨ d = 3 ∨ d = 4 ∨ d = 5 ∨ d = 6 ∨ d = 7 ∨ d = 8 ∨ d = 9 ∨ d = 10 ∨ d = 11 ∨ d = 12 ∨ d = 13 ∨ d = 14 ∨ d = 15 := by omega
 rcases hd with rfl | rfl | rfl | rfl | rfl | rfl | rfl | rfl | rfl | rfl | rfl | rfl | rfl | rfl | rfl | rfl
 · exact dig_0 w
 · exact dig_1 w
 · exact dig_2 w
 · exact dig_3 w
 · exact dig_4 w
 · exact dig_5 w
 · exact dig_6 w
 · exact dig_7 w
 · exact dig_8 w
 · exact dig_9 w
 · exact dig_10 w
 · exact dig_11 w
 · exact dig_12 w
 · exact dig_13 w
 · exact dig_14 w
 · exact dig_15 w
def TRow (B : Nat) (w : World) (v : Value) (xs : List Int) : Prop :=
 w.ownsRow B 5 1 v xs.length (nums .u8 xs) ∨
  ∃ g, B ≤ g ∧ g < w.heap.size ∧ xs.length ≤ 9223372036854775807 ∧ v = .slice (some ⟨g, 0, none⟩) xs.length xs.length ∧ ∀ j u, (nums .u8 xs)[j]? = some u → w.cell? ((⟨g, 0, none⟩ : Addr).add j) = some u
theorem TRow.below {B : Nat} {w w' : World} {v : Value} {xs : List Int} (h : TRow B w v xs) (hb : Below w.heap.size w w') : TRow B w' v xs := by
 rcases h with h | ⟨g, h1, h2, hm, h3, h4⟩
 · exact .inl (own_move h fun k hk => hb.block k (own_lt h k hk))
 · exact .inr ⟨g, h1, by have := hb.size; omega, hm, h3, fun j u hu => pw_cell_below hb (h4 j u hu)⟩
theorem Try.info8 : (Try.prog.info? 5).map (fun i => (i.zero, i.size, i.bytes)) = some (some (.int .u8 0), 1, 1) := by kernel_rfl
theorem wpList_tappend {ops : Array Oper} {rest : List Oper} {o : Oper} {a : Act} {w : World} {Q : Exit → Act → World → Prop} (hg : o.guard = none) (s x : Operand)
 (ho : o.op = .call { callee := .builtin .append, args := #[s, x], argTypes := #[101, 101] })
 (B : Nat) (v : Value) (xs : List Int) (hs : a.eval s = v) (hr : TRow B w v xs) (hB : B ≤ w.heap.size) (hl : xs.length < 140737488355328) (ad : Addr) (c : Nat) (b : Int)
 (hx : a.eval x = .slice (some ad) 1 c) (hnew : ∀ j u, ([.int .u8 b] : List Value)[j]? = some u → w.cell? (ad.add j) = some u)
 (h : ∀ v' w', w'.ownsRow B 5 1 v' (xs ++ [b]).length (nums .u8 (xs ++ [b])) → Below B w w' → wpList Try.prog ops Q rest (a.put o.dst v') w') :
 wpList Try.prog ops Q (o :: rest) a w := by
 obtain ⟨i0, hi, hz0, hz1, hz2⟩ := info_parts Try.info8
 have e1 : (xs ++ [b]).length = xs.length + 1 := by simp
 have e2 : nums .u8 (xs ++ [b]) = nums .u8 xs ++ [.int .u8 b] := by simp [nums]
 rcases hr with hr | ⟨g, h1, h2, hm, h3, h4⟩
 · refine wpList_append_own _ hg s x 101 ho B 5 i0 (.int .u8 0) 1 1 Try.underlying101 hi hz0 hz1 hz2 rfl (by decide) v _ _ hs hr ad 1 c [.int .u8 b] hx rfl hnew (by simp [Value.oneCell']) (by unfold maxLen; omega) (by omega) hB ?_
   intro v' w' o1 g1 _
   rw [← e1, ← e2] at o1
   exact h v' w' o1 ((Below.refl _ _).grown g1 hB (own_base hr))
 · subst h3
   refine wpList_append_grows _ hg s x 101 ho 5 i0 (.int .u8 0) 1 1 Try.underlying101 hi hz0 hz1 hz2 rfl (by decide) (some ⟨g, 0, none⟩) _ _ (nums .u8 xs) hs (by simp) (by simp [nums]) (fun b' hb' => by cases hb'; exact h4) ad 1 c [.int .u8 b] hx rfl hnew (by simp [Value.oneCell']) (by omega) (by unfold maxLen; omega) (by omega) ?_
   intro v' w' o1 g1
   rw [← e1, ← e2] at o1
   exact h v' w' (own_weaken o1 hB) ((Below.refl _ _).grown g1 hB (by simp))
def textGo (n : Nat) : Nat → Bool → List Int → List Int
 | 0, _, acc => acc
 | j + 1, b, acc => if (b || decide (0 < n / 16 ^ j % 16) || decide (j = 0)) = true then textGo n j true (acc ++ [((hexc (n / 16 ^ j % 16) : Nat) : Int)]) else textGo n j false acc
def TRel (w : World) (n : Nat) (L : List Int) (v3 v4 v5 : Value) (wr : World) : Prop :=
 ∃ (k : Nat) (m : Int) (b : Bool) (xs : List Int), TRow w.heap.size wr v3 xs ∧ v4 = .bool b ∧ v5 = .int .i64 m ∧ m = 4 * (k : Int) - 4 ∧ k ≤ 16 ∧ xs.length + k ≤ 18 ∧ textGo n k b xs = L ∧ Below w.heap.size w wr
theorem pow16 (j : Nat) : 2 ^ (4 * j) = 16 ^ j := by rw [Nat.pow_mul]
theorem nib (n j : Nat) (hn : n < 18446744073709551616) (hj : j ≤ 15) (m : Int) (hm : m = 4 * (j : Int)) :
 bits .and .u64 ((n : Int) / 2 ^ m.toNat) 15 = ((n / 16 ^ j % 16 : Nat) : Int) := by
 have e : m.toNat = 4 * j := by omega
 have h2 : ((n : Int) / 2 ^ m.toNat) = ((n / 16 ^ j : Nat) : Int) := by
  rw [e, ← pow16, Int.natCast_ediv]
  congr 1
 have hle : n / 16 ^ j ≤ n := Nat.div_le_self _ _
 rw [h2, show (15 : Int) = ((15 : Nat) : Int) from rfl, u64_and_nat _ _ (by omega) (by omega), nat_mask4]
theorem go_add {n j d : Nat} {b : Bool} {xs L : List Int} (h : textGo n (j + 1) b xs = L) (hd : n / 16 ^ j % 16 = d) (hc : b = true ∨ 0 < d ∨ j = 0) :
 textGo n j true (xs ++ [((hexc d : Nat) : Int)]) = L := by
 simp only [textGo, hd] at h
 rw [if_pos (by simp; rcases hc with hc | hc | hc <;> simp [hc])] at h
 exact h
theorem go_pass {n j d : Nat} {b : Bool} {xs L : List Int} (h : textGo n (j + 1) b xs = L) (hd : n / 16 ^ j % 16 = d) (hb : b = false) (h0 : d = 0) (hj : ¬ j = 0) :
 textGo n j false xs = L := by
 simp only [textGo, hd] at h
 rw [if_neg (by simp [hb, h0, hj])] at h
 exact h
theorem TRow.string {B : Nat} {w : World} {v : Value} {xs : List Int} (h : TRow B w v xs) : (convert 101 9 v).run Try.prog w = .ok (.string (strOfNums xs)) w := by
 rcases h with h | ⟨g, h1, h2, hm, h3, h4⟩
 · exact own_string Try.underlying101 Try.underlying5 Try.underlying9 h
 · subst h3
   refine string_of_reads Try.underlying101 Try.underlying5 Try.underlying9 ⟨rfl, hm, fun hp => ⟨_, rfl, fun j hj => h4 j _ ?_⟩⟩
   simp [nums, List.getElem?_eq_getElem hj, List.getD_eq_getElem?_getD]
set_option maxHeartbeats 1000000 in
theorem text_walk (n : Nat) (hn : n < 18446744073709551616) (w : World) :
 Calls Try.prog 53 #[.int .u64 n] w fun e w' => e = .returned (.string (strOfNums (textGo n 16 false [48, 120]))) ∧ Below w.heap.size w w' := by
 have kc := fun (w : World) (C : Array Value) (n c : Nat) => Lib.run_convert_bytes_const (P := Try.prog) w 101 5 C n c Try.underlying101 Try.underlying5
 obtain ⟨L, hL⟩ : ∃ L, textGo n 16 false [48, 120] = L := ⟨_, rfl⟩
 rw [hL]
 have HL := Lib.hid hL
 clear hL
 go_enter Try.func53, Try.ntmps53
 go_wp2
 clear kc
 go_loopw [3, 4, 5] (fun v3 v4 v5 wr => TRel w n L v3 v4 v5 wr) (fun _ _ i _ => (intOf i + 4).toNat)
 case atStart =>
  refine ⟨16, 60, false, [48, 120], .inr ⟨w.heap.size, Nat.le_refl _, by simp, by simp, rfl, ?_⟩, rfl, rfl, by omega, by omega, by simp, HL.out, (Below.refl _ _).alloc (Nat.le_refl _) _⟩
  intro j u hu
  match j, hu with
  | 0, hu => simp [nums] at hu; subst hu; exact World.cell?_alloc_mark _ _ _ _ 0
  | 1, hu => simp [nums] at hu; subst hu; exact World.cell?_alloc_mark _ _ _ _ 1
  | j + 2, hu => simp [nums] at hu
 case round =>
  obtain ⟨k, m, b, xs, hrow, rfl, rfl, hm, hk, hlen, hgo, hb⟩ := hrel
  have HBW := Lib.hid hb
  clear hb
  by_cases h0 : 0 ≤ m
  rotate_left
  · obtain rfl : k = 0 := by omega
    have hst := hrow.string
    have HG := Lib.hid hgo
    clear hgo hrow hm
    go_wp2
    go_ret
    exact ⟨by rw [← HG.out]; rfl, HBW.out⟩
  have h60 : m ≤ 60 := by omega
  obtain ⟨j, rfl⟩ : ∃ j, k = j + 1 := ⟨k - 1, by omega⟩
  have hj : j ≤ 15 := by omega
  have hd := nib n j hn hj m (by omega)
  obtain ⟨d, hde⟩ : ∃ d, n / 16 ^ j % 16 = d := ⟨_, rfl⟩
  have hd16 : d < 16 := by omega
  rw [hde] at hd
  have hix := fun w => dig_index d hd16 w
  have HD := Lib.hid hde
  have HM := Lib.hid hm
  have HG := Lib.hid hgo
  have HR := Lib.hid hrow
  have HH := Lib.hid hlen
  clear hm hgo hrow hde hlen hk
  cases b with
  | true =>
   go_wp2_with (at_builtin; go_must (refine wpList_tappend rfl (.tmp 27) (.tmp 30) rfl w.heap.size _ xs rfl (HR.out.below (Below.alloc (Below.refl _ _) (Nat.le_refl _) _)) (by have := HBW.out.size; simp; omega) (by have := HH.out; omega) ⟨wr.heap.size, 0, none⟩ 1 ((hexc d : Nat) : Int) rfl (cell_one_new _ _ _) ?_); intro v' w1 ho hb1; have HO := Lib.hid ho; have HB1 := Lib.hid hb1; clear ho hb1)
   go_roundw
   case rel => exact ⟨j, m - 4, true, _, .inl HO.out, rfl, rfl, by have := HM.out; omega, by omega, by have := HH.out; simp; omega, go_add HG.out HD.out (.inl rfl), HBW.out.trans ((Below.alloc (Below.refl _ _) HBW.out.size _).trans HB1.out)⟩
   case measure => simp [intOf]; omega
  | false =>
   by_cases hd0 : 0 < d
   · go_wp2_with (at_builtin; go_must (refine wpList_tappend rfl (.tmp 27) (.tmp 30) rfl w.heap.size _ xs rfl (HR.out.below (Below.alloc (Below.refl _ _) (Nat.le_refl _) _)) (by have := HBW.out.size; simp; omega) (by have := HH.out; omega) ⟨wr.heap.size, 0, none⟩ 1 ((hexc d : Nat) : Int) rfl (cell_one_new _ _ _) ?_); intro v' w1 ho hb1; have HO := Lib.hid ho; have HB1 := Lib.hid hb1; clear ho hb1)
     go_roundw
     case rel => exact ⟨j, m - 4, true, _, .inl HO.out, rfl, rfl, by have := HM.out; omega, by omega, by have := HH.out; simp; omega, go_add HG.out HD.out (.inr (.inl hd0)), HBW.out.trans ((Below.alloc (Below.refl _ _) HBW.out.size _).trans HB1.out)⟩
     case measure => simp [intOf]; omega
   obtain rfl : d = 0 := by omega
   clear hd0 hd16
   replace hd : bits .and .u64 ((n : Int) / 2 ^ m.toNat) 15 = 0 := hd
   replace hix : ∀ w, (Instr.index 9 (.string ⟨#[48, 49, 50, 51, 52, 53, 54, 55, 56, 57, 97, 98, 99, 100, 101, 102]⟩) (.int .u64 0)).run Try.prog w = .ok (.int .u8 ((hexc 0 : Nat) : Int)) w := hix
   by_cases hm0 : m = 0
   rotate_left
   · have hm1 : (m == 0) = false := by simpa using hm0
     go_wp2
     go_roundw
     case rel => exact ⟨j, m - 4, false, xs, HR.out, rfl, rfl, by have := HM.out; omega, by omega, by have := HH.out; omega, go_pass HG.out HD.out rfl rfl (by have := HM.out; omega), HBW.out⟩
     case measure => simp [intOf]; omega
   have hm1 : (m == 0) = true := by simpa using hm0
   have HM0 := Lib.hid hm0
   clear hm0
   go_wp2_with (at_builtin; go_must (refine wpList_tappend rfl (.tmp 27) (.tmp 30) rfl w.heap.size _ xs rfl (HR.out.below (Below.alloc (Below.refl _ _) (Nat.le_refl _) _)) (by have := HBW.out.size; simp; omega) (by have := HH.out; omega) ⟨wr.heap.size, 0, none⟩ 1 ((hexc 0 : Nat) : Int) rfl (cell_one_new _ _ _) ?_); intro v' w1 ho hb1; have HO := Lib.hid ho; have HB1 := Lib.hid hb1; clear ho hb1)
   go_roundw
   case rel => exact ⟨j, m - 4, true, _, .inl HO.out, rfl, rfl, by have := HM.out; omega, by omega, by have := HH.out; simp; omega, go_add HG.out HD.out (.inr (.inr (by have := HM.out; have := HM0.out; omega))), HBW.out.trans ((Below.alloc (Below.refl _ _) HBW.out.size _).trans HB1.out)⟩
   case measure => simp [intOf]; omega
end Go.Proofs.Ytekpbgmmogpbdaa.H
set_option maxRecDepth 100000
namespace Go.Proofs.Ytekpbgmmogpbdaa.H
open Go.RowKit Go.Proofs.YtekpbgmmogpbdaaW.PrintWords Go.Instr
abbrev NL := List (ByteArray × Int)
def ents : NL → Nat → List MapEntry
 | [], _ => []
 | (k, v) :: l, i => { key := .string k, val := .int .u32 v, born := i } :: ents l (i + 1)
def entries (l : NL) : Array MapEntry := (ents l 0).toArray
theorem ents_born (l : NL) : ∀ i, ∀ x ∈ ents l i, i ≤ x.born ∧ x.born < i + l.length := by
 induction l with
 | nil => intro i x h; simp [ents] at h
 | cons a l ih =>
  intro i x h
  simp [ents] at h
  rcases h with rfl | h
  · simp
  · have := ih (i + 1) x h; simp; omega
theorem ents_nodup (l : NL) : ∀ i, ((ents l i).map (·.born)).Nodup := by
 induction l with
 | nil => intro i; simp [ents]
 | cons a l ih =>
  intro i
  simp only [ents, List.map_cons, List.nodup_cons]
  refine ⟨?_, ih (i + 1)⟩
  intro h
  obtain ⟨x, hx, he⟩ := List.mem_map.1 h
  have := ents_born l (i + 1) x hx
  omega
theorem ents_mem (l : NL) : ∀ i, ∀ x ∈ ents l i, ∃ p ∈ l, x.key = .string p.1 ∧ x.val = .int .u32 p.2 := by
 induction l with
 | nil => intro i x h; simp [ents] at h
 | cons a l ih =>
  intro i x h
  simp [ents] at h
  rcases h with rfl | h
  · exact ⟨a, by simp, rfl, rfl⟩
  · obtain ⟨p, hp, h1⟩ := ih (i + 1) x h
    exact ⟨p, List.mem_cons_of_mem _ hp, h1⟩
theorem ents_back (l : NL) : ∀ i, ∀ p ∈ l, ∃ x ∈ ents l i, x.key = .string p.1 ∧ x.val = .int .u32 p.2 := by
 induction l with
 | nil => intro i p h; cases h
 | cons a l ih =>
  intro i p h
  rcases List.mem_cons.1 h with rfl | h
  · exact ⟨_, List.mem_cons_self .., rfl, rfl⟩
  · obtain ⟨x, hx, h1⟩ := ih (i + 1) p h
    exact ⟨x, List.mem_cons_of_mem _ hx, h1⟩
def HasMap (w : World) (m : Value) (l : NL) : Prop :=
 (m = .map none ∧ l = []) ∨ ∃ g, m = .map (some g) ∧ w.heap[g]? = some (.map (entries l) l.length)
theorem HasMap.below {w w' : World} {m : Value} {l : NL} (h : HasMap w m l) (hb : Below w.heap.size w w') : HasMap w' m l := by
 rcases h with h | ⟨g, h1, h2⟩
 · exact .inl h
 · refine .inr ⟨g, h1, ?_⟩
   rw [hb.block g (Array.getElem?_eq_some_iff.1 h2).1]; exact h2
def nameOf (l : NL) (n : Int) : ByteArray := match l.find? (fun p => p.2 == n) with | some p => p.1 | none => ⟨#[]⟩
def numOf (l : NL) (s : ByteArray) : Option Int := match l.find? (fun p => s == p.1) with | some p => some p.2 | none => none
def Uniq (l : NL) : Prop := ∀ p ∈ l, ∀ q ∈ l, p.2 = q.2 → p.1 = q.1
theorem nameOf_hit {l : NL} (hu : Uniq l) {p : ByteArray × Int} (hp : p ∈ l) : nameOf l p.2 = p.1 := by
 unfold nameOf
 cases h : l.find? (fun q => q.2 == p.2) with
 | none =>
  have := List.find?_eq_none.1 h p hp
  simp at this
 | some q =>
  have h1 := List.find?_some h
  have h2 := List.mem_of_find?_eq_some h
  exact hu q h2 p hp (by simpa using h1)
theorem nameOf_miss {l : NL} {n : Int} (h : ∀ p ∈ l, p.2 ≠ n) : nameOf l n = ⟨#[]⟩ := by
 unfold nameOf
 cases hf : l.find? (fun q => q.2 == n) with
 | none => rfl
 | some q =>
  have h1 := List.find?_some hf
  exact absurd (by simpa using h1) (h q (List.mem_of_find?_eq_some hf))
theorem findNow_ents (s : ByteArray) (l : NL) : ∀ i j, findNow .string (.string s) (ents l i) j = some ((l.find? (fun p => s == p.1)).map fun p => ((l.findIdx (fun p => s == p.1)) + j, .int .u32 p.2)) := by
 induction l with
 | nil => intro i j; rfl
 | cons a l ih =>
  intro i j
  simp only [ents, findNow, sameNow]
  cases h : (s == a.1) with
  | true => simp [List.find?_cons, List.findIdx_cons, h]
  | false => rw [ih]; simp [List.find?_cons, List.findIdx_cons, h]; congr 1; funext p; congr 1; omega
theorem ck (e : Bool) (s : ByteArray) (w : World) : (checkKey e 10000 9 (.string s)).run Try.prog w = .ok () w :=
 MapKept.run_checkKey Try.underlying9 (k := .string s) trivial e 9999
theorem fk {s : ByteArray} {es : List MapEntry} {a : Option (Nat × Value)} (h : findNow .string (.string s) es 0 = some a) (w : World) : (findKey 9 (.string s) es).run Try.prog w = .ok a w :=
 MapKept.run_findKey Try.underlying9 h
theorem run_lookup_has {w : World} {m : Value} {l : NL} (h : HasMap w m l) (s : ByteArray) :
 (lookup 82 m (.string s) true).run Try.prog w = .ok (.tuple #[.int .u32 ((numOf l s).getD 0), .bool (numOf l s).isSome]) w := by
 have hz : (zeroValue 23).run Try.prog w = .ok (.int .u32 0) w := by kernel_rfl
 have hf := findNow_ents s l 0 0
 have hfk := fk hf w
 rcases h with ⟨rfl, rfl⟩ | ⟨g, rfl, hg⟩
 · simp only [lookup, Sem.run_bind, run_underlying Try.underlying82, Result.andThen_ok, Sem.run_pure, ck]
   rw [fk (a := none) rfl w]
   simp only [Result.andThen_ok, Sem.run_bind, hz, Sem.run_pure]
   rfl
 · simp only [lookup, Sem.run_bind, run_underlying Try.underlying82, Result.andThen_ok, MapKept.run_getObj_map hg, Sem.run_pure, ck]
   have he : (entries l).toList = ents l 0 := by simp [entries]
   rw [he, hfk]
   unfold numOf
   cases hq : l.find? (fun p => s == p.1) with
   | none =>
    simp only [Result.andThen_ok, Sem.run_bind, hz, Sem.run_pure, Option.map_none]
    rfl
   | some p =>
    simp only [Result.andThen_ok, Sem.run_bind, Sem.run_pure, Option.map_some]
    rfl
theorem run_insert_new (w : World) (es : Array MapEntry) (c : Nat) (key : ByteArray) (v : Value) (hf : findNow .string (.string key) es.toList 0 = some none) :
 (mapUpdate 82 (.map (some w.heap.size)) (.string key) v).run Try.prog (w.alloc (.map es c)) = .ok () (w.alloc (.map (es.push { key := .string key, val := v, born := c }) (c + 1))) := by
 have hg : (w.alloc (.map es c)).heap[w.heap.size]? = some (.map es c) := heap_alloc_new w _
 have hfk := fk hf (w.alloc (.map es c))
 have hset : ((w.alloc (.map es c)).heap.setIfInBounds w.heap.size (.map (es.push { key := .string key, val := v, born := c }) (c + 1))) = (w.alloc (.map (es.push { key := .string key, val := v, born := c }) (c + 1))).heap := by
  show ((w.heap.push _).setIfInBounds w.heap.size _) = w.heap.push _
  apply Array.ext'
  simp [Array.setIfInBounds, Array.toList_push]
 simp only [mapUpdate, Sem.run_bind, run_underlying Try.underlying82, Result.andThen_ok, MapKept.run_getObj_map hg, ck, hfk, MapKept.run_setObj_map _ hg, hset]
 rfl
def intVal : Value → Int | .int _ n => n | _ => 0
set_option maxHeartbeats 1000000 in
set_option maxRecDepth 100000 in
theorem name_walk (l : NL) (hu : Uniq l) (m : Value) (want : Int) (w : World) (hm : HasMap w m l) :
 Calls Try.prog 51 #[m, .int .u32 want] w fun e w' => e = .returned (.string (nameOf l want)) ∧ Below w.heap.size w w' := by
 obtain ⟨R, hR⟩ : ∃ R, nameOf l want = R := ⟨_, rfl⟩
 have hmiss : (∀ p ∈ l, p.2 ≠ want) → R = ⟨#[]⟩ := fun h => by rw [← hR]; exact nameOf_miss h
 have hhit : ∀ p ∈ l, p.2 = want → R = p.1 := fun p hp h => by rw [← hR, ← h]; exact nameOf_hit hu hp
 rw [hR]
 clear hR
 rcases hm with ⟨rfl, rfl⟩ | ⟨bm, rfl, hb⟩
 · have hrr := hmiss (fun p hp => by cases hp)
   subst hrr
   clear hmiss hhit
   have hrg := run_range_nilMap (P := Try.prog) w 82 9 23 Try.underlying82
   have hnx : ∀ ty, (Instr.next (.pointer (some ⟨w.heap.size, 0, none⟩)) false ty).run Try.prog (w.alloc (.mapIter none 0 #[] 0)) = _ := fun ty => run_next_nilMap w ty 0 0 #[]
   go_enter Try.func51, Try.ntmps51
   go_wp2
   refine wp_loop_rounds 1 ?_
   rw [rounds_succ]
   go_wp2
   go_ret
   exact ⟨rfl, (Below.refl _ _).alloc (Nat.le_refl _) _⟩
 · have HMISS := Lib.hid hmiss
   have HHIT := Lib.hid hhit
   clear hmiss hhit
   have hrg := run_range_map (P := Try.prog) w 82 9 23 bm (entries l) l.length Try.underlying82 hb
   have hbt : ∀ x ∈ (entries l).toList, x.born < l.length := fun x hx => by
    have := ents_born l 0 x (by simpa [entries] using hx); omega
   have hnd : ((entries l).toList.map (·.born)).Nodup := by
    have := ents_nodup l 0; simpa [entries] using this
   have hkv : ∀ x ∈ (entries l).toList, ∃ p ∈ l, x.key = .string p.1 ∧ x.val = .int .u32 p.2 := fun x hx => ents_mem l 0 x (by simpa [entries] using hx)
   have hback : ∀ p ∈ l, ∃ x ∈ (entries l).toList, x.key = .string p.1 ∧ x.val = .int .u32 p.2 := fun p hp => by
    obtain ⟨x, hx, h1⟩ := ents_back l 0 p hp
    exact ⟨x, by simpa [entries] using hx, h1⟩
   generalize entries l = es at *
   generalize hcl : l.length = clock at *
   have HBT := Lib.hid hbt
   have HND := Lib.hid hnd
   have HKV := Lib.hid hkv
   have HBK := Lib.hid hback
   have HB := Lib.hid hb
   clear hbt hnd hkv hback hb hcl
   go_enter Try.func51, Try.ntmps51
   go_wp2
   clear hrg
   have hb0 := HB.out
   have hi0 : (w.alloc (.mapIter (some bm) clock #[] clock)).heap[w.heap.size]? = some (.mapIter (some bm) clock #[] clock) := heap_alloc_new w _
   have hB0 : Below w.heap.size w (w.alloc (.mapIter (some bm) clock #[] clock)) := (Below.refl _ _).alloc (Nat.le_refl _) _
   have HI0 := Lib.hid hi0
   have HB0 := Lib.hid hB0
   have hbl : bm < w.heap.size := (Array.getElem?_eq_some_iff.1 hb0).1
   clear hi0 hB0 hb0
   go_loopw [] (fun wr => ∃ seen : Array Nat, wr.heap[w.heap.size]? = some (.mapIter (some bm) clock seen clock) ∧ Below w.heap.size w wr ∧ ∀ x ∈ es.toList, seen.contains x.born = true → ¬ intVal x.val = want) (fun wr => (leftOf es (wr.iterSeen w.heap.size)).size)
   case atStart => exact ⟨#[], HI0.out, HB0.out, fun x _ h => by simp at h⟩
   case round =>
    obtain ⟨seen, hit, hbw, hno⟩ := hrel
    have hbm : wr.heap[bm]? = some (.map es clock) := (hbw.block bm hbl).trans HB.out
    have HIT := Lib.hid hit
    have HBW := Lib.hid hbw
    have HNO := Lib.hid hno
    have law := run_next_at (P := Try.prog) wr 0 w.heap.size bm clock clock seen es clock hit hbm HBT.out (Nat.le_refl _)
    clear hit hbw hno
    rcases law with ⟨h0, hrun⟩ | ⟨e, he, w1, hw1, hrun⟩
    · have hnx : ∀ ty, (Instr.next (.pointer (some ⟨w.heap.size, 0, none⟩)) false ty).run Try.prog wr = _ := fun _ => hrun
      have hrr := HMISS.out (fun p hp hpw => by
       obtain ⟨x, hx, hk, hv⟩ := HBK.out p hp
       refine HNO.out x hx (all_seen es seen h0 x hx) ?_
       rw [hv]; exact hpw)
      subst hrr
      clear h0 hrun hbm
      go_wp2
      go_ret
      exact ⟨rfl, HBW.out⟩
    · obtain ⟨p, hp, hk, hv⟩ := HKV.out e (mem_left he).1
      rw [hk, hv] at hrun
      have hit2 : w1.heap[w.heap.size]? = some (.mapIter (some bm) clock seen clock) := by rcases hw1 with rfl | rfl <;> exact HIT.out
      have hbw2 : Below w.heap.size w w1 := by
       rcases hw1 with rfl | rfl
       · exact HBW.out
       · exact HBW.out.drew
      obtain ⟨w2, hw2⟩ : ∃ w2, ChangeMaps.setBlock w1 w.heap.size (.mapIter (some bm) clock (seen.push e.born) clock) = w2 := ⟨_, rfl⟩
      have hit3 : w2.heap[w.heap.size]? = some (.mapIter (some bm) clock (seen.push e.born) clock) := by
       rw [← hw2]; exact (MapKept.heap_set hit2).1
      have hbw3 : Below w.heap.size w w2 := by
       rw [← hw2]
       refine ⟨hbw2.os, hbw2.tape, hbw2.output, ?_, fun k hk => ?_⟩
       · show w.heap.size ≤ (w1.heap.setIfInBounds _ _).size
         rw [Array.size_setIfInBounds]; exact hbw2.size
       · show (w1.heap.setIfInBounds _ _)[k]? = _
         rw [(MapKept.heap_set hit2).2 k (by omega)]; exact hbw2.block k hk
      rw [hw2] at hrun
      have hbm2 : w2.heap[bm]? = some (.map es clock) := (hbw3.block bm hbl).trans HB.out
      have hnx : ∀ ty, (Instr.next (.pointer (some ⟨w.heap.size, 0, none⟩)) false ty).run Try.prog wr = _ := fun _ => hrun
      have hen := run_entry_at (P := Try.prog) w2 w.heap.size bm clock seen es clock e hit3 hbm2 (mem_left he).1 HND.out
      rw [hk, hv] at hen
      have HW3 := Lib.hid hbw3
      have HI3 := Lib.hid hit3
      have HE := Lib.hid he
      have HV := Lib.hid hv
      have HP := Lib.hid hp
      have HWr := Lib.hid hit2
      clear hrun hbm hw1 hit2 hbw2 hw2 hit3 hbw3 hbm2 he hk hv hp
      by_cases heq : p.2 = want
      · have hR := HHIT.out p HP.out heq
        subst hR
        have hq : (p.2 == want) = true := beq_iff_eq.2 heq
        clear heq
        go_wp2
        go_ret
        exact ⟨rfl, HW3.out⟩
      have hq : (p.2 == want) = false := beq_eq_false_iff_ne.2 heq
      go_wp2
      go_roundw
      case rel =>
       refine ⟨seen.push e.born, HI3.out, HW3.out, fun x hx hc => ?_⟩
       rw [contains_push] at hc
       rcases Bool.or_eq_true _ _ ▸ hc with h1 | h1
       · exact HNO.out x hx h1
       · have hxe : x = e := born_inj HND.out hx (mem_left HE.out).1 (beq_iff_eq.1 h1)
         subst hxe
         rw [HV.out]
         exact heq
      case measure =>
       have e1 : w2.iterSeen w.heap.size = seen.push e.born := by unfold World.iterSeen; rw [HI3.out]
       have e2 : wr.iterSeen w.heap.size = seen := by unfold World.iterSeen; rw [HIT.out]
       rw [e1, e2]
       exact left_shrinks es seen e HE.out
end Go.Proofs.Ytekpbgmmogpbdaa.H
set_option maxRecDepth 100000
namespace Go.Proofs.Ytekpbgmmogpbdaa.H
open Go.RowKit Go.Proofs.YtekpbgmmogpbdaaW.PrintWords Go.Instr
def ML : NL := [(⟨#[120, 54, 52]⟩, 3221225534), (⟨#[120, 56, 54]⟩, 1073741827), (⟨#[97, 54, 52]⟩, 3221225655), (⟨#[97, 114, 109]⟩, 1073741864)]
def AL : NL := [(⟨#[107, 105, 108, 108]⟩, 0), (⟨#[116, 114, 97, 112]⟩, 196608), (⟨#[108, 111, 103]⟩, 2147221504), (⟨#[97, 108, 108, 111, 119]⟩, 2147418112)]
def Cx64 : NL := [(⟨#[114, 101, 97, 100]⟩, 0), (⟨#[119, 114, 105, 116, 101]⟩, 1), (⟨#[111, 112, 101, 110]⟩, 2), (⟨#[99, 108, 111, 115, 101]⟩, 3), (⟨#[101, 120, 105, 116]⟩, 60), (⟨#[102, 111, 114, 107]⟩, 57), (⟨#[107, 105, 108, 108]⟩, 62), (⟨#[109, 109, 97, 112]⟩, 9)]
def Cx86 : NL := [(⟨#[114, 101, 97, 100]⟩, 3), (⟨#[119, 114, 105, 116, 101]⟩, 4), (⟨#[111, 112, 101, 110]⟩, 5), (⟨#[99, 108, 111, 115, 101]⟩, 6), (⟨#[101, 120, 105, 116]⟩, 1), (⟨#[102, 111, 114, 107]⟩, 2), (⟨#[107, 105, 108, 108]⟩, 37), (⟨#[109, 109, 97, 112]⟩, 90)]
def Ca64 : NL := [(⟨#[114, 101, 97, 100]⟩, 63), (⟨#[119, 114, 105, 116, 101]⟩, 64), (⟨#[99, 108, 111, 115, 101]⟩, 57), (⟨#[101, 120, 105, 116]⟩, 93), (⟨#[107, 105, 108, 108]⟩, 129), (⟨#[109, 109, 97, 112]⟩, 222)]
def Carm : NL := [(⟨#[114, 101, 97, 100]⟩, 3), (⟨#[119, 114, 105, 116, 101]⟩, 4), (⟨#[111, 112, 101, 110]⟩, 5), (⟨#[99, 108, 111, 115, 101]⟩, 6), (⟨#[101, 120, 105, 116]⟩, 1), (⟨#[102, 111, 114, 107]⟩, 2), (⟨#[107, 105, 108, 108]⟩, 37)]
def callsOf (a : Int) : NL := if a = 3221225534 then Cx64 else if a = 1073741827 then Cx86 else if a = 3221225655 then Ca64 else if a = 1073741864 then Carm else []
theorem uniq_ML : Uniq ML := by unfold Uniq ML; decide
theorem uniq_AL : Uniq AL := by unfold Uniq AL; decide
theorem uniq_Cx64 : Uniq Cx64 := by unfold Uniq Cx64; decide
theorem uniq_Cx86 : Uniq Cx86 := by unfold Uniq Cx86; decide
theorem uniq_Ca64 : Uniq Ca64 := by unfold Uniq Ca64; decide
theorem uniq_Carm : Uniq Carm := by unfold Uniq Carm; decide
theorem uniq_calls (a : Int) : Uniq (callsOf a) := by
 unfold callsOf
 split
 · exact uniq_Cx64
 · split
   · exact uniq_Cx86
   · split
     · exact uniq_Ca64
     · split
       · exact uniq_Carm
       · intro p hp; cases hp
def MapEnd (l : NL) (w : World) (e : Ending) (w' : World) : Prop := ∃ m, e = .returned m ∧ HasMap w' m l ∧ Below w.heap.size w w'
theorem MapEnd.made {l : NL} {w : World} {es : Array MapEntry} {n : Nat} (he : entries l = es) (hn : l.length = n) : MapEnd l w (.returned (.map (some w.heap.size))) (w.alloc (.map es n)) := by
 subst he hn
 exact ⟨_, rfl, .inr ⟨_, rfl, heap_alloc_new w _⟩, (Below.refl _ _).alloc (Nat.le_refl _) _⟩
set_option maxHeartbeats 1000000 in
theorem machines_walk (w : World) : Calls Try.prog 69 #[] w fun e w' => MapEnd ML w e w' := by
 have hmm := @run_makeMap Try.prog
 have h0 : (mapUpdate 82 (.map (some w.heap.size)) (.string ⟨#[120, 54, 52]⟩) (.int .u32 3221225534)).run Try.prog (w.alloc (.map #[] 0)) = .ok () (w.alloc (.map #[{ key := .string ⟨#[120, 54, 52]⟩, val := .int .u32 3221225534, born := 0 }] 1)) := run_insert_new w #[] 0 ⟨#[120, 54, 52]⟩ (.int .u32 3221225534) rfl
 have h1 : (mapUpdate 82 (.map (some w.heap.size)) (.string ⟨#[120, 56, 54]⟩) (.int .u32 1073741827)).run Try.prog (w.alloc (.map #[{ key := .string ⟨#[120, 54, 52]⟩, val := .int .u32 3221225534, born := 0 }] 1)) = .ok () (w.alloc (.map #[{ key := .string ⟨#[120, 54, 52]⟩, val := .int .u32 3221225534, born := 0 }, { key := .string ⟨#[120, 56, 54]⟩, val := .int .u32 1073741827, born := 1 }] 2)) := run_insert_new w #[{ key := .string ⟨#[120, 54, 52]⟩, val := .int .u32 3221225534, born := 0 }] 1 ⟨#[120, 56, 54]⟩ (.int .u32 1073741827) rfl
 have h2 : (mapUpdate 82 (.map (some w.heap.size)) (.string ⟨#[97, 54, 52]⟩) (.int .u32 3221225655)).run Try.prog (w.alloc (.map #[{ key := .string ⟨#[120, 54, 52]⟩, val := .int .u32 3221225534, born := 0 }, { key := .string ⟨#[120, 56, 54]⟩, val := .int .u32 1073741827, born := 1 }] 2)) = .ok () (w.alloc (.map #[{ key := .string ⟨#[120, 54, 52]⟩, val := .int .u32 3221225534, born := 0 }, { key := .string ⟨#[120, 56, 54]⟩, val := .int .u32 1073741827, born := 1 }, { key := .string ⟨#[97, 54, 52]⟩, val := .int .u32 3221225655, born := 2 }] 3)) := run_insert_new w #[{ key := .string ⟨#[120, 54, 52]⟩, val := .int .u32 3221225534, born := 0 }, { key := .string ⟨#[120, 56, 54]⟩, val := .int .u32 1073741827, born := 1 }] 2 ⟨#[97, 54, 52]⟩ (.int .u32 3221225655) rfl
 have h3 : (mapUpdate 82 (.map (some w.heap.size)) (.string ⟨#[97, 114, 109]⟩) (.int .u32 1073741864)).run Try.prog (w.alloc (.map #[{ key := .string ⟨#[120, 54, 52]⟩, val := .int .u32 3221225534, born := 0 }, { key := .string ⟨#[120, 56, 54]⟩, val := .int .u32 1073741827, born := 1 }, { key := .string ⟨#[97, 54, 52]⟩, val := .int .u32 3221225655, born := 2 }] 3)) = .ok () (w.alloc (.map #[{ key := .string ⟨#[120, 54, 52]⟩, val := .int .u32 3221225534, born := 0 }, { key := .string ⟨#[120, 56, 54]⟩, val := .int .u32 1073741827, born := 1 }, { key := .string ⟨#[97, 54, 52]⟩, val := .int .u32 3221225655, born := 2 }, { key := .string ⟨#[97, 114, 109]⟩, val := .int .u32 1073741864, born := 3 }] 4)) := run_insert_new w #[{ key := .string ⟨#[120, 54, 52]⟩, val := .int .u32 3221225534, born := 0 }, { key := .string ⟨#[120, 56, 54]⟩, val := .int .u32 1073741827, born := 1 }, { key := .string ⟨#[97, 54, 52]⟩, val := .int .u32 3221225655, born := 2 }] 3 ⟨#[97, 114, 109]⟩ (.int .u32 1073741864) rfl
 go_enter Try.func69, Try.ntmps69
 go_wp2
 go_ret
 exact MapEnd.made rfl rfl
set_option maxHeartbeats 1000000 in
theorem actions_walk (w : World) : Calls Try.prog 52 #[] w fun e w' => MapEnd AL w e w' := by
 have hmm := @run_makeMap Try.prog
 have h0 : (mapUpdate 82 (.map (some w.heap.size)) (.string ⟨#[107, 105, 108, 108]⟩) (.int .u32 0)).run Try.prog (w.alloc (.map #[] 0)) = .ok () (w.alloc (.map #[{ key := .string ⟨#[107, 105, 108, 108]⟩, val := .int .u32 0, born := 0 }] 1)) := run_insert_new w #[] 0 ⟨#[107, 105, 108, 108]⟩ (.int .u32 0) rfl
 have h1 : (mapUpdate 82 (.map (some w.heap.size)) (.string ⟨#[116, 114, 97, 112]⟩) (.int .u32 196608)).run Try.prog (w.alloc (.map #[{ key := .string ⟨#[107, 105, 108, 108]⟩, val := .int .u32 0, born := 0 }] 1)) = .ok () (w.alloc (.map #[{ key := .string ⟨#[107, 105, 108, 108]⟩, val := .int .u32 0, born := 0 }, { key := .string ⟨#[116, 114, 97, 112]⟩, val := .int .u32 196608, born := 1 }] 2)) := run_insert_new w #[{ key := .string ⟨#[107, 105, 108, 108]⟩, val := .int .u32 0, born := 0 }] 1 ⟨#[116, 114, 97, 112]⟩ (.int .u32 196608) rfl
 have h2 : (mapUpdate 82 (.map (some w.heap.size)) (.string ⟨#[108, 111, 103]⟩) (.int .u32 2147221504)).run Try.prog (w.alloc (.map #[{ key := .string ⟨#[107, 105, 108, 108]⟩, val := .int .u32 0, born := 0 }, { key := .string ⟨#[116, 114, 97, 112]⟩, val := .int .u32 196608, born := 1 }] 2)) = .ok () (w.alloc (.map #[{ key := .string ⟨#[107, 105, 108, 108]⟩, val := .int .u32 0, born := 0 }, { key := .string ⟨#[116, 114, 97, 112]⟩, val := .int .u32 196608, born := 1 }, { key := .string ⟨#[108, 111, 103]⟩, val := .int .u32 2147221504, born := 2 }] 3)) := run_insert_new w #[{ key := .string ⟨#[107, 105, 108, 108]⟩, val := .int .u32 0, born := 0 }, { key := .string ⟨#[116, 114, 97, 112]⟩, val := .int .u32 196608, born := 1 }] 2 ⟨#[108, 111, 103]⟩ (.int .u32 2147221504) rfl
 have h3 : (mapUpdate 82 (.map (some w.heap.size)) (.string ⟨#[97, 108, 108, 111, 119]⟩) (.int .u32 2147418112)).run Try.prog (w.alloc (.map #[{ key := .string ⟨#[107, 105, 108, 108]⟩, val := .int .u32 0, born := 0 }, { key := .string ⟨#[116, 114, 97, 112]⟩, val := .int .u32 196608, born := 1 }, { key := .string ⟨#[108, 111, 103]⟩, val := .int .u32 2147221504, born := 2 }] 3)) = .ok () (w.alloc (.map #[{ key := .string ⟨#[107, 105, 108, 108]⟩, val := .int .u32 0, born := 0 }, { key := .string ⟨#[116, 114, 97, 112]⟩, val := .int .u32 196608, born := 1 }, { key := .string ⟨#[108, 111, 103]⟩, val := .int .u32 2147221504, born := 2 }, { key := .string ⟨#[97, 108, 108, 111, 119]⟩, val := .int .u32 2147418112, born := 3 }] 4)) := run_insert_new w #[{ key := .string ⟨#[107, 105, 108, 108]⟩, val := .int .u32 0, born := 0 }, { key := .string ⟨#[116, 114, 97, 112]⟩, val := .int .u32 196608, born := 1 }, { key := .string ⟨#[108, 111, 103]⟩, val := .int .u32 2147221504, born := 2 }] 3 ⟨#[97, 108, 108, 111, 119]⟩ (.int .u32 2147418112) rfl
 go_enter Try.func52, Try.ntmps52
 go_wp2
 go_ret
 exact MapEnd.made rfl rfl
set_option maxHeartbeats 1000000 in
theorem calls_x64 (a : Int) (w : World)  (ha : a = 3221225534) : Calls Try.prog 70 #[.int .u32 a] w fun e w' => MapEnd Cx64 w e w' := by
 have b0 : (a == 3221225534) = true := beq_iff_eq.2 ha
 clear ha
 have hmm := @run_makeMap Try.prog
 have h0 : (mapUpdate 82 (.map (some w.heap.size)) (.string ⟨#[114, 101, 97, 100]⟩) (.int .u32 0)).run Try.prog (w.alloc (.map #[] 0)) = .ok () (w.alloc (.map #[{ key := .string ⟨#[114, 101, 97, 100]⟩, val := .int .u32 0, born := 0 }] 1)) := run_insert_new w #[] 0 ⟨#[114, 101, 97, 100]⟩ (.int .u32 0) rfl
 have h1 : (mapUpdate 82 (.map (some w.heap.size)) (.string ⟨#[119, 114, 105, 116, 101]⟩) (.int .u32 1)).run Try.prog (w.alloc (.map #[{ key := .string ⟨#[114, 101, 97, 100]⟩, val := .int .u32 0, born := 0 }] 1)) = .ok () (w.alloc (.map #[{ key := .string ⟨#[114, 101, 97, 100]⟩, val := .int .u32 0, born := 0 }, { key := .string ⟨#[119, 114, 105, 116, 101]⟩, val := .int .u32 1, born := 1 }] 2)) := run_insert_new w #[{ key := .string ⟨#[114, 101, 97, 100]⟩, val := .int .u32 0, born := 0 }] 1 ⟨#[119, 114, 105, 116, 101]⟩ (.int .u32 1) rfl
 have h2 : (mapUpdate 82 (.map (some w.heap.size)) (.string ⟨#[111, 112, 101, 110]⟩) (.int .u32 2)).run Try.prog (w.alloc (.map #[{ key := .string ⟨#[114, 101, 97, 100]⟩, val := .int .u32 0, born := 0 }, { key := .string ⟨#[119, 114, 105, 116, 101]⟩, val := .int .u32 1, born := 1 }] 2)) = .ok () (w.alloc (.map #[{ key := .string ⟨#[114, 101, 97, 100]⟩, val := .int .u32 0, born := 0 }, { key := .string ⟨#[119, 114, 105, 116, 101]⟩, val := .int .u32 1, born := 1 }, { key := .string ⟨#[111, 112, 101, 110]⟩, val := .int .u32 2, born := 2 }] 3)) := run_insert_new w #[{ key := .string ⟨#[114, 101, 97, 100]⟩, val := .int .u32 0, born := 0 }, { key := .string ⟨#[119, 114, 105, 116, 101]⟩, val := .int .u32 1, born := 1 }] 2 ⟨#[111, 112, 101, 110]⟩ (.int .u32 2) rfl
 have h3 : (mapUpdate 82 (.map (some w.heap.size)) (.string ⟨#[99, 108, 111, 115, 101]⟩) (.int .u32 3)).run Try.prog (w.alloc (.map #[{ key := .string ⟨#[114, 101, 97, 100]⟩, val := .int .u32 0, born := 0 }, { key := .string ⟨#[119, 114, 105, 116, 101]⟩, val := .int .u32 1, born := 1 }, { key := .string ⟨#[111, 112, 101, 110]⟩, val := .int .u32 2, born := 2 }] 3)) = .ok () (w.alloc (.map #[{ key := .string ⟨#[114, 101, 97, 100]⟩, val := .int .u32 0, born := 0 }, { key := .string ⟨#[119, 114, 105, 116, 101]⟩, val := .int .u32 1, born := 1 }, { key := .string ⟨#[111, 112, 101, 110]⟩, val := .int .u32 2, born := 2 }, { key := .string ⟨#[99, 108, 111, 115, 101]⟩, val := .int .u32 3, born := 3 }] 4)) := run_insert_new w #[{ key := .string ⟨#[114, 101, 97, 100]⟩, val := .int .u32 0, born := 0 }, { key := .string ⟨#[119, 114, 105, 116, 101]⟩, val := .int .u32 1, born := 1 }, { key := .string ⟨#[111, 112, 101, 110]⟩, val := .int .u32 2, born := 2 }] 3 ⟨#[99, 108, 111, 115, 101]⟩ (.int .u32 3) rfl
 have h4 : (mapUpdate 82 (.map (some w.heap.size)) (.string ⟨#[101, 120, 105, 116]⟩) (.int .u32 60)).run Try.prog (w.alloc (.map #[{ key := .string ⟨#[114, 101, 97, 100]⟩, val := .int .u32 0, born := 0 }, { key := .string ⟨#[119, 114, 105, 116, 101]⟩, val := .int .u32 1, born := 1 }, { key := .string ⟨#[111, 112, 101, 110]⟩, val := .int .u32 2, born := 2 }, { key := .string ⟨#[99, 108, 111, 115, 101]⟩, val := .int .u32 3, born := 3 }] 4)) = .ok () (w.alloc (.map #[{ key := .string ⟨#[114, 101, 97, 100]⟩, val := .int .u32 0, born := 0 }, { key := .string ⟨#[119, 114, 105, 116, 101]⟩, val := .int .u32 1, born := 1 }, { key := .string ⟨#[111, 112, 101, 110]⟩, val := .int .u32 2, born := 2 }, { key := .string ⟨#[99, 108, 111, 115, 101]⟩, val := .int .u32 3, born := 3 }, { key := .string ⟨#[101, 120, 105, 116]⟩, val := .int .u32 60, born := 4 }] 5)) := run_insert_new w #[{ key := .string ⟨#[114, 101, 97, 100]⟩, val := .int .u32 0, born := 0 }, { key := .string ⟨#[119, 114, 105, 116, 101]⟩, val := .int .u32 1, born := 1 }, { key := .string ⟨#[111, 112, 101, 110]⟩, val := .int .u32 2, born := 2 }, { key := .string ⟨#[99, 108, 111, 115, 101]⟩, val := .int .u32 3, born := 3 }] 4 ⟨#[101, 120, 105, 116]⟩ (.int .u32 60) rfl
 have h5 : (mapUpdate 82 (.map (some w.heap.size)) (.string ⟨#[102, 111, 114, 107]⟩) (.int .u32 57)).run Try.prog (w.alloc (.map #[{ key := .string ⟨#[114, 101, 97, 100]⟩, val := .int .u32 0, born := 0 }, { key := .string ⟨#[119, 114, 105, 116, 101]⟩, val := .int .u32 1, born := 1 }, { key := .string ⟨#[111, 112, 101, 110]⟩, val := .int .u32 2, born := 2 }, { key := .string ⟨#[99, 108, 111, 115, 101]⟩, val := .int .u32 3, born := 3 }, { key := .string ⟨#[101, 120, 105, 116]⟩, val := .int .u32 60, born := 4 }] 5)) = .ok () (w.alloc (.map #[{ key := .string ⟨#[114, 101, 97, 100]⟩, val := .int .u32 0, born := 0 }, { key := .string ⟨#[119, 114, 105, 116, 101]⟩, val := .int .u32 1, born := 1 }, { key := .string ⟨#[111, 112, 101, 110]⟩, val := .int .u32 2, born := 2 }, { key := .string ⟨#[99, 108, 111, 115, 101]⟩, val := .int .u32 3, born := 3 }, { key := .string ⟨#[101, 120, 105, 116]⟩, val := .int .u32 60, born := 4 }, { key := .string ⟨#[102, 111, 114, 107]⟩, val := .int .u32 57, born := 5 }] 6)) := run_insert_new w #[{ key := .string ⟨#[114, 101, 97, 100]⟩, val := .int .u32 0, born := 0 }, { key := .string ⟨#[119, 114, 105, 116, 101]⟩, val := .int .u32 1, born := 1 }, { key := .string ⟨#[111, 112, 101, 110]⟩, val := .int .u32 2, born := 2 }, { key := .string ⟨#[99, 108, 111, 115, 101]⟩, val := .int .u32 3, born := 3 }, { key := .string ⟨#[101, 120, 105, 116]⟩, val := .int .u32 60, born := 4 }] 5 ⟨#[102, 111, 114, 107]⟩ (.int .u32 57) rfl
 have h6 : (mapUpdate 82 (.map (some w.heap.size)) (.string ⟨#[107, 105, 108, 108]⟩) (.int .u32 62)).run Try.prog (w.alloc (.map #[{ key := .string ⟨#[114, 101, 97, 100]⟩, val := .int .u32 0, born := 0 }, { key := .string ⟨#[119, 114, 105, 116, 101]⟩, val := .int .u32 1, born := 1 }, { key := .string ⟨#[111, 112, 101, 110]⟩, val := .int .u32 2, born := 2 }, { key := .string ⟨#[99, 108, 111, 115, 101]⟩, val := .int .u32 3, born := 3 }, { key := .string ⟨#[101, 120, 105, 116]⟩, val := .int .u32 60, born := 4 }, { key := .string ⟨#[102, 111, 114, 107]⟩, val := .int .u32 57, born := 5 }] 6)) = .ok () (w.alloc (.map #[{ key := .string ⟨#[114, 101, 97, 100]⟩, val := .int .u32 0, born := 0 }, { key := .string ⟨#[119, 114, 105, 116, 101]⟩, val := .int .u32 1, born := 1 }, { key := .string ⟨#[111, 112, 101, 110]⟩, val := .int .u32 2, born := 2 }, { key := .string ⟨#[99, 108, 111, 115, 101]⟩, val := .int .u32 3, born := 3 }, { key := .string ⟨#[101, 120, 105, 116]⟩, val := .int .u32 60, born := 4 }, { key := .string ⟨#[102, 111, 114, 107]⟩, val := .int .u32 57, born := 5 }, { key := .string ⟨#[107, 105, 108, 108]⟩, val := .int .u32 62, born := 6 }] 7)) := run_insert_new w #[{ key := .string ⟨#[114, 101, 97, 100]⟩, val := .int .u32 0, born := 0 }, { key := .string ⟨#[119, 114, 105, 116, 101]⟩, val := .int .u32 1, born := 1 }, { key := .string ⟨#[111, 112, 101, 110]⟩, val := .int .u32 2, born := 2 }, { key := .string ⟨#[99, 108, 111, 115, 101]⟩, val := .int .u32 3, born := 3 }, { key := .string ⟨#[101, 120, 105, 116]⟩, val := .int .u32 60, born := 4 }, { key := .string ⟨#[102, 111, 114, 107]⟩, val := .int .u32 57, born := 5 }] 6 ⟨#[107, 105, 108, 108]⟩ (.int .u32 62) rfl
 have h7 : (mapUpdate 82 (.map (some w.heap.size)) (.string ⟨#[109, 109, 97, 112]⟩) (.int .u32 9)).run Try.prog (w.alloc (.map #[{ key := .string ⟨#[114, 101, 97, 100]⟩, val := .int .u32 0, born := 0 }, { key := .string ⟨#[119, 114, 105, 116, 101]⟩, val := .int .u32 1, born := 1 }, { key := .string ⟨#[111, 112, 101, 110]⟩, val := .int .u32 2, born := 2 }, { key := .string ⟨#[99, 108, 111, 115, 101]⟩, val := .int .u32 3, born := 3 }, { key := .string ⟨#[101, 120, 105, 116]⟩, val := .int .u32 60, born := 4 }, { key := .string ⟨#[102, 111, 114, 107]⟩, val := .int .u32 57, born := 5 }, { key := .string ⟨#[107, 105, 108, 108]⟩, val := .int .u32 62, born := 6 }] 7)) = .ok () (w.alloc (.map #[{ key := .string ⟨#[114, 101, 97, 100]⟩, val := .int .u32 0, born := 0 }, { key := .string ⟨#[119, 114, 105, 116, 101]⟩, val := .int .u32 1, born := 1 }, { key := .string ⟨#[111, 112, 101, 110]⟩, val := .int .u32 2, born := 2 }, { key := .string ⟨#[99, 108, 111, 115, 101]⟩, val := .int .u32 3, born := 3 }, { key := .string ⟨#[101, 120, 105, 116]⟩, val := .int .u32 60, born := 4 }, { key := .string ⟨#[102, 111, 114, 107]⟩, val := .int .u32 57, born := 5 }, { key := .string ⟨#[107, 105, 108, 108]⟩, val := .int .u32 62, born := 6 }, { key := .string ⟨#[109, 109, 97, 112]⟩, val := .int .u32 9, born := 7 }] 8)) := run_insert_new w #[{ key := .string ⟨#[114, 101, 97, 100]⟩, val := .int .u32 0, born := 0 }, { key := .string ⟨#[119, 114, 105, 116, 101]⟩, val := .int .u32 1, born := 1 }, { key := .string ⟨#[111, 112, 101, 110]⟩, val := .int .u32 2, born := 2 }, { key := .string ⟨#[99, 108, 111, 115, 101]⟩, val := .int .u32 3, born := 3 }, { key := .string ⟨#[101, 120, 105, 116]⟩, val := .int .u32 60, born := 4 }, { key := .string ⟨#[102, 111, 114, 107]⟩, val := .int .u32 57, born := 5 }, { key := .string ⟨#[107, 105, 108, 108]⟩, val := .int .u32 62, born := 6 }] 7 ⟨#[109, 109, 97, 112]⟩ (.int .u32 9) rfl
 go_enter Try.func70, Try.ntmps70
 go_wp2
 go_ret
 exact MapEnd.made rfl rfl
set_option maxHeartbeats 1000000 in
theorem calls_x86 (a : Int) (w : World) (nx64 : a ≠ 3221225534) (ha : a = 1073741827) : Calls Try.prog 70 #[.int .u32 a] w fun e w' => MapEnd Cx86 w e w' := by
 have bx64 : (a == 3221225534) = false := beq_eq_false_iff_ne.2 nx64
 clear nx64
 have b0 : (a == 1073741827) = true := beq_iff_eq.2 ha
 clear ha
 have hmm := @run_makeMap Try.prog
 have h0 : (mapUpdate 82 (.map (some w.heap.size)) (.string ⟨#[114, 101, 97, 100]⟩) (.int .u32 3)).run Try.prog (w.alloc (.map #[] 0)) = .ok () (w.alloc (.map #[{ key := .string ⟨#[114, 101, 97, 100]⟩, val := .int .u32 3, born := 0 }] 1)) := run_insert_new w #[] 0 ⟨#[114, 101, 97, 100]⟩ (.int .u32 3) rfl
 have h1 : (mapUpdate 82 (.map (some w.heap.size)) (.string ⟨#[119, 114, 105, 116, 101]⟩) (.int .u32 4)).run Try.prog (w.alloc (.map #[{ key := .string ⟨#[114, 101, 97, 100]⟩, val := .int .u32 3, born := 0 }] 1)) = .ok () (w.alloc (.map #[{ key := .string ⟨#[114, 101, 97, 100]⟩, val := .int .u32 3, born := 0 }, { key := .string ⟨#[119, 114, 105, 116, 101]⟩, val := .int .u32 4, born := 1 }] 2)) := run_insert_new w #[{ key := .string ⟨#[114, 101, 97, 100]⟩, val := .int .u32 3, born := 0 }] 1 ⟨#[119, 114, 105, 116, 101]⟩ (.int .u32 4) rfl
 have h2 : (mapUpdate 82 (.map (some w.heap.size)) (.string ⟨#[111, 112, 101, 110]⟩) (.int .u32 5)).run Try.prog (w.alloc (.map #[{ key := .string ⟨#[114, 101, 97, 100]⟩, val := .int .u32 3, born := 0 }, { key := .string ⟨#[119, 114, 105, 116, 101]⟩, val := .int .u32 4, born := 1 }] 2)) = .ok () (w.alloc (.map #[{ key := .string ⟨#[114, 101, 97, 100]⟩, val := .int .u32 3, born := 0 }, { key := .string ⟨#[119, 114, 105, 116, 101]⟩, val := .int .u32 4, born := 1 }, { key := .string ⟨#[111, 112, 101, 110]⟩, val := .int .u32 5, born := 2 }] 3)) := run_insert_new w #[{ key := .string ⟨#[114, 101, 97, 100]⟩, val := .int .u32 3, born := 0 }, { key := .string ⟨#[119, 114, 105, 116, 101]⟩, val := .int .u32 4, born := 1 }] 2 ⟨#[111, 112, 101, 110]⟩ (.int .u32 5) rfl
 have h3 : (mapUpdate 82 (.map (some w.heap.size)) (.string ⟨#[99, 108, 111, 115, 101]⟩) (.int .u32 6)).run Try.prog (w.alloc (.map #[{ key := .string ⟨#[114, 101, 97, 100]⟩, val := .int .u32 3, born := 0 }, { key := .string ⟨#[119, 114, 105, 116, 101]⟩, val := .int .u32 4, born := 1 }, { key := .string ⟨#[111, 112, 101, 110]⟩, val := .int .u32 5, born := 2 }] 3)) = .ok () (w.alloc (.map #[{ key := .string ⟨#[114, 101, 97, 100]⟩, val := .int .u32 3, born := 0 }, { key := .string ⟨#[119, 114, 105, 116, 101]⟩, val := .int .u32 4, born := 1 }, { key := .string ⟨#[111, 112, 101, 110]⟩, val := .int .u32 5, born := 2 }, { key := .string ⟨#[99, 108, 111, 115, 101]⟩, val := .int .u32 6, born := 3 }] 4)) := run_insert_new w #[{ key := .string ⟨#[114, 101, 97, 100]⟩, val := .int .u32 3, born := 0 }, { key := .string ⟨#[119, 114, 105, 116, 101]⟩, val := .int .u32 4, born := 1 }, { key := .string ⟨#[111, 112, 101, 110]⟩, val := .int .u32 5, born := 2 }] 3 ⟨#[99, 108, 111, 115, 101]⟩ (.int .u32 6) rfl
 have h4 : (mapUpdate 82 (.map (some w.heap.size)) (.string ⟨#[101, 120, 105, 116]⟩) (.int .u32 1)).run Try.prog (w.alloc (.map #[{ key := .string ⟨#[114, 101, 97, 100]⟩, val := .int .u32 3, born := 0 }, { key := .string ⟨#[119, 114, 105, 116, 101]⟩, val := .int .u32 4, born := 1 }, { key := .string ⟨#[111, 112, 101, 110]⟩, val := .int .u32 5, born := 2 }, { key := .string ⟨#[99, 108, 111, 115, 101]⟩, val := .int .u32 6, born := 3 }] 4)) = .ok () (w.alloc (.map #[{ key := .string ⟨#[114, 101, 97, 100]⟩, val := .int .u32 3, born := 0 }, { key := .string ⟨#[119, 114, 105, 116, 101]⟩, val := .int .u32 4, born := 1 }, { key := .string ⟨#[111, 112, 101, 110]⟩, val := .int .u32 5, born := 2 }, { key := .string ⟨#[99, 108, 111, 115, 101]⟩, val := .int .u32 6, born := 3 }, { key := .string ⟨#[101, 120, 105, 116]⟩, val := .int .u32 1, born := 4 }] 5)) := run_insert_new w #[{ key := .string ⟨#[114, 101, 97, 100]⟩, val := .int .u32 3, born := 0 }, { key := .string ⟨#[119, 114, 105, 116, 101]⟩, val := .int .u32 4, born := 1 }, { key := .string ⟨#[111, 112, 101, 110]⟩, val := .int .u32 5, born := 2 }, { key := .string ⟨#[99, 108, 111, 115, 101]⟩, val := .int .u32 6, born := 3 }] 4 ⟨#[101, 120, 105, 116]⟩ (.int .u32 1) rfl
 have h5 : (mapUpdate 82 (.map (some w.heap.size)) (.string ⟨#[102, 111, 114, 107]⟩) (.int .u32 2)).run Try.prog (w.alloc (.map #[{ key := .string ⟨#[114, 101, 97, 100]⟩, val := .int .u32 3, born := 0 }, { key := .string ⟨#[119, 114, 105, 116, 101]⟩, val := .int .u32 4, born := 1 }, { key := .string ⟨#[111, 112, 101, 110]⟩, val := .int .u32 5, born := 2 }, { key := .string ⟨#[99, 108, 111, 115, 101]⟩, val := .int .u32 6, born := 3 }, { key := .string ⟨#[101, 120, 105, 116]⟩, val := .int .u32 1, born := 4 }] 5)) = .ok () (w.alloc (.map #[{ key := .string ⟨#[114, 101, 97, 100]⟩, val := .int .u32 3, born := 0 }, { key := .string ⟨#[119, 114, 105, 116, 101]⟩, val := .int .u32 4, born := 1 }, { key := .string ⟨#[111, 112, 101, 110]⟩, val := .int .u32 5, born := 2 }, { key := .string ⟨#[99, 108, 111, 115, 101]⟩, val := .int .u32 6, born := 3 }, { key := .string ⟨#[101, 120, 105, 116]⟩, val := .int .u32 1, born := 4 }, { key := .string ⟨#[102, 111, 114, 107]⟩, val := .int .u32 2, born := 5 }] 6)) := run_insert_new w #[{ key := .string ⟨#[114, 101, 97, 100]⟩, val := .int .u32 3, born := 0 }, { key := .string ⟨#[119, 114, 105, 116, 101]⟩, val := .int .u32 4, born := 1 }, { key := .string ⟨#[111, 112, 101, 110]⟩, val := .int .u32 5, born := 2 }, { key := .string ⟨#[99, 108, 111, 115, 101]⟩, val := .int .u32 6, born := 3 }, { key := .string ⟨#[101, 120, 105, 116]⟩, val := .int .u32 1, born := 4 }] 5 ⟨#[102, 111, 114, 107]⟩ (.int .u32 2) rfl
 have h6 : (mapUpdate 82 (.map (some w.heap.size)) (.string ⟨#[107, 105, 108, 108]⟩) (.int .u32 37)).run Try.prog (w.alloc (.map #[{ key := .string ⟨#[114, 101, 97, 100]⟩, val := .int .u32 3, born := 0 }, { key := .string ⟨#[119, 114, 105, 116, 101]⟩, val := .int .u32 4, born := 1 }, { key := .string ⟨#[111, 112, 101, 110]⟩, val := .int .u32 5, born := 2 }, { key := .string ⟨#[99, 108, 111, 115, 101]⟩, val := .int .u32 6, born := 3 }, { key := .string ⟨#[101, 120, 105, 116]⟩, val := .int .u32 1, born := 4 }, { key := .string ⟨#[102, 111, 114, 107]⟩, val := .int .u32 2, born := 5 }] 6)) = .ok () (w.alloc (.map #[{ key := .string ⟨#[114, 101, 97, 100]⟩, val := .int .u32 3, born := 0 }, { key := .string ⟨#[119, 114, 105, 116, 101]⟩, val := .int .u32 4, born := 1 }, { key := .string ⟨#[111, 112, 101, 110]⟩, val := .int .u32 5, born := 2 }, { key := .string ⟨#[99, 108, 111, 115, 101]⟩, val := .int .u32 6, born := 3 }, { key := .string ⟨#[101, 120, 105, 116]⟩, val := .int .u32 1, born := 4 }, { key := .string ⟨#[102, 111, 114, 107]⟩, val := .int .u32 2, born := 5 }, { key := .string ⟨#[107, 105, 108, 108]⟩, val := .int .u32 37, born := 6 }] 7)) := run_insert_new w #[{ key := .string ⟨#[114, 101, 97, 100]⟩, val := .int .u32 3, born := 0 }, { key := .string ⟨#[119, 114, 105, 116, 101]⟩, val := .int .u32 4, born := 1 }, { key := .string ⟨#[111, 112, 101, 110]⟩, val := .int .u32 5, born := 2 }, { key := .string ⟨#[99, 108, 111, 115, 101]⟩, val := .int .u32 6, born := 3 }, { key := .string ⟨#[101, 120, 105, 116]⟩, val := .int .u32 1, born := 4 }, { key := .string ⟨#[102, 111, 114, 107]⟩, val := .int .u32 2, born := 5 }] 6 ⟨#[107, 105, 108, 108]⟩ (.int .u32 37) rfl
 have h7 : (mapUpdate 82 (.map (some w.heap.size)) (.string ⟨#[109, 109, 97, 112]⟩) (.int .u32 90)).run Try.prog (w.alloc (.map #[{ key := .string ⟨#[114, 101, 97, 100]⟩, val := .int .u32 3, born := 0 }, { key := .string ⟨#[119, 114, 105, 116, 101]⟩, val := .int .u32 4, born := 1 }, { key := .string ⟨#[111, 112, 101, 110]⟩, val := .int .u32 5, born := 2 }, { key := .string ⟨#[99, 108, 111, 115, 101]⟩, val := .int .u32 6, born := 3 }, { key := .string ⟨#[101, 120, 105, 116]⟩, val := .int .u32 1, born := 4 }, { key := .string ⟨#[102, 111, 114, 107]⟩, val := .int .u32 2, born := 5 }, { key := .string ⟨#[107, 105, 108, 108]⟩, val := .int .u32 37, born := 6 }] 7)) = .ok () (w.alloc (.map #[{ key := .string ⟨#[114, 101, 97, 100]⟩, val := .int .u32 3, born := 0 }, { key := .string ⟨#[119, 114, 105, 116, 101]⟩, val := .int .u32 4, born := 1 }, { key := .string ⟨#[111, 112, 101, 110]⟩, val := .int .u32 5, born := 2 }, { key := .string ⟨#[99, 108, 111, 115, 101]⟩, val := .int .u32 6, born := 3 }, { key := .string ⟨#[101, 120, 105, 116]⟩, val := .int .u32 1, born := 4 }, { key := .string ⟨#[102, 111, 114, 107]⟩, val := .int .u32 2, born := 5 }, { key := .string ⟨#[107, 105, 108, 108]⟩, val := .int .u32 37, born := 6 }, { key := .string ⟨#[109, 109, 97, 112]⟩, val := .int .u32 90, born := 7 }] 8)) := run_insert_new w #[{ key := .string ⟨#[114, 101, 97, 100]⟩, val := .int .u32 3, born := 0 }, { key := .string ⟨#[119, 114, 105, 116, 101]⟩, val := .int .u32 4, born := 1 }, { key := .string ⟨#[111, 112, 101, 110]⟩, val := .int .u32 5, born := 2 }, { key := .string ⟨#[99, 108, 111, 115, 101]⟩, val := .int .u32 6, born := 3 }, { key := .string ⟨#[101, 120, 105, 116]⟩, val := .int .u32 1, born := 4 }, { key := .string ⟨#[102, 111, 114, 107]⟩, val := .int .u32 2, born := 5 }, { key := .string ⟨#[107, 105, 108, 108]⟩, val := .int .u32 37, born := 6 }] 7 ⟨#[109, 109, 97, 112]⟩ (.int .u32 90) rfl
 go_enter Try.func70, Try.ntmps70
 go_wp2
 go_ret
 exact MapEnd.made rfl rfl
set_option maxHeartbeats 1000000 in
theorem calls_a64 (a : Int) (w : World) (nx64 : a ≠ 3221225534) (nx86 : a ≠ 1073741827) (ha : a = 3221225655) : Calls Try.prog 70 #[.int .u32 a] w fun e w' => MapEnd Ca64 w e w' := by
 have bx64 : (a == 3221225534) = false := beq_eq_false_iff_ne.2 nx64
 have bx86 : (a == 1073741827) = false := beq_eq_false_iff_ne.2 nx86
 clear nx64 nx86
 have b0 : (a == 3221225655) = true := beq_iff_eq.2 ha
 clear ha
 have hmm := @run_makeMap Try.prog
 have h0 : (mapUpdate 82 (.map (some w.heap.size)) (.string ⟨#[114, 101, 97, 100]⟩) (.int .u32 63)).run Try.prog (w.alloc (.map #[] 0)) = .ok () (w.alloc (.map #[{ key := .string ⟨#[114, 101, 97, 100]⟩, val := .int .u32 63, born := 0 }] 1)) := run_insert_new w #[] 0 ⟨#[114, 101, 97, 100]⟩ (.int .u32 63) rfl
 have h1 : (mapUpdate 82 (.map (some w.heap.size)) (.string ⟨#[119, 114, 105, 116, 101]⟩) (.int .u32 64)).run Try.prog (w.alloc (.map #[{ key := .string ⟨#[114, 101, 97, 100]⟩, val := .int .u32 63, born := 0 }] 1)) = .ok () (w.alloc (.map #[{ key := .string ⟨#[114, 101, 97, 100]⟩, val := .int .u32 63, born := 0 }, { key := .string ⟨#[119, 114, 105, 116, 101]⟩, val := .int .u32 64, born := 1 }] 2)) := run_insert_new w #[{ key := .string ⟨#[114, 101, 97, 100]⟩, val := .int .u32 63, born := 0 }] 1 ⟨#[119, 114, 105, 116, 101]⟩ (.int .u32 64) rfl
 have h2 : (mapUpdate 82 (.map (some w.heap.size)) (.string ⟨#[99, 108, 111, 115, 101]⟩) (.int .u32 57)).run Try.prog (w.alloc (.map #[{ key := .string ⟨#[114, 101, 97, 100]⟩, val := .int .u32 63, born := 0 }, { key := .string ⟨#[119, 114, 105, 116, 101]⟩, val := .int .u32 64, born := 1 }] 2)) = .ok () (w.alloc (.map #[{ key := .string ⟨#[114, 101, 97, 100]⟩, val := .int .u32 63, born := 0 }, { key := .string ⟨#[119, 114, 105, 116, 101]⟩, val := .int .u32 64, born := 1 }, { key := .string ⟨#[99, 108, 111, 115, 101]⟩, val := .int .u32 57, born := 2 }] 3)) := run_insert_new w #[{ key := .string ⟨#[114, 101, 97, 100]⟩, val := .int .u32 63, born := 0 }, { key := .string ⟨#[119, 114, 105, 116, 101]⟩, val := .int .u32 64, born := 1 }] 2 ⟨#[99, 108, 111, 115, 101]⟩ (.int .u32 57) rfl
 have h3 : (mapUpdate 82 (.map (some w.heap.size)) (.string ⟨#[101, 120, 105, 116]⟩) (.int .u32 93)).run Try.prog (w.alloc (.map #[{ key := .string ⟨#[114, 101, 97, 100]⟩, val := .int .u32 63, born := 0 }, { key := .string ⟨#[119, 114, 105, 116, 101]⟩, val := .int .u32 64, born := 1 }, { key := .string ⟨#[99, 108, 111, 115, 101]⟩, val := .int .u32 57, born := 2 }] 3)) = .ok () (w.alloc (.map #[{ key := .string ⟨#[114, 101, 97, 100]⟩, val := .int .u32 63, born := 0 }, { key := .string ⟨#[119, 114, 105, 116, 101]⟩, val := .int .u32 64, born := 1 }, { key := .string ⟨#[99, 108, 111, 115, 101]⟩, val := .int .u32 57, born := 2 }, { key := .string ⟨#[101, 120, 105, 116]⟩, val := .int .u32 93, born := 3 }] 4)) := run_insert_new w #[{ key := .string ⟨#[114, 101, 97, 100]⟩, val := .int .u32 63, born := 0 }, { key := .string ⟨#[119, 114, 105, 116, 101]⟩, val := .int .u32 64, born := 1 }, { key := .string ⟨#[99, 108, 111, 115, 101]⟩, val := .int .u32 57, born := 2 }] 3 ⟨#[101, 120, 105, 116]⟩ (.int .u32 93) rfl
 have h4 : (mapUpdate 82 (.map (some w.heap.size)) (.string ⟨#[107, 105, 108, 108]⟩) (.int .u32 129)).run Try.prog (w.alloc (.map #[{ key := .string ⟨#[114, 101, 97, 100]⟩, val := .int .u32 63, born := 0 }, { key := .string ⟨#[119, 114, 105, 116, 101]⟩, val := .int .u32 64, born := 1 }, { key := .string ⟨#[99, 108, 111, 115, 101]⟩, val := .int .u32 57, born := 2 }, { key := .string ⟨#[101, 120, 105, 116]⟩, val := .int .u32 93, born := 3 }] 4)) = .ok () (w.alloc (.map #[{ key := .string ⟨#[114, 101, 97, 100]⟩, val := .int .u32 63, born := 0 }, { key := .string ⟨#[119, 114, 105, 116, 101]⟩, val := .int .u32 64, born := 1 }, { key := .string ⟨#[99, 108, 111, 115, 101]⟩, val := .int .u32 57, born := 2 }, { key := .string ⟨#[101, 120, 105, 116]⟩, val := .int .u32 93, born := 3 }, { key := .string ⟨#[107, 105, 108, 108]⟩, val := .int .u32 129, born := 4 }] 5)) := run_insert_new w #[{ key := .string ⟨#[114, 101, 97, 100]⟩, val := .int .u32 63, born := 0 }, { key := .string ⟨#[119, 114, 105, 116, 101]⟩, val := .int .u32 64, born := 1 }, { key := .string ⟨#[99, 108, 111, 115, 101]⟩, val := .int .u32 57, born := 2 }, { key := .string ⟨#[101, 120, 105, 116]⟩, val := .int .u32 93, born := 3 }] 4 ⟨#[107, 105, 108, 108]⟩ (.int .u32 129) rfl
 have h5 : (mapUpdate 82 (.map (some w.heap.size)) (.string ⟨#[109, 109, 97, 112]⟩) (.int .u32 222)).run Try.prog (w.alloc (.map #[{ key := .string ⟨#[114, 101, 97, 100]⟩, val := .int .u32 63, born := 0 }, { key := .string ⟨#[119, 114, 105, 116, 101]⟩, val := .int .u32 64, born := 1 }, { key := .string ⟨#[99, 108, 111, 115, 101]⟩, val := .int .u32 57, born := 2 }, { key := .string ⟨#[101, 120, 105, 116]⟩, val := .int .u32 93, born := 3 }, { key := .string ⟨#[107, 105, 108, 108]⟩, val := .int .u32 129, born := 4 }] 5)) = .ok () (w.alloc (.map #[{ key := .string ⟨#[114, 101, 97, 100]⟩, val := .int .u32 63, born := 0 }, { key := .string ⟨#[119, 114, 105, 116, 101]⟩, val := .int .u32 64, born := 1 }, { key := .string ⟨#[99, 108, 111, 115, 101]⟩, val := .int .u32 57, born := 2 }, { key := .string ⟨#[101, 120, 105, 116]⟩, val := .int .u32 93, born := 3 }, { key := .string ⟨#[107, 105, 108, 108]⟩, val := .int .u32 129, born := 4 }, { key := .string ⟨#[109, 109, 97, 112]⟩, val := .int .u32 222, born := 5 }] 6)) := run_insert_new w #[{ key := .string ⟨#[114, 101, 97, 100]⟩, val := .int .u32 63, born := 0 }, { key := .string ⟨#[119, 114, 105, 116, 101]⟩, val := .int .u32 64, born := 1 }, { key := .string ⟨#[99, 108, 111, 115, 101]⟩, val := .int .u32 57, born := 2 }, { key := .string ⟨#[101, 120, 105, 116]⟩, val := .int .u32 93, born := 3 }, { key := .string ⟨#[107, 105, 108, 108]⟩, val := .int .u32 129, born := 4 }] 5 ⟨#[109, 109, 97, 112]⟩ (.int .u32 222) rfl
 go_enter Try.func70, Try.ntmps70
 go_wp2
 go_ret
 exact MapEnd.made rfl rfl
set_option maxHeartbeats 1000000 in
theorem calls_arm (a : Int) (w : World) (nx64 : a ≠ 3221225534) (nx86 : a ≠ 1073741827) (na64 : a ≠ 3221225655) (ha : a = 1073741864) : Calls Try.prog 70 #[.int .u32 a] w fun e w' => MapEnd Carm w e w' := by
 have bx64 : (a == 3221225534) = false := beq_eq_false_iff_ne.2 nx64
 have bx86 : (a == 1073741827) = false := beq_eq_false_iff_ne.2 nx86
 have ba64 : (a == 3221225655) = false := beq_eq_false_iff_ne.2 na64
 clear nx64 nx86 na64
 have b0 : (a == 1073741864) = true := beq_iff_eq.2 ha
 clear ha
 have hmm := @run_makeMap Try.prog
 have h0 : (mapUpdate 82 (.map (some w.heap.size)) (.string ⟨#[114, 101, 97, 100]⟩) (.int .u32 3)).run Try.prog (w.alloc (.map #[] 0)) = .ok () (w.alloc (.map #[{ key := .string ⟨#[114, 101, 97, 100]⟩, val := .int .u32 3, born := 0 }] 1)) := run_insert_new w #[] 0 ⟨#[114, 101, 97, 100]⟩ (.int .u32 3) rfl
 have h1 : (mapUpdate 82 (.map (some w.heap.size)) (.string ⟨#[119, 114, 105, 116, 101]⟩) (.int .u32 4)).run Try.prog (w.alloc (.map #[{ key := .string ⟨#[114, 101, 97, 100]⟩, val := .int .u32 3, born := 0 }] 1)) = .ok () (w.alloc (.map #[{ key := .string ⟨#[114, 101, 97, 100]⟩, val := .int .u32 3, born := 0 }, { key := .string ⟨#[119, 114, 105, 116, 101]⟩, val := .int .u32 4, born := 1 }] 2)) := run_insert_new w #[{ key := .string ⟨#[114, 101, 97, 100]⟩, val := .int .u32 3, born := 0 }] 1 ⟨#[119, 114, 105, 116, 101]⟩ (.int .u32 4) rfl
 have h2 : (mapUpdate 82 (.map (some w.heap.size)) (.string ⟨#[111, 112, 101, 110]⟩) (.int .u32 5)).run Try.prog (w.alloc (.map #[{ key := .string ⟨#[114, 101, 97, 100]⟩, val := .int .u32 3, born := 0 }, { key := .string ⟨#[119, 114, 105, 116, 101]⟩, val := .int .u32 4, born := 1 }] 2)) = .ok () (w.alloc (.map #[{ key := .string ⟨#[114, 101, 97, 100]⟩, val := .int .u32 3, born := 0 }, { key := .string ⟨#[119, 114, 105, 116, 101]⟩, val := .int .u32 4, born := 1 }, { key := .string ⟨#[111, 112, 101, 110]⟩, val := .int .u32 5, born := 2 }] 3)) := run_insert_new w #[{ key := .string ⟨#[114, 101, 97, 100]⟩, val := .int .u32 3, born := 0 }, { key := .string ⟨#[119, 114, 105, 116, 101]⟩, val := .int .u32 4, born := 1 }] 2 ⟨#[111, 112, 101, 110]⟩ (.int .u32 5) rfl
 have h3 : (mapUpdate 82 (.map (some w.heap.size)) (.string ⟨#[99, 108, 111, 115, 101]⟩) (.int .u32 6)).run Try.prog (w.alloc (.map #[{ key := .string ⟨#[114, 101, 97, 100]⟩, val := .int .u32 3, born := 0 }, { key := .string ⟨#[119, 114, 105, 116, 101]⟩, val := .int .u32 4, born := 1 }, { key := .string ⟨#[111, 112, 101, 110]⟩, val := .int .u32 5, born := 2 }] 3)) = .ok () (w.alloc (.map #[{ key := .string ⟨#[114, 101, 97, 100]⟩, val := .int .u32 3, born := 0 }, { key := .string ⟨#[119, 114, 105, 116, 101]⟩, val := .int .u32 4, born := 1 }, { key := .string ⟨#[111, 112, 101, 110]⟩, val := .int .u32 5, born := 2 }, { key := .string ⟨#[99, 108, 111, 115, 101]⟩, val := .int .u32 6, born := 3 }] 4)) := run_insert_new w #[{ key := .string ⟨#[114, 101, 97, 100]⟩, val := .int .u32 3, born := 0 }, { key := .string ⟨#[119, 114, 105, 116, 101]⟩, val := .int .u32 4, born := 1 }, { key := .string ⟨#[111, 112, 101, 110]⟩, val := .int .u32 5, born := 2 }] 3 ⟨#[99, 108, 111, 115, 101]⟩ (.int .u32 6) rfl
 have h4 : (mapUpdate 82 (.map (some w.heap.size)) (.string ⟨#[101, 120, 105, 116]⟩) (.int .u32 1)).run Try.prog (w.alloc (.map #[{ key := .string ⟨#[114, 101, 97, 100]⟩, val := .int .u32 3, born := 0 }, { key := .string ⟨#[119, 114, 105, 116, 101]⟩, val := .int .u32 4, born := 1 }, { key := .string ⟨#[111, 112, 101, 110]⟩, val := .int .u32 5, born := 2 }, { key := .string ⟨#[99, 108, 111, 115, 101]⟩, val := .int .u32 6, born := 3 }] 4)) = .ok () (w.alloc (.map #[{ key := .string ⟨#[114, 101, 97, 100]⟩, val := .int .u32 3, born := 0 }, { key := .string ⟨#[119, 114, 105, 116, 101]⟩, val := .int .u32 4, born := 1 }, { key := .string ⟨#[111, 112, 101, 110]⟩, val := .int .u32 5, born := 2 }, { key := .string ⟨#[99, 108, 111, 115, 101]⟩, val := .int .u32 6, born := 3 }, { key := .string ⟨#[101, 120, 105, 116]⟩, val := .int .u32 1, born := 4 }] 5)) := run_insert_new w #[{ key := .string ⟨#[114, 101, 97, 100]⟩, val := .int .u32 3, born := 0 }, { key := .string ⟨#[119, 114, 105, 116, 101]⟩, val := .int .u32 4, born := 1 }, { key := .string ⟨#[111, 112, 101, 110]⟩, val := .int .u32 5, born := 2 }, { key := .string ⟨#[99, 108, 111, 115, 101]⟩, val := .int .u32 6, born := 3 }] 4 ⟨#[101, 120, 105, 116]⟩ (.int .u32 1) rfl
 have h5 : (mapUpdate 82 (.map (some w.heap.size)) (.string ⟨#[102, 111, 114, 107]⟩) (.int .u32 2)).run Try.prog (w.alloc (.map #[{ key := .string ⟨#[114, 101, 97, 100]⟩, val := .int .u32 3, born := 0 }, { key := .string ⟨#[119, 114, 105, 116, 101]⟩, val := .int .u32 4, born := 1 }, { key := .string ⟨#[111, 112, 101, 110]⟩, val := .int .u32 5, born := 2 }, { key := .string ⟨#[99, 108, 111, 115, 101]⟩, val := .int .u32 6, born := 3 }, { key := .string ⟨#[101, 120, 105, 116]⟩, val := .int .u32 1, born := 4 }] 5)) = .ok () (w.alloc (.map #[{ key := .string ⟨#[114, 101, 97, 100]⟩, val := .int .u32 3, born := 0 }, { key := .string ⟨#[119, 114, 105, 116, 101]⟩, val := .int .u32 4, born := 1 }, { key := .string ⟨#[111, 112, 101, 110]⟩, val := .int .u32 5, born := 2 }, { key := .string ⟨#[99, 108, 111, 115, 101]⟩, val := .int .u32 6, born := 3 }, { key := .string ⟨#[101, 120, 105, 116]⟩, val := .int .u32 1, born := 4 }, { key := .string ⟨#[102, 111, 114, 107]⟩, val := .int .u32 2, born := 5 }] 6)) := run_insert_new w #[{ key := .string ⟨#[114, 101, 97, 100]⟩, val := .int .u32 3, born := 0 }, { key := .string ⟨#[119, 114, 105, 116, 101]⟩, val := .int .u32 4, born := 1 }, { key := .string ⟨#[111, 112, 101, 110]⟩, val := .int .u32 5, born := 2 }, { key := .string ⟨#[99, 108, 111, 115, 101]⟩, val := .int .u32 6, born := 3 }, { key := .string ⟨#[101, 120, 105, 116]⟩, val := .int .u32 1, born := 4 }] 5 ⟨#[102, 111, 114, 107]⟩ (.int .u32 2) rfl
 have h6 : (mapUpdate 82 (.map (some w.heap.size)) (.string ⟨#[107, 105, 108, 108]⟩) (.int .u32 37)).run Try.prog (w.alloc (.map #[{ key := .string ⟨#[114, 101, 97, 100]⟩, val := .int .u32 3, born := 0 }, { key := .string ⟨#[119, 114, 105, 116, 101]⟩, val := .int .u32 4, born := 1 }, { key := .string ⟨#[111, 112, 101, 110]⟩, val := .int .u32 5, born := 2 }, { key := .string ⟨#[99, 108, 111, 115, 101]⟩, val := .int .u32 6, born := 3 }, { key := .string ⟨#[101, 120, 105, 116]⟩, val := .int .u32 1, born := 4 }, { key := .string ⟨#[102, 111, 114, 107]⟩, val := .int .u32 2, born := 5 }] 6)) = .ok () (w.alloc (.map #[{ key := .string ⟨#[114, 101, 97, 100]⟩, val := .int .u32 3, born := 0 }, { key := .string ⟨#[119, 114, 105, 116, 101]⟩, val := .int .u32 4, born := 1 }, { key := .string ⟨#[111, 112, 101, 110]⟩, val := .int .u32 5, born := 2 }, { key := .string ⟨#[99, 108, 111, 115, 101]⟩, val := .int .u32 6, born := 3 }, { key := .string ⟨#[101, 120, 105, 116]⟩, val := .int .u32 1, born := 4 }, { key := .string ⟨#[102, 111, 114, 107]⟩, val := .int .u32 2, born := 5 }, { key := .string ⟨#[107, 105, 108, 108]⟩, val := .int .u32 37, born := 6 }] 7)) := run_insert_new w #[{ key := .string ⟨#[114, 101, 97, 100]⟩, val := .int .u32 3, born := 0 }, { key := .string ⟨#[119, 114, 105, 116, 101]⟩, val := .int .u32 4, born := 1 }, { key := .string ⟨#[111, 112, 101, 110]⟩, val := .int .u32 5, born := 2 }, { key := .string ⟨#[99, 108, 111, 115, 101]⟩, val := .int .u32 6, born := 3 }, { key := .string ⟨#[101, 120, 105, 116]⟩, val := .int .u32 1, born := 4 }, { key := .string ⟨#[102, 111, 114, 107]⟩, val := .int .u32 2, born := 5 }] 6 ⟨#[107, 105, 108, 108]⟩ (.int .u32 37) rfl
 go_enter Try.func70, Try.ntmps70
 go_wp2
 go_ret
 exact MapEnd.made rfl rfl
set_option maxHeartbeats 1000000 in
theorem calls_none (a : Int) (w : World) (nx64 : a ≠ 3221225534) (nx86 : a ≠ 1073741827) (na64 : a ≠ 3221225655) (narm : a ≠ 1073741864) : Calls Try.prog 70 #[.int .u32 a] w fun e w' => MapEnd [] w e w' := by
 have bx64 : (a == 3221225534) = false := beq_eq_false_iff_ne.2 nx64
 have bx86 : (a == 1073741827) = false := beq_eq_false_iff_ne.2 nx86
 have ba64 : (a == 3221225655) = false := beq_eq_false_iff_ne.2 na64
 have barm : (a == 1073741864) = false := beq_eq_false_iff_ne.2 narm
 clear nx64 nx86 na64 narm
 go_enter Try.func70, Try.ntmps70
 go_wp2
 go_ret
 exact ⟨_, rfl, .inl ⟨rfl, rfl⟩, Below.refl _ _⟩
theorem calls_walk (a : Int) (w : World) : Calls Try.prog 70 #[.int .u32 a] w fun e w' => MapEnd (callsOf a) w e w' := by
 unfold callsOf
 split
 · rename_i h1; exact calls_x64 a w h1
 · rename_i h1
   split
   · rename_i h2; exact calls_x86 a w h1 h2
   · rename_i h2
     split
     · rename_i h3; exact calls_a64 a w h1 h2 h3
     · rename_i h3
       split
       · rename_i h4; exact calls_arm a w h1 h2 h3 h4
       · rename_i h4; exact calls_none a w h1 h2 h3 h4
end Go.Proofs.Ytekpbgmmogpbdaa.H
set_option maxRecDepth 100000
namespace Go.Proofs.Ytekpbgmmogpbdaa.H
open Go.RowKit
def hexL (n : Nat) : List Int := if n < 16 then [((hexc n : Nat) : Int)] else hexL (n / 16) ++ [((hexc (n % 16) : Nat) : Int)]
termination_by n
decreasing_by omega
def pad (n : Nat) : Nat → List Int
 | 0 => []
 | j + 1 => ((hexc (n / 16 ^ j % 16) : Nat) : Int) :: pad n j
theorem pad_snoc (j : Nat) : ∀ n, pad n (j + 1) = pad (n / 16) j ++ [((hexc (n % 16) : Nat) : Int)] := by
 induction j with
 | zero => intro n; simp [pad]
 | succ j ih =>
  intro n
  rw [pad, ih n]
  rw [pad]
  rw [Nat.div_div_eq_div_mul, show 16 * 16 ^ j = 16 ^ (j + 1) by rw [Nat.pow_succ, Nat.mul_comm]]
  rfl
theorem hexL_pad (j : Nat) : ∀ n, 16 ^ j ≤ n → n < 16 ^ (j + 1) → hexL n = pad n (j + 1) := by
 induction j with
 | zero =>
  intro n h1 h2
  rw [hexL, if_pos (by omega)]
  simp [pad]
  rw [Nat.mod_eq_of_lt (by omega)]
 | succ j ih =>
  intro n h1 h2
  have e1 : 16 ^ (j + 1) = 16 ^ j * 16 := Nat.pow_succ ..
  have e2 : 16 ^ (j + 1 + 1) = 16 ^ (j + 1) * 16 := Nat.pow_succ ..
  have h3 : 1 ≤ 16 ^ j := Nat.one_le_pow _ _ (by omega)
  rw [hexL, if_neg (by omega), pad_snoc]
  rw [ih (n / 16) (by omega) (by omega)]
theorem textGo_true (n j : Nat) : ∀ acc, textGo n j true acc = acc ++ pad n j := by
 induction j with
 | zero => intro acc; simp [textGo, pad]
 | succ j ih => intro acc; simp [textGo, pad, ih]
theorem textGo_false (j : Nat) : ∀ n acc, n < 16 ^ (j + 1) → textGo n (j + 1) false acc = acc ++ hexL n := by
 induction j with
 | zero =>
  intro n acc h
  rw [textGo, if_pos (by simp), textGo_true]
  rw [hexL, if_pos (by omega)]
  simp [pad]
  rw [Nat.mod_eq_of_lt (by omega)]
 | succ j ih =>
  intro n acc h
  have e2 : 16 ^ (j + 1 + 1) = 16 ^ (j + 1) * 16 := Nat.pow_succ ..
  by_cases hd : 0 < n / 16 ^ (j + 1) % 16
  · rw [textGo, if_pos (by simp [hd]), textGo_true]
    rw [hexL_pad (j + 1) n _ h]
    · simp [pad]
    · rcases Nat.lt_or_ge n (16 ^ (j + 1)) with hl | hl
      · rw [Nat.div_eq_of_lt hl] at hd; omega
      · exact hl
  rw [textGo, if_neg (by simp; omega)]
  refine ih n acc ?_
  rcases Nat.lt_or_ge n (16 ^ (j + 1)) with hl | hl
  · exact hl
  · have h1 : n / 16 ^ (j + 1) < 16 := (Nat.div_lt_iff_lt_mul (Nat.pow_pos (by omega)) ).2 (by omega)
    have h2 : 1 ≤ n / 16 ^ (j + 1) := (Nat.le_div_iff_mul_le (Nat.pow_pos (by omega))).2 (by omega)
    omega
def textL (n : Nat) : List Int := 48 :: 120 :: hexL n
theorem textGo_eq (n : Nat) (h : n < 18446744073709551616) : textGo n 16 false [48, 120] = textL n := by
 rw [textGo_false 15 n _ (by omega)]; rfl
def u8s (l : List Int) : List UInt8 := l.map fun x => UInt8.ofNat x.toNat
theorem u8s_append (a b : List Int) : u8s (a ++ b) = u8s a ++ u8s b := by simp [u8s]
theorem hexc_lt (d : Nat) (h : d < 16) : hexc d < 256 := by unfold hexc; split <;> omega
theorem hexd_hexc (d : Nat) (h : d < 16) : hexd (hexc d) = some d := by
 unfold hexc hexd
 split
 · rw [if_pos (by omega)]; congr 1; omega
 · rw [if_neg (by omega), if_pos (by omega)]; congr 1; omega
theorem hexc_hexd (c d : Nat) (h : hexd c = some d) : hexc d = c := by
 unfold hexd at h
 split at h
 · have := Option.some.inj h; unfold hexc; rw [if_pos (by omega)]; omega
 · split at h
   · have := Option.some.inj h; unfold hexc; rw [if_neg (by omega)]; omega
   · cases h
theorem hexGo_append (a : List UInt8) : ∀ b n, hexGo (a ++ b) n = (hexGo a n).bind (hexGo b) := by
 induction a with
 | nil => intro b n; rfl
 | cons c a ih =>
  intro b n
  simp only [List.cons_append, hexGo]
  cases hexd c.toNat with
  | none => rfl
  | some d => exact ih _ _
theorem hexGo_hexL (n : Nat) (h : n < 18446744073709551616) : hexGo (u8s (hexL n)) 0 = some n := by
 induction n using Nat.strongRecOn with
 | ind n ih =>
  rw [hexL]
  split
  · rename_i hl
    have hc := hexc_lt n hl
    simp [u8s, hexGo, Nat.mod_eq_of_lt hc, hexd_hexc n hl]
    omega
  · rename_i hl
    have hc := hexc_lt (n % 16) (by omega)
    rw [u8s_append, hexGo_append, ih (n / 16) (by omega) (by omega)]
    simp [u8s, hexGo, Nat.mod_eq_of_lt hc, hexd_hexc (n % 16) (by omega)]
    omega
theorem hexL_length (j : Nat) : ∀ n, n < 16 ^ (j + 1) → 1 ≤ (hexL n).length ∧ (hexL n).length ≤ j + 1 := by
 induction j with
 | zero => intro n h; rw [hexL, if_pos (by omega)]; simp
 | succ j ih =>
  intro n h
  have e2 : 16 ^ (j + 1 + 1) = 16 ^ (j + 1) * 16 := Nat.pow_succ ..
  rw [hexL]
  split
  · simp
  · have := ih (n / 16) (by omega)
    simp; omega
theorem hexL_head (n : Nat) : (hexL n).head? ≠ some 48 ∨ n = 0 := by
 induction n using Nat.strongRecOn with
 | ind n ih =>
  rw [hexL]
  split
  · rename_i hl
    by_cases h0 : n = 0
    · exact .inr h0
    left
    simp [hexc]; split <;> omega
  · rename_i hl
    rcases ih (n / 16) (by omega) with h | h
    · left
      cases hx : hexL (n / 16) with
      | nil => rw [hexL] at hx; split at hx <;> simp at hx
      | cons a l => rw [hx] at h; simpa using h
    · omega
theorem byte_inj {x : Int} (h0 : 0 ≤ x) (h : x < 256) {c : UInt8} (e : UInt8.ofNat x.toNat = c) : x = (c.toNat : Int) := by
 subst e
 simp
 omega
theorem hexL_bytes (n : Nat) : ∀ x ∈ hexL n, 0 ≤ x ∧ x < 256 := by
 induction n using Nat.strongRecOn with
 | ind n ih =>
  rw [hexL]
  split
  · rename_i hl
    intro x hx
    have := hexc_lt n hl
    simp at hx; subst hx; omega
  · intro x hx
    rw [List.mem_append] at hx
    rcases hx with hx | hx
    · exact ih (n / 16) (by omega) x hx
    · have := hexc_lt (n % 16) (by omega)
      simp at hx; subst hx; omega
theorem parse_text (n : Nat) (h : n < 18446744073709551616) : parseL (u8s (textL n)) = some n := by
 have hl := hexL_length 15 n (by omega)
 have hlen : (u8s (hexL n)).length = (hexL n).length := by simp [u8s]
 unfold parseL
 rw [if_pos]
 · exact hexGo_hexL n h
 · refine ⟨by simp [u8s, textL]; omega, by simp [u8s, textL]; omega, rfl, ?_⟩
   rintro ⟨h1, h2⟩
   have h3 : 1 < (hexL n).length := by simp [u8s, textL] at h2; omega
   rcases hexL_head n with hh | hh
   · cases hx : hexL n with
     | nil => rw [hx] at h3; simp at h3
     | cons a l =>
      rw [hx] at hh
      simp [u8s, textL, hx] at h1
      have hb := hexL_bytes n a (by rw [hx]; simp)
      have := byte_inj hb.1 hb.2 h1
      apply hh
      simp [this]
   · subst hh
     rw [hexL, if_pos (by omega)] at h3
     simp at h3
theorem snoc_rec {α : Type} {P : List α → Prop} (h0 : P []) (h1 : ∀ l c, P l → P (l ++ [c])) (l : List α) : P l := by
 have : ∀ r : List α, P r.reverse := by
  intro r
  induction r with
  | nil => exact h0
  | cons c r ih => rw [List.reverse_cons]; exact h1 _ _ ih
 have h := this l.reverse
 rwa [List.reverse_reverse] at h
theorem hexL_of_go (l : List UInt8) : ∀ v, l ≠ [] → l.length ≤ 16 → l.head? ≠ some 48 → hexGo l 0 = some v → 1 ≤ v ∧ v < 16 ^ l.length ∧ u8s (hexL v) = l := by
 induction l using snoc_rec with
 | h0 => intro v h; exact absurd rfl h
 | h1 l c ih =>
  intro v _ hl hh hg
  rw [hexGo_append] at hg
  by_cases hn : l = []
  · subst hn
    simp [hexGo] at hg hh ⊢
    cases hd : hexd c.toNat with
    | none => rw [hd] at hg; cases hg
    | some d =>
     rw [hd] at hg
     have h16 := hexd_lt hd
     have hc := hexc_hexd _ _ hd
     simp at hg
     have e : v = d := by omega
     subst e
     have h0 : v ≠ 0 := by
      rintro rfl
      apply hh
      apply UInt8.toNat_inj.mp
      rw [← hc]; rfl
     refine ⟨by omega, by omega, ?_⟩
     rw [hexL, if_pos h16]
     simp [u8s, hc]
  cases hu : hexGo l 0 with
  | none => rw [hu] at hg; cases hg
  | some u =>
   rw [hu] at hg
   simp at hl
   obtain ⟨i1, i2, i3⟩ := ih u hn (by omega) (by cases l with | nil => exact absurd rfl hn | cons a l => simpa using hh) hu
   simp [hexGo] at hg
   cases hd : hexd c.toNat with
   | none => rw [hd] at hg; cases hg
   | some d =>
    rw [hd] at hg
    simp at hg
    have h16 := hexd_lt hd
    have hc := hexc_hexd _ _ hd
    have hp : 16 ^ l.length ≤ 16 ^ 15 := Nat.pow_le_pow_right (by omega) (by omega)
    have e16 : (16 : Nat) ^ 15 = 1152921504606846976 := by decide
    have e : v = u * 16 + d := by omega
    have e2 : 16 ^ (l.length + 1) = 16 ^ l.length * 16 := Nat.pow_succ ..
    refine ⟨by omega, by simp; omega, ?_⟩
    rw [hexL, if_neg (by omega), u8s_append, show v / 16 = u by omega, show v % 16 = d by omega, i3]
    simp [u8s, hc]
theorem text_parse (l : List UInt8) (v : Nat) (h : parseL l = some v) : u8s (textL v) = l := by
 unfold parseL at h
 split at h
 · rename_i hc
   obtain ⟨h1, h2, h3, h4⟩ := hc
   match l, h1, h2, h3, h4, h with
   | a :: b :: c :: l, h1, h2, h3, h4, h =>
    simp at h3
    obtain ⟨rfl, rfl⟩ := h3
    simp at h1 h2 h4 h
    have ht : u8s (textL v) = 48 :: 120 :: u8s (hexL v) := rfl
    rw [ht]
    congr 2
    by_cases hz : c = 48
    rotate_left
    · exact (hexL_of_go (c :: l) v (by simp) (by simp; omega) (by simpa using hz) h).2.2
    have hl : l = [] := by
     have := h4 hz
     cases l with
     | nil => rfl
     | cons x l => simp at this
    subst hl hz
    have e : hexGo [48] 0 = some 0 := rfl
    rw [e] at h
    have := Option.some.inj h
    subst this
    rw [hexL, if_pos (by omega)]
    rfl
 · cases h
end Go.Proofs.Ytekpbgmmogpbdaa.H
set_option maxRecDepth 100000
namespace Go.Proofs.Ytekpbgmmogpbdaa.H
open Go.RowKit Go.Proofs.YtekpbgmmogpbdaaW.PrintWords Go.Instr
def textOf (l : NL) (n : Nat) : ByteArray := if (nameOf l n).toList.isEmpty = true then strOfNums (textL n) else nameOf l n
def readOf (l : NL) (s : ByteArray) : Int × Int :=
 match numOf l s with
 | some v => (v, 0)
 | none => match parseL s.data.toList with
  | none => (0, 2)
  | some n => if 4294967296 ≤ n ∨ (nameOf l n).toList.isEmpty = false then (0, 2) else (n, 0)
def Res2 (r : Int × Int) (e : Ending) : Prop := e = .returned (.tuple #[.int .u32 r.1, .int .i64 r.2])
theorem text_of (n : Nat) (h : n < 18446744073709551616) (w : World) :
 Calls Try.prog 53 #[.int .u64 n] w fun e w' => e = .returned (.string (strOfNums (textL n))) ∧ Below w.heap.size w w' := by
 have := text_walk n h w
 rw [textGo_eq n h] at this
 exact this
set_option maxHeartbeats 400000 in
theorem ntext_walk (l : NL) (hu : Uniq l) (m : Value) (n : Nat) (hn : n < 4294967296) (w : World) (hm : HasMap w m l) :
 Calls Try.prog 68 #[m, .int .u32 n] w fun e w' => e = .returned (.string (textOf l n)) ∧ Below w.heap.size w w' := by
 have HN := Lib.hid (name_walk l hu m n w hm)
 have HU := Lib.hid hu
 clear hm hu
 unfold textOf
 generalize nameOf l n = S at *
 cases hS : S.toList.isEmpty with
 | true =>
  have hs2 : S.toList = [] := by simpa using hS
  have HT := Lib.hid (text_of n (by omega))
  rw [if_pos rfl]
  go_enter Try.func68, Try.ntmps68
  go_wp2_with fail
  refine HN.out.mono ?_
  rintro e w1 ⟨rfl, hb1⟩
  have HB := Lib.hid hb1
  clear hb1
  go_wp2_with fail
  refine (HT.out w1).mono ?_
  rintro e w2 ⟨rfl, hb2⟩
  have HB2 := Lib.hid hb2
  clear hb2
  go_wp2
  go_ret
  exact ⟨rfl, below_then HB.out HB.out.size HB2.out⟩
 | false =>
  have hs2 : ¬ S.toList = [] := by simpa using hS
  rw [if_neg (by decide)]
  go_enter Try.func68, Try.ntmps68
  go_wp2_with fail
  refine HN.out.mono ?_
  rintro e w1 ⟨rfl, hb1⟩
  have HB := Lib.hid hb1
  clear hb1
  go_wp2
  go_ret
  exact ⟨rfl, HB.out⟩
set_option maxHeartbeats 400000 in
theorem nread_walk (l : NL) (hu : Uniq l) (m : Value) (s : ByteArray) (w : World) (hm : HasMap w m l) :
 Calls Try.prog 76 #[m, .string s] w fun e w' => Res2 (readOf l s) e ∧ Below w.heap.size w w' := by
 have hlk := run_lookup_has hm s
 cases hv : numOf l s with
 | some v =>
  have hr : readOf l s = (v, 0) := by unfold readOf; rw [hv]
  rw [hr]
  rw [hv] at hlk
  have hlk2 : (lookup 82 m (.string s) true).run Try.prog w = .ok (.tuple #[.int .u32 v, .bool true]) w := hlk
  clear hv hr hm hlk
  go_enter Try.func76, Try.ntmps76
  go_wp2
  go_ret2
  exact ⟨rfl, Below.refl _ _⟩
 | none =>
  rw [hv] at hlk
  have hlk2 : (lookup 82 m (.string s) true).run Try.prog w = .ok (.tuple #[.int .u32 0, .bool false]) w := hlk
  have HP := Lib.hid (parse_walk s w)
  cases hp : parseL s.data.toList with
  | none =>
   have hr : readOf l s = (0, 2) := by unfold readOf; rw [hv, hp]
   rw [hr]
   rw [hp] at HP
   clear hv hr hm hlk hp
   go_enter Try.func76, Try.ntmps76
   go_wp2_with fail
   refine HP.out.mono ?_
   rintro e w1 ⟨he, hb1⟩
   have he2 : e = .returned (.tuple #[.int .u64 0, .int .i64 2]) := he
   subst he2
   have HB := Lib.hid hb1
   clear hb1 he
   go_wp2
   go_ret2
   exact ⟨rfl, HB.out⟩
  | some n =>
   have hn := parseL_lt hp
   rw [hp] at HP
   by_cases hbig : 4294967296 ≤ n
   · have hr : readOf l s = (0, 2) := by unfold readOf; rw [hv, hp]; simp only []; rw [if_pos (.inl hbig)]
     rw [hr]
     clear hv hr hm hlk hp
     go_enter Try.func76, Try.ntmps76
     go_wp2_with fail
     refine HP.out.mono ?_
     rintro e w1 ⟨he, hb1⟩
     have he2 : e = .returned (.tuple #[.int .u64 n, .int .i64 0]) := he
     subst he2
     have HB := Lib.hid hb1
     clear hb1 he
     go_wp2
     go_ret2
     exact ⟨rfl, HB.out⟩
   have HN := Lib.hid (fun w1 (hm1 : HasMap w1 m l) => name_walk l hu m n w1 hm1)
   have HM := Lib.hid hm
   have hlt : n < 4294967296 := by omega
   cases hS : (nameOf l n).toList.isEmpty with
   | true =>
    have hr : readOf l s = ((n : Int), 0) := by unfold readOf; rw [hv, hp]; simp only []; rw [if_neg (by simp [hS]; omega)]
    rw [hr]
    clear hv hr hm hlk hp hbig hu
    generalize nameOf l n = S at *
    have hs2 : S.toList = [] := by simpa using hS
    go_enter Try.func76, Try.ntmps76
    go_wp2_with fail
    refine HP.out.mono ?_
    rintro e w1 ⟨he, hb1⟩
    have he2 : e = .returned (.tuple #[.int .u64 n, .int .i64 0]) := he
    subst he2
    have HB := Lib.hid hb1
    clear hb1 he
    go_wp2_with fail
    refine (HN.out w1 (HM.out.below HB.out)).mono ?_
    rintro e w2 ⟨rfl, hb2⟩
    have HB2 := Lib.hid hb2
    clear hb2
    go_wp2
    go_ret2
    exact ⟨rfl, below_then HB.out HB.out.size HB2.out⟩
   | false =>
    have hr : readOf l s = (0, 2) := by unfold readOf; rw [hv, hp]; simp only []; rw [if_pos (.inr hS)]
    rw [hr]
    clear hv hr hm hlk hp hbig hu
    generalize nameOf l n = S at *
    have hs2 : ¬ S.toList = [] := by simpa using hS
    go_enter Try.func76, Try.ntmps76
    go_wp2_with fail
    refine HP.out.mono ?_
    rintro e w1 ⟨he, hb1⟩
    have he2 : e = .returned (.tuple #[.int .u64 n, .int .i64 0]) := he
    subst he2
    have HB := Lib.hid hb1
    clear hb1 he
    go_wp2_with fail
    refine (HN.out w1 (HM.out.below HB.out)).mono ?_
    rintro e w2 ⟨rfl, hb2⟩
    have HB2 := Lib.hid hb2
    clear hb2
    go_wp2
    go_ret2
    exact ⟨rfl, below_then HB.out HB.out.size HB2.out⟩
theorem machine_walk (n : Nat) (hn : n < 4294967296) (w : World) :
 Calls Try.prog 48 #[.int .u32 n] w fun e w' => e = .returned (.string (textOf ML n)) ∧ Below w.heap.size w w' := by
 have HT := Lib.hid (ntext_walk ML uniq_ML)
 have HM := Lib.hid (machines_walk w)
 go_enter Try.func48, Try.ntmps48
 go_wp2_with fail
 refine HM.out.mono ?_
 rintro e w1 ⟨m, rfl, hm, hb⟩
 have HH := Lib.hid hm
 have HB := Lib.hid hb
 clear hm hb
 go_wp2_with fail
 refine (HT.out m n hn w1 HH.out).mono ?_
 rintro e w2 ⟨rfl, hb2⟩
 have HB2 := Lib.hid hb2
 clear hb2
 go_wp2
 go_ret
 exact ⟨rfl, below_then HB.out HB.out.size HB2.out⟩
theorem call_walk (a : Int) (n : Nat) (hn : n < 4294967296) (w : World) :
 Calls Try.prog 49 #[.int .u32 a, .int .u32 n] w fun e w' => e = .returned (.string (textOf (callsOf a) n)) ∧ Below w.heap.size w w' := by
 have HT := Lib.hid (ntext_walk (callsOf a) (uniq_calls a))
 have HM := Lib.hid (calls_walk a w)
 generalize callsOf a = L at *
 go_enter Try.func49, Try.ntmps49
 go_wp2_with fail
 refine HM.out.mono ?_
 rintro e w1 ⟨m, rfl, hm, hb⟩
 have HH := Lib.hid hm
 have HB := Lib.hid hb
 clear hm hb
 go_wp2_with fail
 refine (HT.out m n hn w1 HH.out).mono ?_
 rintro e w2 ⟨rfl, hb2⟩
 have HB2 := Lib.hid hb2
 clear hb2
 go_wp2
 go_ret
 exact ⟨rfl, below_then HB.out HB.out.size HB2.out⟩
theorem readMachine_walk (s : ByteArray) (w : World) :
 Calls Try.prog 59 #[.string s] w fun e w' => Res2 (readOf ML s) e ∧ Below w.heap.size w w' := by
 have HT := Lib.hid (nread_walk ML uniq_ML)
 have HM := Lib.hid (machines_walk w)
 go_enter Try.func59, Try.ntmps59
 go_wp2_with fail
 refine HM.out.mono ?_
 rintro e w1 ⟨m, rfl, hm, hb⟩
 have HH := Lib.hid hm
 have HB := Lib.hid hb
 clear hm hb
 go_wp2_with fail
 refine (HT.out m s w1 HH.out).mono ?_
 rintro e w2 ⟨he, hb2⟩
 have he2 : e = .returned (.tuple #[.int .u32 (readOf ML s).1, .int .i64 (readOf ML s).2]) := he
 subst he2
 have HB2 := Lib.hid hb2
 clear hb2 he
 go_wp2
 go_ret2
 exact ⟨rfl, below_then HB.out HB.out.size HB2.out⟩
theorem readCall_walk (a : Int) (s : ByteArray) (w : World) :
 Calls Try.prog 60 #[.int .u32 a, .string s] w fun e w' => Res2 (readOf (callsOf a) s) e ∧ Below w.heap.size w w' := by
 have HT := Lib.hid (nread_walk (callsOf a) (uniq_calls a))
 have HM := Lib.hid (calls_walk a w)
 generalize callsOf a = L at *
 go_enter Try.func60, Try.ntmps60
 go_wp2_with fail
 refine HM.out.mono ?_
 rintro e w1 ⟨m, rfl, hm, hb⟩
 have HH := Lib.hid hm
 have HB := Lib.hid hb
 clear hm hb
 go_wp2_with fail
 refine (HT.out m s w1 HH.out).mono ?_
 rintro e w2 ⟨he, hb2⟩
 have he2 : e = .returned (.tuple #[.int .u32 (readOf L s).1, .int .i64 (readOf L s).2]) := he
 subst he2
 have HB2 := Lib.hid hb2
 clear hb2 he
 go_wp2
 go_ret2
 exact ⟨rfl, below_then HB.out HB.out.size HB2.out⟩
def errPre : ByteArray := ⟨#[101, 114, 114, 111, 114, 58]⟩
def actOf (v : Nat) : ByteArray × Int :=
 if (nameOf AL v).toList.isEmpty = false then (nameOf AL v, 0)
 else if (v + 4294967296 - 327680) % 4294967296 ≤ 4095 then (errPre ++ strOfNums (textL ((v + 4294967296 - 327680) % 4294967296)), 0) else (⟨#[]⟩, 1)
def Res1 (r : ByteArray × Int) (e : Ending) : Prop := e = .returned (.tuple #[.string r.1, .int .i64 r.2])
def readAct (s : ByteArray) : Int × Int :=
 match numOf AL s with
 | some v => (v, 0)
 | none => if s.size < 6 ∨ ¬ (s.extract 0 6).toList = [101, 114, 114, 111, 114, 58] then (0, 2) else
  match parseL (s.extract 6 s.size).data.toList with
  | none => (0, 2)
  | some n => if 4095 < n then (0, 2) else (327680 + n, 0)
theorem textL_size (n : Nat) (h : n < 18446744073709551616) : (strOfNums (textL n)).size ≤ 18 := by
 rw [strOfNums_size]
 have := (hexL_length 15 n (by omega)).2
 simp [textL]; omega
set_option maxHeartbeats 1000000 in
theorem action_walk (v : Nat) (hv : v < 4294967296) (w : World) :
 Calls Try.prog 32 #[.int .u32 v] w fun e w' => Res1 (actOf v) e ∧ Below w.heap.size w w' := by
 have HM := Lib.hid (actions_walk w)
 have HN := Lib.hid (name_walk AL uniq_AL)
 unfold actOf
 cases hS : (nameOf AL v).toList.isEmpty with
 | false =>
  rw [if_pos rfl]
  have hs2 : ¬ (nameOf AL v).toList = [] := by simpa using hS
  generalize hq : nameOf AL (v : Int) = S at *
  have HQ := Lib.hid hq
  clear hq
  go_enter Try.func32, Try.ntmps32
  go_wp2_with fail
  refine HM.out.mono ?_
  rintro e w1 ⟨m, rfl, hm, hb⟩
  have HH := Lib.hid hm
  have HB := Lib.hid hb
  clear hm hb
  go_wp2_with fail
  refine (HN.out m v w1 HH.out).mono ?_
  rw [HQ.out]
  rintro e w2 ⟨rfl, hb2⟩
  have HB2 := Lib.hid hb2
  clear hb2
  go_wp2
  go_ret2
  exact ⟨rfl, below_then HB.out HB.out.size HB2.out⟩
 | true =>
  rw [if_neg (by decide)]
  have hs2 : (nameOf AL v).toList = [] := by simpa using hS
  generalize hq : nameOf AL (v : Int) = S at *
  have HQ := Lib.hid hq
  clear hq
  by_cases hlo : 327680 ≤ v
  rotate_left
  · rw [if_neg (by omega)]
    go_enter Try.func32, Try.ntmps32
    go_wp2_with fail
    refine HM.out.mono ?_
    rintro e w1 ⟨m, rfl, hm, hb⟩
    have HH := Lib.hid hm
    have HB := Lib.hid hb
    clear hm hb
    go_wp2_with fail
    refine (HN.out m v w1 HH.out).mono ?_
    rw [HQ.out]
    rintro e w2 ⟨rfl, hb2⟩
    have HB2 := Lib.hid hb2
    clear hb2
    go_wp2
    go_ret2
    exact ⟨rfl, below_then HB.out HB.out.size HB2.out⟩
  have ed : (v + 4294967296 - 327680) % 4294967296 = v - 327680 := by omega
  rw [ed]
  by_cases h95 : v ≤ 331775
  rotate_left
  · rw [if_neg (by omega)]
    clear ed
    go_enter Try.func32, Try.ntmps32
    go_wp2_with fail
    refine HM.out.mono ?_
    rintro e w1 ⟨m, rfl, hm, hb⟩
    have HH := Lib.hid hm
    have HB := Lib.hid hb
    clear hm hb
    go_wp2_with fail
    refine (HN.out m v w1 HH.out).mono ?_
    rw [HQ.out]
    rintro e w2 ⟨rfl, hb2⟩
    have HB2 := Lib.hid hb2
    clear hb2
    go_wp2
    go_ret2
    exact ⟨rfl, below_then HB.out HB.out.size HB2.out⟩
  rw [if_pos (by omega)]
  have HT := Lib.hid (fun (x : Int) (h0 : x = (v : Int) - 327680) w => by
   have := text_of (v - 327680) (by omega) w
   rw [show (((v - 327680 : Nat) : Int)) = x by omega] at this
   exact this)
  have hsz := textL_size (v - 327680) (by omega)
  generalize strOfNums (textL (v - 327680)) = T at *
  clear ed
  go_enter Try.func32, Try.ntmps32
  go_wp2_with fail
  refine HM.out.mono ?_
  rintro e w1 ⟨m, rfl, hm, hb⟩
  have HH := Lib.hid hm
  have HB := Lib.hid hb
  clear hm hb
  go_wp2_with fail
  refine (HN.out m v w1 HH.out).mono ?_
  rw [HQ.out]
  rintro e w2 ⟨rfl, hb2⟩
  have HB2 := Lib.hid hb2
  clear hb2
  go_wp2_with fail
  refine (HT.out _ rfl w2).mono ?_
  rintro e w3 ⟨rfl, hb3⟩
  have HB3 := Lib.hid hb3
  clear hb3
  go_wp2
  go_ret2
  exact ⟨rfl, below_then (below_then HB.out HB.out.size HB2.out) (Nat.le_trans HB.out.size HB2.out.size) HB3.out⟩
set_option maxHeartbeats 1000000 in
theorem readAction_walk (s : ByteArray) (w : World) :
 Calls Try.prog 39 #[.string s] w fun e w' => Res2 (readAct s) e ∧ Below w.heap.size w w' := by
 have HM := Lib.hid (actions_walk w)
 have HL := Lib.hid (fun (m : Value) (w1 : World) (h : HasMap w1 m AL) => run_lookup_has h s)
 unfold readAct
 cases hv : numOf AL s with
 | some v =>
  rw [hv] at HL
  clear hv
  go_enter Try.func39, Try.ntmps39
  go_wp2_with fail
  refine HM.out.mono ?_
  rintro e w1 ⟨m, rfl, hm, hb⟩
  have HB := Lib.hid hb
  have hlk : (lookup 82 m (.string s) true).run Try.prog w1 = .ok (.tuple #[.int .u32 v, .bool true]) w1 := HL.out m w1 hm
  clear hm hb
  go_wp2
  go_ret2
  exact ⟨rfl, HB.out⟩
 | none =>
  rw [hv] at HL
  clear hv
  simp only []
  by_cases h6 : s.size < 6
  · rw [if_pos (.inl h6)]
    go_enter Try.func39, Try.ntmps39
    go_wp2_with fail
    refine HM.out.mono ?_
    rintro e w1 ⟨m, rfl, hm, hb⟩
    have HB := Lib.hid hb
    have hlk : (lookup 82 m (.string s) true).run Try.prog w1 = .ok (.tuple #[.int .u32 0, .bool false]) w1 := HL.out m w1 hm
    clear hm hb
    go_wp2
    go_ret2
    exact ⟨rfl, HB.out⟩
  by_cases hx : (s.extract 0 6).toList = [101, 114, 114, 111, 114, 58]
  rotate_left
  · rw [if_pos (.inr hx)]
    go_enter Try.func39, Try.ntmps39
    go_wp2_with fail
    refine HM.out.mono ?_
    rintro e w1 ⟨m, rfl, hm, hb⟩
    have HB := Lib.hid hb
    have hlk : (lookup 82 m (.string s) true).run Try.prog w1 = .ok (.tuple #[.int .u32 0, .bool false]) w1 := HL.out m w1 hm
    clear hm hb
    have hxb : ((s.extract 0 6).toList == [101, 114, 114, 111, 114, 58]) = false := by simpa using hx
    go_wp2
    go_ret2
    exact ⟨rfl, HB.out⟩
  rw [if_neg (by rintro (h | h); exact h6 h; exact h hx)]
  have HP := Lib.hid (parse_walk (s.extract 6 s.size))
  cases hp : parseL (s.extract 6 s.size).data.toList with
  | none =>
   rw [hp] at HP
   clear hp
   go_enter Try.func39, Try.ntmps39
   go_wp2_with fail
   refine HM.out.mono ?_
   rintro e w1 ⟨m, rfl, hm, hb⟩
   have HB := Lib.hid hb
   have hlk : (lookup 82 m (.string s) true).run Try.prog w1 = .ok (.tuple #[.int .u32 0, .bool false]) w1 := HL.out m w1 hm
   clear hm hb
   go_wp2_with fail
   refine (HP.out w1).mono ?_
   rintro e w2 ⟨he, hb1⟩
   have he2 : e = .returned (.tuple #[.int .u64 0, .int .i64 2]) := he
   subst he2
   have HB1 := Lib.hid hb1
   clear hb1 he
   go_wp2
   go_ret2
   exact ⟨rfl, below_then HB.out HB.out.size HB1.out⟩
  | some n =>
   have hn := parseL_lt hp
   rw [hp] at HP
   clear hp
   by_cases h95 : 4095 < n
   · simp only []
     rw [if_pos h95]
     go_enter Try.func39, Try.ntmps39
     go_wp2_with fail
     refine HM.out.mono ?_
     rintro e w1 ⟨m, rfl, hm, hb⟩
     have HB := Lib.hid hb
     have hlk : (lookup 82 m (.string s) true).run Try.prog w1 = .ok (.tuple #[.int .u32 0, .bool false]) w1 := HL.out m w1 hm
     clear hm hb
     go_wp2_with fail
     refine (HP.out w1).mono ?_
     rintro e w2 ⟨he, hb1⟩
     have he2 : e = .returned (.tuple #[.int .u64 n, .int .i64 0]) := he
     subst he2
     have HB1 := Lib.hid hb1
     clear hb1 he
     go_wp2
     go_ret2
     exact ⟨rfl, below_then HB.out HB.out.size HB1.out⟩
   simp only []
   rw [if_neg h95]
   go_enter Try.func39, Try.ntmps39
   go_wp2_with fail
   refine HM.out.mono ?_
   rintro e w1 ⟨m, rfl, hm, hb⟩
   have HB := Lib.hid hb
   have hlk : (lookup 82 m (.string s) true).run Try.prog w1 = .ok (.tuple #[.int .u32 0, .bool false]) w1 := HL.out m w1 hm
   clear hm hb
   go_wp2_with fail
   refine (HP.out w1).mono ?_
   rintro e w2 ⟨he, hb1⟩
   have he2 : e = .returned (.tuple #[.int .u64 n, .int .i64 0]) := he
   subst he2
   have HB1 := Lib.hid hb1
   clear hb1 he
   go_wp2
   go_ret2
   exact ⟨rfl, below_then HB.out HB.out.size HB1.out⟩
def u32P (a : Int) : Prop := 0 ≤ a ∧ a < 4294967296
instance (a : Int) : Decidable (u32P a) := by unfold u32P; infer_instance
def names_Machine.f (a0 : Int) : Option ByteArray := if u32P a0 then some (textOf ML a0.toNat) else none
theorem names_Machine.calls (a0 : Int) (r : ByteArray) (w : World) (h : names_Machine.f a0 = some r) :
 Calls Try.prog 48 #[.int .u32 a0] w fun e w' => e = .returned (.string r) ∧ Below w.heap.size w w' := by
 unfold names_Machine.f at h
 split at h
 · rename_i hh
   obtain ⟨n, rfl⟩ := Int.eq_ofNat_of_zero_le hh.1
   have hr := Option.some.inj h
   subst hr
   exact machine_walk n (by have := hh.2; omega) w
 · cases h
def names_Call.f (a0 : Int) (a1 : Int) : Option ByteArray := if u32P a1 then some (textOf (callsOf a0) a1.toNat) else none
theorem names_Call.calls (a0 : Int) (a1 : Int) (r : ByteArray) (w : World) (h : names_Call.f a0 a1 = some r) :
 Calls Try.prog 49 #[.int .u32 a0, .int .u32 a1] w fun e w' => e = .returned (.string r) ∧ Below w.heap.size w w' := by
 unfold names_Call.f at h
 split at h
 · rename_i hh
   obtain ⟨n, rfl⟩ := Int.eq_ofNat_of_zero_le hh.1
   have hr := Option.some.inj h
   subst hr
   exact call_walk a0 n (by have := hh.2; omega) w
 · cases h
def names_ReadMachine.f (a0 : ByteArray) : Option (Int × Int) := some (readOf ML a0)
theorem names_ReadMachine.calls (a0 : ByteArray) (r1 : Int) (r2 : Int) (w : World) (h : names_ReadMachine.f a0 = some (r1, r2)) :
 Calls Try.prog 59 #[.string a0] w fun e w' => e = .returned (.tuple #[.int .u32 r1, .int .i64 r2]) ∧ Below w.heap.size w w' := by
 have hr := Option.some.inj h
 refine (readMachine_walk a0 w).mono fun e w' ⟨he, hb⟩ => ⟨?_, hb⟩
 rw [hr] at he
 exact he
def names_ReadCall.f (a0 : Int) (a1 : ByteArray) : Option (Int × Int) := some (readOf (callsOf a0) a1)
theorem names_ReadCall.calls (a0 : Int) (a1 : ByteArray) (r1 : Int) (r2 : Int) (w : World) (h : names_ReadCall.f a0 a1 = some (r1, r2)) :
 Calls Try.prog 60 #[.int .u32 a0, .string a1] w fun e w' => e = .returned (.tuple #[.int .u32 r1, .int .i64 r2]) ∧ Below w.heap.size w w' := by
 have hr := Option.some.inj h
 refine (readCall_walk a0 a1 w).mono fun e w' ⟨he, hb⟩ => ⟨?_, hb⟩
 rw [hr] at he
 exact he
def names_Action.f (a0 : Int) : Option (ByteArray × Int) := if u32P a0 then some (actOf a0.toNat) else none
theorem names_Action.calls (a0 : Int) (r1 : ByteArray) (r2 : Int) (w : World) (h : names_Action.f a0 = some (r1, r2)) :
 Calls Try.prog 32 #[.int .u32 a0] w fun e w' => e = .returned (.tuple #[.string r1, .int .i64 r2]) ∧ Below w.heap.size w w' := by
 unfold names_Action.f at h
 split at h
 · rename_i hh
   obtain ⟨n, rfl⟩ := Int.eq_ofNat_of_zero_le hh.1
   have hr := Option.some.inj h
   refine (action_walk n (by have := hh.2; omega) w).mono fun e w' ⟨he, hb⟩ => ⟨?_, hb⟩
   rw [Int.toNat_natCast] at hr
   rw [hr] at he
   exact he
 · cases h
def names_ReadAction.f (a0 : ByteArray) : Option (Int × Int) := some (readAct a0)
theorem names_ReadAction.calls (a0 : ByteArray) (r1 : Int) (r2 : Int) (w : World) (h : names_ReadAction.f a0 = some (r1, r2)) :
 Calls Try.prog 39 #[.string a0] w fun e w' => e = .returned (.tuple #[.int .u32 r1, .int .i64 r2]) ∧ Below w.heap.size w w' := by
 have hr := Option.some.inj h
 refine (readAction_walk a0 w).mono fun e w' ⟨he, hb⟩ => ⟨?_, hb⟩
 rw [hr] at he
 exact he
end Go.Proofs.Ytekpbgmmogpbdaa.H
set_option maxRecDepth 100000
namespace Go.Proofs.Ytekpbgmmogpbdaa.H
open Go.RowKit Go.Proofs.YtekpbgmmogpbdaaW.PrintWords
section
variable {P : Program}
theorem run_storeVar_row {g : Nat} {t ty : TypeId} {old cs : Array Value} (w : World) (hg : w.heap[g]? = some (.cells old t (0, 0))) (hs : old.size = cs.size)
 (hi : (P.info? ty).map (·.size) = some cs.size) (h1 : ∀ v ∈ cs.toList, v.oneCell' = true) :
 (storeVar ty ⟨g, 0, none⟩ (.agg cs)).run P w = .ok () (w.setRow g cs) := by
 have hst := run_storeCells_at P g 0 t cs.toList 0 old w hg (by simp; omega) h1
 have e : (old.toList.take (0 + 0) ++ cs.toList ++ old.toList.drop (0 + 0 + cs.toList.length)).toArray = cs := by
  rw [List.drop_eq_nil_of_le (by simp; omega)]
  simp
 rw [e] at hst
 cases hq : P.info? ty with
 | none => simp [hq] at hi
 | some i =>
  have hs' : i.size = cs.size := by simpa [hq] using hi
  simp [storeVar, Sem.run_bind, sizeOf, typeInfo, hq, hs', hst, Value.cells]
theorem wpList_store_row {ops : Array Oper} {rest : List Oper} {o : Oper} {a : Act} {w : World} {Q : Exit → Act → World → Prop} (hgd : o.guard = none) (ty : TypeId) (x y : Operand) (ho : o.op = .store ty x y) (hdst : o.dst = none)
 (g : Nat) (hx : a.eval x = .pointer (some ⟨g, 0, none⟩)) (cs : Array Value) (hy : a.eval y = .agg cs) (t : TypeId) (old : Array Value) (hg : w.heap[g]? = some (.cells old t (0, 0))) (hs : old.size = cs.size)
 (hi : (P.info? ty).map (·.size) = some cs.size) (h1 : ∀ v ∈ cs.toList, v.oneCell' = true)
 (h : wpList P ops Q rest a (w.setRow g cs)) : wpList P ops Q (o :: rest) a w :=
 wpList_plain hgd fun _ hK => by
  unfold Oper.wp execOp
  simp only [ho, hx, hy, Instr.storeAt, Instr.sureAddr, Sem.run_bind, Sem.run_pure, Result.andThen_ok, run_storeVar_row w hg hs hi h1]
  have hp : a.put o.dst undef = a := by rw [hdst]; rfl
  simp only [Oper.upon, hp]
  exact hK _ _ h
theorem heap_setRow_same (w : World) (g : Nat) (cs old : Array Value) (t : TypeId) (fr : Nat × Nat) (hg : w.heap[g]? = some (.cells old t fr)) : (w.setRow g cs).heap[g]? = some (.cells cs t fr) := by
 simp [World.setRow, Array.getElem?_modify, hg]
theorem heap_setRow_other (w : World) (g k : Nat) (cs : Array Value) (h : k ≠ g) : (w.setRow g cs).heap[k]? = w.heap[k]? := by
 simp only [World.setRow, Array.getElem?_modify]
 rw [if_neg (by omega)]
end
end Go.Proofs.Ytekpbgmmogpbdaa.H
set_option maxRecDepth 100000
namespace Go.Proofs.Ytekpbgmmogpbdaa.H
open Go.RowKit Go.Proofs.YtekpbgmmogpbdaaW.PrintWords
section
variable {P : Program} {ops : Array Oper} {Q : Exit → Act → World → Prop} {md : Region.Mode} {S S' : World → Prop}
theorem wpAnyH_mono (h : ∀ w, S' w → S w) : ∀ (fuel : Nat) (listed : Array Bool) (a : Act) (w : World), wpAnyH P md ops Q S' fuel listed a w → wpAnyH P md ops Q S fuel listed a w
 | 0, _, _, _, k => k
 | fuel + 1, listed, a, w, k => ⟨k.1, fun i hi => wpOp_mono (fun a' w' h' => ⟨h _ h'.1, wpAnyH_mono h fuel _ a' w' h'.2⟩) (k.2 i hi)⟩
theorem wpAnyH_one (i : Nat) {o : Oper} {fuel : Nat} {listed : Array Bool} {a : Act} {w : World} (S' : World → Prop) (hr : Region.ready md ops listed = [i]) (ho : ops.toList[i]? = some o) (hS : ∀ w, S' w → S w)
 (h : ∀ K' : Act → World → Prop, Shut (∀ a w, S' w → (S' w → wpAnyH P md ops Q S' fuel (listed.setIfInBounds i true) a w) → K' a w) → if Region.wanted o (yielded ops a.tmps) = true then Oper.wp P o a w K' Q else K' (a.put o.dst undef) w) :
 wpAnyH P md ops Q S (fuel + 1) listed a w := by
 refine wpAnyH_all hr (by simp) (fun j hj => ?_)
 obtain rfl : j = i := by simpa using hj
 exact wpOp_step (by simpa using ho) (fun K' hK => h K' (fun a w hs hW => hK a w ⟨hS _ hs, wpAnyH_mono hS _ _ _ _ (hW hs)⟩))
theorem wpAnyH_takeL (i : Nat) {oi : Oper} {v : Value} {fuel : Nat} {listed : Array Bool} {a : Act} {w : World} (hi : ops.toList[i]? = some oi)
 (hs : Region.noSelect ops = true) (hf : Region.free md ops listed i = true) (hr : (Region.ready md ops listed).contains i = true)
 (hQ : ∀ c a w, Q (.panic c) (a.put oi.dst v) w → Q (.panic c) a w) (hS : S w) (hy : YieldsIf P ops S oi v a)
 (h : wpAnyH P md ops Q S fuel (listed.setIfInBounds i true) (a.put oi.dst v) w) : wpAnyH P md ops Q S (fuel + 1) listed a w :=
 wpAnyH_take (by simpa using hi) hs hf hr hQ hy hS h
theorem yieldsIf_of {o : Oper} {a : Act} {v : Value} (hw : Region.wanted o (yielded ops a.tmps) = true) (h : ∀ w, S w → (execOp a.eval o).run P w = .ok (.value v) w) : YieldsIf P ops S o v a := .inl ⟨hw, h⟩
end
theorem letvar (w1 : World) (Z R : Array Value) (t : TypeId) : ∃ W3, (w1.alloc (.cells Z t)).setRow w1.heap.size R = W3 ∧ W3.heap[w1.heap.size]? = some (.cells R t (0, 0)) ∧ Below w1.heap.size w1 W3 := by
 refine ⟨_, rfl, heap_setRow_same _ _ _ _ _ _ (heap_alloc_new w1 (.cells Z t)), ?_⟩
 exact ((Below.refl _ _).alloc (Nat.le_refl _) _).trans ⟨rfl, rfl, rfl, by simp [World.setRow], fun k hk => heap_setRow_other _ _ _ _ (by omega)⟩
theorem below_more {B : Nat} {w0 w1 w2 : World} (h : Below B w0 w1) (hB : B ≤ w0.heap.size) (k : Below w1.heap.size w1 w2) : Below B w0 w2 := h.trans (k.mono (Nat.le_trans hB h.size))
theorem wpAnyH_stronger {P : Program} {md : Region.Mode} {ops : Array Oper} {Q : Exit → Act → World → Prop} {S : World → Prop} (S' : World → Prop) {fuel : Nat} {listed : Array Bool} {a : Act} {w : World} (h : ∀ w, S' w → S w)
 (k : wpAnyH P md ops Q S' fuel listed a w) : wpAnyH P md ops Q S fuel listed a w := wpAnyH_mono h _ _ _ _ k
def Gives (P : Program) (n : Nat) (args : Array Value) (v : Value) : Prop := ∀ w, Calls P n args w fun e w' => e = .returned v ∧ Below w.heap.size w w'
def HasRow (W : World) (g : Nat) (t : TypeId) (n : Nat) : Prop := ∃ old : Array Value, W.heap[g]? = some (.cells old t (0, 0)) ∧ old.size = n
theorem HasRow.below {W W' : World} {g : Nat} {t : TypeId} {n : Nat} (h : HasRow W g t n) (hb : Below W.heap.size W W') : HasRow W' g t n := let ⟨o, h1, h2⟩ := h; ⟨o, blk_below h1 hb, h2⟩
theorem HasRow.alloc {W : World} {g : Nat} {t : TypeId} {n : Nat} (h : HasRow W g t n) (O : Obj) : HasRow (W.alloc O) g t n := let ⟨o, h1, h2⟩ := h; ⟨o, blk_alloc h1 _, h2⟩
theorem HasRow.drew {W : World} {g : Nat} {t : TypeId} {n : Nat} (h : HasRow W g t n) : HasRow W.drew g t n := h
theorem run_load_cell {P : Program} {ty : TypeId} {d : TypeDesc} (w : World) (ad : Addr) (v : Value) (hc : w.cell? ad = some v) (hu : P.underlying ty = some d) (hd : (match d with | .struct _ | .array _ _ => true | _ => false) = false) :
 (Instr.loadAt ty (.pointer (some ad))).run P w = .ok v w := by
 have hagg : (isAgg ty).run P w = .ok false w := by
  unfold isAgg
  rw [Sem.run_bind, run_underlying hu w]
  cases d <;> simp_all
 simp only [Instr.loadAt, Instr.sureAddr, loadVar, Sem.run_bind, Sem.run_pure, Result.andThen_ok, hagg]
 go_simp
theorem yieldsIf_cell {P : Program} {ops : Array Oper} {S : World → Prop} {o : Oper} {a : Act} (hw : Region.wanted o (yielded ops a.tmps) = true) (ty : TypeId) (x : Operand) (ho : o.op = .load ty x) (ad : Addr) (hx : a.eval x = .pointer (some ad))
 (v : Value) (d : TypeDesc) (hS : ∀ w, S w → w.cell? ad = some v) (hu : P.underlying ty = some d) (hd : (match d with | .struct _ | .array _ _ => true | _ => false) = false) : YieldsIf P ops S o v a :=
 .inl ⟨hw, fun w hw' => by
  unfold execOp
  simp only [ho, hx, Sem.run_bind, run_load_cell w ad v (hS w hw') hu hd, Result.andThen_ok, Sem.run_pure]⟩
section
open Go.Proofs.YtekpbgmmogpbdaaW.PrintLast
variable {P : Program} {ops : Array Oper} {Q : Exit → Act → World → Prop} {md : Region.Mode} {S : World → Prop} {ds : List Nat}
theorem lastTake (i : Nat) {oi : Oper} {v : Value} {fuel : Nat} {listed : Array Bool} {a : Act} {w : World} (hi : ops.toList[i]? = some oi)
 (hs : Region.noSelect ops = true) (hf : Region.free md ops listed i = true) (hr : (Region.ready md ops listed).contains i = true)
 (hc : Region.closedB md ops listed = true) (hl : Region.lastB md ops listed ds i = true)
 (hQ : ∀ c a w, Q (.panic c) (a.put oi.dst v) w → Q (.panic c) a w) (hS : S w) (hy : YieldsIf P ops S oi v a)
 (h : wpAnyLast P md ops Q S ds fuel (listed.setIfInBounds i true) (a.put oi.dst v) w) : wpAnyLast P md ops Q S ds (fuel + 1) listed a w :=
 wpAnyLast_take (by simpa using hi) hs hf hr hc hl hQ hy hS h
theorem lastOne (i : Nat) {o : Oper} {fuel : Nat} {listed : Array Bool} {a : Act} {w : World} (hr : Region.ready md ops listed = [i]) (ho : ops.toList[i]? = some o) (hd : i ∉ ds)
 (h : ∀ K' : Act → World → Prop, Shut (∀ a w, S w → (S w → wpAnyLast P md ops Q S ds fuel (listed.setIfInBounds i true) a w) → K' a w) → if Region.wanted o (yielded ops a.tmps) = true then Oper.wp P o a w K' Q else K' (a.put o.dst undef) w) :
 wpAnyLast P md ops Q S ds (fuel + 1) listed a w :=
 wpAnyLast_ready hr (by simp) (AllReadyL.cons (by simpa using ho) hd h AllReadyL.nil)
end
end Go.Proofs.Ytekpbgmmogpbdaa.H
set_option maxRecDepth 100000
namespace Go.Proofs.Ytekpbgmmogpbdaa.H
open Go.RowKit
def cutL : List UInt8 → List UInt8 × List UInt8
 | [] => ([], [])
 | c :: l => if c = 32 then ([], l) else (c :: (cutL l).1, (cutL l).2)
theorem cutL_at (l : List UInt8) : ∀ i, l[i]? = some 32 → (∀ j, j < i → l[j]? ≠ some 32) → cutL l = (l.take i, l.drop (i + 1)) := by
 induction l with
 | nil => intro i h; simp at h
 | cons c l ih =>
  intro i h hb
  cases i with
  | zero => simp at h; simp [cutL, h]
  | succ i =>
   have hc : ¬ c = 32 := by have := hb 0 (by omega); simpa using this
   have := ih i (by simpa using h) (fun j hj => by have := hb (j + 1) (by omega); simpa using this)
   simp [cutL, hc, this]
theorem cutL_none (l : List UInt8) : (∀ j : Nat, l[j]? ≠ some 32) → cutL l = (l, []) := by
 induction l with
 | nil => intro _; rfl
 | cons c l ih =>
  intro hb
  have hc : ¬ c = 32 := by have := hb 0; simpa using this
  have := ih (fun (j : Nat) => by have := hb (j + 1); simpa using this)
  simp [cutL, hc, this]
def ofBytes (l : List UInt8) : ByteArray := ⟨l.toArray⟩
theorem ba_eq {a b : ByteArray} (h : a.data.toList = b.data.toList) : a = b := by
 cases a; cases b; simp at h; rw [h]
theorem ofBytes_data (s : ByteArray) : ofBytes s.data.toList = s := ba_eq (by simp [ofBytes])
theorem ba_get (s : ByteArray) (j : Nat) (h : j < s.size) : s.data.toList[j]? = some (s[j]'h) := by
 have h' : j < s.data.toList.length := by simpa using h
 rw [List.getElem?_eq_getElem h']
 rfl
theorem decode_span (t : ByteArray) (pos : Nat) (h : pos < t.size) (ha : 128 ≤ (t[pos]'h).toNat) : 1 ≤ (Utf8.decode t pos).2 ∧ pos + (Utf8.decode t pos).2 ≤ t.size ∧ ∀ j (hj : j < t.size), pos ≤ j → j < pos + (Utf8.decode t pos).2 → 128 ≤ (t[j]'hj).toNat := by
 have g : ∀ k (hk : pos + k < t.size), (t[pos + k]'hk).toNat = (t.get! (pos + k)).toNat := fun k hk => by
  rw [show t.get! (pos + k) = t[pos + k]'hk from by
   show t.get! (pos + k) = _
   simp [ByteArray.get!, getElem!_pos, hk]
   rfl]
 have h0 : 128 ≤ (t.get! (pos + 0)).toNat := by rw [← g 0 h]; exact ha
 have key : ∀ n, 1 ≤ n → (∀ k, 1 ≤ k → k < n → pos + k < t.size ∧ 128 ≤ (t.get! (pos + k)).toNat) → 1 ≤ n ∧ pos + n ≤ t.size ∧ ∀ j (hj : j < t.size), pos ≤ j → j < pos + n → 128 ≤ (t[j]'hj).toNat := by
  intro n hn hk
  refine ⟨hn, ?_, fun j hj h1 h2 => ?_⟩
  · by_cases e : n = 1
    · omega
    have := (hk (n - 1) (by omega) (by omega)).1; omega
  · obtain ⟨k, rfl⟩ : ∃ k, j = pos + k := ⟨j - pos, by omega⟩
    rw [g k hj]
    by_cases e : k = 0
    · subst e; exact h0
    exact (hk k (by omega) (by omega)).2
 have hd : Utf8.decode t pos = Utf8.decode t pos := rfl
 simp only [Utf8.decode]
 have n0 : ¬ (t.get! (pos + 0)).toNat < 128 := by omega
 rw [if_neg n0]
 have c1 : ∀ k, (decide (pos + k < t.size) && (t.get! (pos + k)).toNat / 64 == 2) = true → pos + k < t.size ∧ 128 ≤ (t.get! (pos + k)).toNat := by
  intro k hk
  simp only [Bool.and_eq_true, decide_eq_true_eq, beq_iff_eq] at hk
  omega
 have one := key 1 (by omega) (fun k h1 h2 => by omega)
 split
 · rename_i h2
   simp only [Bool.and_eq_true] at h2
   have d1 := c1 1 (by simpa using h2.2)
   split
   · exact key 2 (by omega) (fun k h1 h2 => by
      have e : k = 1 := by omega
      subst e
      exact d1)
   · exact one
 · split
   · rename_i h2
     simp only [Bool.and_eq_true] at h2
     have d1 := c1 1 (by simpa using h2.1.2)
     have d2 := c1 2 (by simpa using h2.2)
     split
     · exact key 3 (by omega) (fun k h1 h2 => by
        rcases (by omega : k = 1 ∨ k = 2) with rfl | rfl
        · exact d1
        · exact d2)
     · exact one
   · split
     · rename_i h2
       simp only [Bool.and_eq_true] at h2
       have d1 := c1 1 (by simpa using h2.1.1.2)
       have d2 := c1 2 (by simpa using h2.1.2)
       have d3 := c1 3 (by simpa using h2.2)
       split
       · exact key 4 (by omega) (fun k h1 h2 => by
          rcases (by omega : k = 1 ∨ k = 2 ∨ k = 3) with rfl | rfl | rfl
          · exact d1
          · exact d2
          · exact d3)
       · exact one
     · exact one
def CutRel (w : World) (t : ByteArray) (wr : World) : Prop := ∃ pos : Nat, wr = w.iter t pos ∧ pos ≤ t.size ∧ ∀ j (hj : j < t.size), j < pos → (t[j]'hj).toNat ≠ 32
theorem cut_found (t : ByteArray) (pos : Nat) (h : pos < t.size) (h32 : (t[pos]'h).toNat = 32) (hb : ∀ j (hj : j < t.size), j < pos → (t[j]'hj).toNat ≠ 32) :
 t.extract 0 pos = ofBytes (cutL t.data.toList).1 ∧ t.extract (pos + 1) t.size = ofBytes (cutL t.data.toList).2 := by
 have hc := cutL_at t.data.toList pos (by rw [ba_get t pos h]; congr 1; exact UInt8.toNat_inj.1 h32) (fun j hj => by
  rw [ba_get t j (by omega)]
  intro e
  injection e with e
  exact hb j (by omega) hj (by rw [e]; rfl))
 rw [hc]
 have hs : t.size = t.data.toList.length := by simp
 constructor
 · apply ba_eq
   simp [ofBytes, ByteArray.data_extract]
 · apply ba_eq
   simp [ofBytes, ByteArray.data_extract]
   rw [List.take_of_length_le (by rw [List.length_drop, ← hs]; omega)]
theorem cut_missed (t : ByteArray) (hb : ∀ j (hj : j < t.size), (t[j]'hj).toNat ≠ 32) : t = ofBytes (cutL t.data.toList).1 ∧ (⟨#[]⟩ : ByteArray) = ofBytes (cutL t.data.toList).2 := by
 have hc := cutL_none t.data.toList (fun j => by
  by_cases h : j < t.size
  · rw [ba_get t j h]
    intro e
    injection e with e
    exact hb j h (by rw [e]; rfl)
  rw [List.getElem?_eq_none (by simp; omega)]
  simp)
 rw [hc]
 exact ⟨(ofBytes_data t).symm, rfl⟩
set_option maxHeartbeats 1000000 in
theorem cut_walk (s : ByteArray) (hsz : s.size ≤ 140737488351232) (w : World) :
 Calls Try.prog 87 #[.string s] w fun e w' => e = .returned (.tuple #[.string (ofBytes (cutL s.data.toList).1), .string (ofBytes (cutL s.data.toList).2)]) ∧ Below w.heap.size w w' := by
 obtain ⟨r1, hr1⟩ : ∃ r, ofBytes (cutL s.data.toList).1 = r := ⟨_, rfl⟩
 obtain ⟨r2, hr2⟩ : ∃ r, ofBytes (cutL s.data.toList).2 = r := ⟨_, rfl⟩
 have HF := Lib.hid (fun pos h h32 hb => hr1 ▸ hr2 ▸ cut_found s pos h h32 hb)
 have HM := Lib.hid (fun hb => hr1 ▸ hr2 ▸ cut_missed s hb)
 rw [hr1, hr2]
 clear hr1 hr2
 go_enter Try.func87, Try.ntmps87
 go_wp2_with fail
 go_loopw [4, 5] (fun _ _ wr => CutRel w s wr) (fun _ _ wr => s.size - wr.iterPos w.heap.size)
 case atStart => exact ⟨0, rfl, by omega, fun j hj h => by omega⟩
 case round =>
  obtain ⟨pos, rfl, hp, hbef⟩ := hrel
  have HBF := Lib.hid hbef
  clear hbef
  by_cases hlt : pos < s.size
  rotate_left
  · have hnx : ∀ ty, (Instr.next (.pointer (some ⟨w.heap.size, 0, none⟩)) true ty).run Try.prog (w.iter s pos) = _ := fun ty => run_next_end w s pos ty hlt
    obtain ⟨e1, e2⟩ := HM.out (fun j hj => HBF.out j hj (by omega))
    have E1 := Lib.hid e1
    have E2 := Lib.hid e2
    clear e1 e2
    go_wp2
    go_ret2
    exact ⟨by rw [← E1.out, ← E2.out]; rfl, iter_below _ _ _⟩
  by_cases ha : (s[pos]'hlt).toNat < 128
  rotate_left
  · have hnx : ∀ ty, (Instr.next (.pointer (some ⟨w.heap.size, 0, none⟩)) true ty).run Try.prog (w.iter s pos) = _ := fun ty => run_next_any w s pos ty hlt
    have hb := decode_high s pos hlt (by omega)
    have hle := decode_le s pos
    have HS := Lib.hid (decode_span s pos hlt (by omega))
    clear ha
    generalize (Utf8.decode s pos).1 = c at *
    generalize (Utf8.decode s pos).2 = p2 at *
    have h32' : ((c : Int) == 32) = false := by simp; omega
    go_wp2_with fail
    go_roundw
    case rel => exact ⟨pos + p2, rfl, HS.out.2.1, fun j hj h => by
     by_cases e : j < pos
     · exact HBF.out j hj e
     have := HS.out.2.2 j hj (by omega) h; omega⟩
    case measure => have := HS.out.2.1; have := HS.out.1; simp; omega
  have hnx : ∀ ty, (Instr.next (.pointer (some ⟨w.heap.size, 0, none⟩)) true ty).run Try.prog (w.iter s pos) = _ := fun ty => run_next_ascii w s pos ty hlt ha
  obtain ⟨c, hc⟩ : ∃ c, (s[pos]'hlt).toNat = c := ⟨_, rfl⟩
  rw [hc] at hnx
  have HC := Lib.hid hc
  clear hc ha
  by_cases h32 : c = 32
  rotate_left
  · have h32' : ((c : Int) == 32) = false := by simp; omega
    go_wp2_with fail
    go_roundw
    case rel => exact ⟨pos + 1, rfl, by omega, fun j hj h => by
     by_cases e : j = pos
     · subst e; rw [HC.out]; exact h32
     exact HBF.out j hj (by omega)⟩
    case measure => simp; omega
  subst h32
  have HF2 := Lib.hid (HF.out pos hlt HC.out HBF.out)
  have hpi : (0 : Int) ≤ (pos : Int) ∧ (pos : Int) ≤ (s.size : Int) ∧ (pos : Int) + 1 ≤ (s.size : Int) := by omega
  obtain ⟨hp1, hp2, hp3⟩ := hpi
  go_wp2_with fail
  go_quiet (fail)
  go_wp2_with fail
  go_ret2
  exact ⟨by rw [← HF2.out.1, ← HF2.out.2]; rfl, ⟨(iter_below w s (pos + 1)).os, (iter_below w s (pos + 1)).tape, (iter_below w s (pos + 1)).output, (iter_below w s (pos + 1)).size, (iter_below w s (pos + 1)).block⟩⟩
end Go.Proofs.Ytekpbgmmogpbdaa.H
set_option maxRecDepth 100000
namespace Go.Proofs.Ytekpbgmmogpbdaa.H
open Go.RowKit Go.Proofs.YtekpbgmmogpbdaaW.PrintWords
def notK (k : Nat) : Nat := match k with
 | 0 => 1
 | 1 => 0
 | 2 => 5
 | 3 => 4
 | 4 => 3
 | _ => 2
def wordK (k : Nat) : ByteArray := match k with
 | 0 => ⟨#[101, 113]⟩
 | 1 => ⟨#[110, 101]⟩
 | 2 => ⟨#[108, 116]⟩
 | 3 => ⟨#[108, 101]⟩
 | 4 => ⟨#[103, 116]⟩
 | _ => ⟨#[103, 101]⟩
def fnK (k : Nat) : Nat := match k with
 | 0 => 81
 | 1 => 82
 | 2 => 83
 | 3 => 84
 | 4 => 85
 | _ => 86
def kindA (k : Nat) : Array Value := #[.string (wordK k), .func (Fn.func (fnK k)) #[] #[], .int .i64 (notK k : Int)]
def kindsA : Array Value := #[.string ⟨#[101, 113]⟩, .func (Fn.func 81) #[] #[], .int .i64 1, .string ⟨#[110, 101]⟩, .func (Fn.func 82) #[] #[], .int .i64 0,
 .string ⟨#[108, 116]⟩, .func (Fn.func 83) #[] #[], .int .i64 5, .string ⟨#[108, 101]⟩, .func (Fn.func 84) #[] #[], .int .i64 4,
 .string ⟨#[103, 116]⟩, .func (Fn.func 85) #[] #[], .int .i64 3, .string ⟨#[103, 101]⟩, .func (Fn.func 86) #[] #[], .int .i64 2]
theorem kinds_walk : Gives Try.prog 66 #[] (.agg kindsA) := by
 intro w
 obtain ⟨W2, hW, r, b⟩ := letvar w #[Value.string ⟨#[]⟩, Value.nilFunc, Value.int .i64 0, Value.string ⟨#[]⟩, Value.nilFunc, Value.int .i64 0, Value.string ⟨#[]⟩, Value.nilFunc, Value.int .i64 0, Value.string ⟨#[]⟩, Value.nilFunc, Value.int .i64 0, Value.string ⟨#[]⟩, Value.nilFunc, Value.int .i64 0, Value.string ⟨#[]⟩, Value.nilFunc, Value.int .i64 0] kindsA 97
 have HW := Lib.hid hW
 have HR := Lib.hid r
 have HB := Lib.hid b
 clear hW r b
 go_enter Try.func66, Try.ntmps66
 go_wp2_with (refine wpList_store_row rfl 97 (.tmp 0) (.tmp 7) rfl rfl w.heap.size rfl kindsA rfl _ _ (heap_alloc_new _ _) rfl (by rw [show kindsA.size = 18 from rfl]; kernel_rfl) (by intro v hv; simp [kindsA] at hv; rcases hv with rfl | rfl | rfl | rfl | rfl | rfl | rfl | rfl | rfl | rfl | rfl | rfl | rfl | rfl | rfl | rfl | rfl | rfl <;> rfl) ?_; rw [HW.out])
 refine bodyPost_ret (results_cell_row rfl _ _ w.heap.size _ _ _ _ rfl HR.out Try.underlying97 rfl (by rw [show kindsA.size = 18 from rfl]; kernel_rfl)) rfl ?_
 exact ⟨rfl, HB.out⟩
theorem kinds_index (k : Nat) (hk : k < 6) (w : World) : (Instr.index 97 (.agg kindsA) (.int .i64 (k : Int))).run Try.prog w = .ok (.agg (kindA k)) w := by
 unfold kindsA
 rcases (by omega : k = 0 ∨ k = 1 ∨ k = 2 ∨ k = 3 ∨ k = 4 ∨ k = 5) with rfl | rfl | rfl | rfl | rfl | rfl
 all_goals (go_simp; try rfl)
theorem kind_word (s : ByteArray) (f : Value) (q : Int) (w : World) : (Instr.field 96 (.agg #[.string s, f, .int .i64 q]) 0).run Try.prog w = .ok (.string s) w := by
 unfold Instr.field
 rw [Sem.run_bind, run_underlying Try.underlying96 w]
 simp only [Result.andThen_ok]
 go_simp
 rw [show (asAgg (Value.agg #[.string s, f, .int .i64 q])).run Try.prog w = .ok #[.string s, f, .int .i64 q] w from rfl]
 rfl
theorem kind_fn (s : ByteArray) (f : Value) (q : Int) (w : World) : (Instr.field 96 (.agg #[.string s, f, .int .i64 q]) 1).run Try.prog w = .ok f w := by
 unfold Instr.field
 rw [Sem.run_bind, run_underlying Try.underlying96 w]
 simp only [Result.andThen_ok]
 go_simp
 rw [show (asAgg (Value.agg #[.string s, f, .int .i64 q])).run Try.prog w = .ok #[.string s, f, .int .i64 q] w from rfl]
 rfl
theorem kind_not (s : ByteArray) (f : Value) (q : Int) (w : World) : (Instr.field 96 (.agg #[.string s, f, .int .i64 q]) 2).run Try.prog w = .ok (.int .i64 q) w := by
 unfold Instr.field
 rw [Sem.run_bind, run_underlying Try.underlying96 w]
 simp only [Result.andThen_ok]
 go_simp
 rw [show (asAgg (Value.agg #[.string s, f, .int .i64 q])).run Try.prog w = .ok #[.string s, f, .int .i64 q] w from rfl]
 rfl
def CV (arg cmp m v : Int) : Value := .agg #[.int .i64 arg, .int .i64 cmp, .int .u64 m, .int .u64 v]
def rightB (arg cmp : Int) : Bool := decide (0 ≤ arg) && decide (arg < 6) && decide (0 ≤ cmp) && decide (cmp ≤ 5)
theorem rightB_iff (arg cmp : Int) : rightB arg cmp = true ↔ (0 ≤ arg ∧ arg < 6) ∧ 0 ≤ cmp ∧ cmp ≤ 5 := by
 unfold rightB
 simp only [Bool.and_eq_true, decide_eq_true_eq]
 omega
theorem cells4 {w : World} {g : Nat} {t : TypeId} {v0 v1 v2 v3 : Value} (h : w.heap[g]? = some (.cells #[v0, v1, v2, v3] t (0, 0))) :
 w.cell? ⟨g, 0, none⟩ = some v0 ∧ w.cell? ⟨g, 1, none⟩ = some v1 ∧ w.cell? ⟨g, 2, none⟩ = some v2 ∧ w.cell? ⟨g, 3, none⟩ = some v3 :=
 ⟨blk_cell h 0, blk_cell h 1, blk_cell h 2, blk_cell h 3⟩
theorem info_cond (a b c d : Value) : (Try.prog.info? 61).map (·.size) = some (#[a, b, c, d] : Array Value).size := by
 rw [show (#[a, b, c, d] : Array Value).size = 4 from rfl]; kernel_rfl
set_option maxHeartbeats 1000000 in
theorem Right_walk (arg cmp m v : Int) : Gives Try.prog 55 #[CV arg cmp m v] (.bool (rightB arg cmp)) := by
 intro w
 unfold CV
 obtain ⟨r, hr⟩ : ∃ r, rightB arg cmp = r := ⟨_, rfl⟩
 rw [hr]
 have HR := Lib.hid hr
 clear hr
 have hg := heap_alloc_new w (.cells #[.int .i64 arg, .int .i64 cmp, .int .u64 m, .int .u64 v] 61)
 have HB := Lib.hid ((Below.refl w.heap.size w).alloc (Nat.le_refl _) (.cells #[.int .i64 arg, .int .i64 cmp, .int .u64 m, .int .u64 v] 61))
 obtain ⟨c0, c1, c2, c3⟩ := cells4 hg
 clear hg
 by_cases h0 : 0 ≤ arg
 rotate_left
 · have e : r = false := by rw [← HR.out]; exact Bool.eq_false_iff.2 (fun h => by have := (rightB_iff _ _).1 h; omega)
   subst e
   go_enter Try.func55, Try.ntmps55
   go_wp2
   go_ret
   exact ⟨rfl, HB.out⟩
 by_cases h1 : arg < 6
 rotate_left
 · have e : r = false := by rw [← HR.out]; exact Bool.eq_false_iff.2 (fun h => by have := (rightB_iff _ _).1 h; omega)
   subst e
   go_enter Try.func55, Try.ntmps55
   go_wp2
   go_ret
   exact ⟨rfl, HB.out⟩
 by_cases h2 : 0 ≤ cmp
 rotate_left
 · have e : r = false := by rw [← HR.out]; exact Bool.eq_false_iff.2 (fun h => by have := (rightB_iff _ _).1 h; omega)
   subst e
   go_enter Try.func55, Try.ntmps55
   go_wp2
   go_ret
   exact ⟨rfl, HB.out⟩
 by_cases h3 : cmp ≤ 5
 · have e : r = true := by rw [← HR.out]; exact (rightB_iff _ _).2 ⟨⟨h0, h1⟩, h2, h3⟩
   subst e
   go_enter Try.func55, Try.ntmps55
   go_wp2
   go_ret
   exact ⟨rfl, HB.out⟩
 have e : r = false := by rw [← HR.out]; exact Bool.eq_false_iff.2 (fun h => by have := (rightB_iff _ _).1 h; omega)
 subst e
 go_enter Try.func55, Try.ntmps55
 go_wp2
 go_ret
 exact ⟨rfl, HB.out⟩
end Go.Proofs.Ytekpbgmmogpbdaa.H
set_option maxRecDepth 100000
namespace Go.Proofs.Ytekpbgmmogpbdaa.H
open Go.RowKit
theorem run_cat (p q : ByteArray) (hsz : p.size + q.size ≤ 9223372036854775807) (w : World) : (binOp .add 9 (.string p) (.string q)).run Try.prog w = .ok (.string (p ++ q)) w := by
 have h : ¬ (9223372036854775807 < p.size + q.size) := by omega
 go_simp
theorem yieldsIf_cat {ops : Array Oper} {S : World → Prop} {o : Oper} {a : Act} (hw : Region.wanted o (yielded ops a.tmps) = true) (x y : Operand) (yt : TypeId) (ho : o.op = .binOp .add 9 x y yt) (p q : ByteArray) (hx : a.eval x = .string p) (hy : a.eval y = .string q)
 (hsz : p.size + q.size ≤ 9223372036854775807) : YieldsIf Try.prog ops S o (.string (p ++ q)) a :=
 .inl ⟨hw, fun w hw' => by
  unfold execOp
  have he : (eqGuard .add 9 x y (.string p) (.string q)).run Try.prog w = .ok () w := rfl
  simp only [ho, hx, hy, Sem.run_bind, he, run_cat p q hsz w, Result.andThen_ok, Sem.run_pure]⟩
structure Cat (p q r : ByteArray) : Prop where
 eq : p ++ q = r
 le : p.size + q.size ≤ 9223372036854775807
theorem yieldsIf_catR {ops : Array Oper} {S : World → Prop} {o : Oper} {a : Act} {p q r : ByteArray} (hc : Cat p q r) (hw : Region.wanted o (yielded ops a.tmps) = true) (x y : Operand) (yt : TypeId) (ho : o.op = .binOp .add 9 x y yt) (hx : a.eval x = .string p) (hy : a.eval y = .string q) :
 YieldsIf Try.prog ops S o (.string r) a := by
 have := yieldsIf_cat (S := S) (ops := ops) hw x y yt ho p q hx hy hc.le
 rwa [hc.eq] at this
end Go.Proofs.Ytekpbgmmogpbdaa.H
set_option maxRecDepth 100000
namespace Go.Proofs.Ytekpbgmmogpbdaa.H
open Go.RowKit Go.Proofs.YtekpbgmmogpbdaaW.PrintWords
set_option maxHeartbeats 4000000 in
theorem Print_no (arg cmp m v : Int) (RI : Gives Try.prog 55 #[.agg #[.int .i64 arg, .int .i64 cmp, .int .u64 m, .int .u64 v]] (.bool false)) (w : World) :
 Calls Try.prog 50 #[.agg #[.int .i64 arg, .int .i64 cmp, .int .u64 m, .int .u64 v]] w fun e w' => e = .returned (.tuple #[.string ⟨#[]⟩, .int .i64 1]) ∧ Below w.heap.size w w' := by
 replace RI := Lib.hid RI
 have HIC := Lib.hid (info_cond (.int .i64 arg) (.int .i64 cmp) (.int .u64 m) (.int .u64 v))
 have q1 := Lib.hid (heap_alloc_new w (Obj.cells #[.int .i64 arg, .int .i64 cmp, .int .u64 m, .int .u64 v] 61))
 have q4 := Lib.hid ((Below.refl w.heap.size w).alloc (Nat.le_refl _) (Obj.cells #[.int .i64 arg, .int .i64 cmp, .int .u64 m, .int .u64 v] 61))
 go_enter Try.func50, Try.ntmps50
 go_wp2_with (refine wpList_load_row rfl 61 (.tmp 1) rfl _ rfl _ _ _ _ q1.out Try.underlying61 rfl HIC.out ?_)
 refine (RI.out _).mono ?_
 rintro e w1 ⟨rfl, hb⟩
 have p1 := Lib.hid (blk_below q1.out hb)
 have p4 := Lib.hid (below_more q4.out (Nat.le_refl _) hb)
 clear hb q1 q4
 go_wp2_with fail
 go_ret2
 exact ⟨rfl, p4.out⟩
set_option maxHeartbeats 4000000 in
theorem Print_yes (j k : Nat) (hj : (j : Int) < 6) (hk : (k : Int) < 6) (m v : Int) (ch tm tv : ByteArray) (KA : Array Value) (s : ByteArray) (n : Nat) (q : Int) (KS : Gives Try.prog 66 #[] (.agg KA)) (hix : ∀ w, (Instr.index 97 (.agg KA) (.int .i64 (k : Int))).run Try.prog w = .ok (.agg #[.string s, .func (Fn.func n) #[] #[], .int .i64 q]) w) (RI : Gives Try.prog 55 #[.agg #[.int .i64 (j : Int), .int .i64 (k : Int), .int .u64 m, .int .u64 v]] (.bool true)) (TM : Gives Try.prog 53 #[.int .u64 m] (.string tm)) (TV : Gives Try.prog 53 #[.int .u64 v] (.string tv)) (hch : Utf8.encode (IntKind.i32.wrap (IntKind.i64.wrap (48 + (j : Int)))) = ch) (b1 b2 b3 b4 b5 b6 b7 : ByteArray) (e1 : Cat ⟨#[97]⟩ ch b1) (e2 : Cat b1 ⟨#[32]⟩ b2) (e3 : Cat b2 tm b3) (e4 : Cat b3 ⟨#[32]⟩ b4) (e5 : Cat b4 s b5) (e6 : Cat b5 ⟨#[32]⟩ b6) (e7 : Cat b6 tv b7) (w : World) :
 Calls Try.prog 50 #[.agg #[.int .i64 (j : Int), .int .i64 (k : Int), .int .u64 m, .int .u64 v]] w fun e w' => e = .returned (.tuple #[.string b7, .int .i64 0]) ∧ Below w.heap.size w w' := by
 replace e1 := Lib.hid e1
 replace e2 := Lib.hid e2
 replace e3 := Lib.hid e3
 replace e4 := Lib.hid e4
 replace e5 := Lib.hid e5
 replace e6 := Lib.hid e6
 replace e7 := Lib.hid e7
 replace RI := Lib.hid RI
 replace KS := Lib.hid KS
 replace TM := Lib.hid TM
 replace TV := Lib.hid TV
 have HIC := Lib.hid (info_cond (.int .i64 (j : Int)) (.int .i64 (k : Int)) (.int .u64 m) (.int .u64 v))
 have q1 := Lib.hid (heap_alloc_new w (Obj.cells #[.int .i64 (j : Int), .int .i64 (k : Int), .int .u64 m, .int .u64 v] 61))
 have q4 := Lib.hid ((Below.refl w.heap.size w).alloc (Nat.le_refl _) (Obj.cells #[.int .i64 (j : Int), .int .i64 (k : Int), .int .u64 m, .int .u64 v] 61))
 go_enter Try.func50, Try.ntmps50
 go_wp2_with (refine wpList_load_row rfl 61 (.tmp 1) rfl _ rfl _ _ _ _ q1.out Try.underlying61 rfl HIC.out ?_)
 refine (RI.out _).mono ?_
 rintro e w1 ⟨rfl, hb⟩
 have p1 := Lib.hid (blk_below q1.out hb)
 have p4 := Lib.hid (below_more q4.out (Nat.le_refl _) hb)
 clear hb q1 q4
 have hfw := kind_word
 have hff := kind_fn
 have hfn := kind_not
 go_wp2_with fail
 have hNewE : (Below w.heap.size w w1.drew) := p4.out.drew
 have hEx := Lib.hid hNewE
 clear hNewE
 refine Go.Proofs.YtekpbgmmogpbdaaW.PrintLast.wp_region_last_drew (S := fun w' => (w'.heap[w.heap.size]? = some (.cells #[.int .i64 (j : Int), .int .i64 (k : Int), .int .u64 m, .int .u64 v] 61 (0, 0)))) (ds := []) kR p1.out (fun hNewS => ?_)
 have hHeld := Lib.hid hNewS
 clear hNewS
 refine lastTake 0 (v := ?_) rfl kR kR kR kR kR (fun _ _ _ h => h) hHeld.out (yieldsIf_of rfl ?_) ?_
 rotate_left
 · (intro w hSw; go_simp <;> with_reducible rfl)
 try refine apS ?_
 refine lastTake 1 rfl kR kR kR kR kR (fun _ _ _ h => h) hHeld.out (yieldsIf_cell rfl 3 (.tmp 7) rfl _ rfl (.int .i64 (j : Int)) _ (fun _ h => blk_cell h 0) Try.underlying3 rfl) ?_
 try refine apS ?_
 refine lastTake 2 (v := ?_) rfl kR kR kR kR kR (fun _ _ _ h => h) hHeld.out (yieldsIf_of rfl ?_) ?_
 rotate_left
 · (intro w hSw; go_simp <;> with_reducible rfl)
 try refine apS ?_
 refine lastTake 3 (v := ?_) rfl kR kR kR kR kR (fun _ _ _ h => h) hHeld.out (yieldsIf_of rfl ?_) ?_
 rotate_left
 · (intro w hSw; go_simp <;> with_reducible rfl)
 try refine apS ?_
 refine lastTake 4 (v := ?_) rfl kR kR kR kR kR (fun _ _ _ h => h) hHeld.out (yieldsIf_of rfl ?_) ?_
 rotate_left
 · (intro w hSw; go_simp <;> with_reducible rfl)
 try refine apS ?_
 refine lastTake 5 rfl kR kR kR kR kR (fun _ _ _ h => h) hHeld.out (yieldsIf_catR e1.out rfl (.const (.string ⟨#[97]⟩)) (.tmp 11) _ rfl rfl rfl) ?_
 try refine apS ?_
 refine lastTake 6 rfl kR kR kR kR kR (fun _ _ _ h => h) hHeld.out (yieldsIf_catR e2.out rfl (.tmp 12) (.const (.string ⟨#[32]⟩)) _ rfl rfl rfl) ?_
 try refine apS ?_
 refine lastTake 7 (v := ?_) rfl kR kR kR kR kR (fun _ _ _ h => h) hHeld.out (yieldsIf_of rfl ?_) ?_
 rotate_left
 · (intro w hSw; go_simp <;> with_reducible rfl)
 try refine apS ?_
 refine lastTake 8 rfl kR kR kR kR kR (fun _ _ _ h => h) hHeld.out (yieldsIf_cell rfl 41 (.tmp 14) rfl _ rfl (.int .u64 m) _ (fun _ h => blk_cell h 2) Try.underlying41 rfl) ?_
 try refine apS ?_
 refine lastTake 13 (v := ?_) rfl kR kR kR kR kR (fun _ _ _ h => h) hHeld.out (yieldsIf_of rfl ?_) ?_
 rotate_left
 · (intro w hSw; go_simp <;> with_reducible rfl)
 try refine apS ?_
 refine lastTake 14 rfl kR kR kR kR kR (fun _ _ _ h => h) hHeld.out (yieldsIf_cell rfl 3 (.tmp 20) rfl _ rfl (.int .i64 (k : Int)) _ (fun _ h => blk_cell h 1) Try.underlying3 rfl) ?_
 try refine apS ?_
 refine lastTake 19 (v := ?_) rfl kR kR kR kR kR (fun _ _ _ h => h) hHeld.out (yieldsIf_of rfl ?_) ?_
 rotate_left
 · (intro w hSw; go_simp <;> with_reducible rfl)
 try refine apS ?_
 refine lastTake 20 rfl kR kR kR kR kR (fun _ _ _ h => h) hHeld.out (yieldsIf_cell rfl 41 (.tmp 26) rfl _ rfl (.int .u64 v) _ (fun _ h => blk_cell h 3) Try.underlying41 rfl) ?_
 try refine apS ?_
 refine lastOne 9 kR rfl (by decide) (fun K hK => ?_)
 go_simp
 refine (TM.out _).mono ?_
 rintro _ v6 ⟨rfl, hb⟩
 have hNewE : (Below w.heap.size w v6) := below_more (hEx.out) (Nat.le_refl _) hb
 refine hK.out _ _ (blk_below (hHeld.out) hb) (fun hNewS => ?_)
 clear hK K
 clear hHeld hEx
 have hHeld := Lib.hid hNewS
 have hEx := Lib.hid hNewE
 clear hNewS hNewE
 clear hb
 try refine apS ?_
 refine lastTake 10 rfl kR kR kR kR kR (fun _ _ _ h => h) hHeld.out (yieldsIf_catR e3.out rfl (.tmp 13) (.tmp 16) _ rfl rfl rfl) ?_
 try refine apS ?_
 refine lastTake 11 rfl kR kR kR kR kR (fun _ _ _ h => h) hHeld.out (yieldsIf_catR e4.out rfl (.tmp 17) (.const (.string ⟨#[32]⟩)) _ rfl rfl rfl) ?_
 try refine apS ?_
 refine lastOne 12 kR rfl (by decide) (fun K hK => ?_)
 go_simp
 refine (KS.out _).mono ?_
 rintro _ v7 ⟨rfl, hb⟩
 have hNewE : (Below w.heap.size w v7) := below_more (hEx.out) (Nat.le_refl _) hb
 refine hK.out _ _ (blk_below (hHeld.out) hb) (fun hNewS => ?_)
 clear hK K
 clear hHeld hEx
 have hHeld := Lib.hid hNewS
 have hEx := Lib.hid hNewE
 clear hNewS hNewE
 clear hb
 try refine apS ?_
 refine lastTake 15 (v := ?_) rfl kR kR kR kR kR (fun _ _ _ h => h) hHeld.out (yieldsIf_of rfl ?_) ?_
 rotate_left
 · (intro w hSw; go_simp <;> with_reducible rfl)
 try refine apS ?_
 refine lastTake 16 (v := ?_) rfl kR kR kR kR kR (fun _ _ _ h => h) hHeld.out (yieldsIf_of rfl ?_) ?_
 rotate_left
 · (intro w hSw; go_simp <;> with_reducible rfl)
 try refine apS ?_
 refine lastTake 17 rfl kR kR kR kR kR (fun _ _ _ h => h) hHeld.out (yieldsIf_catR e5.out rfl (.tmp 18) (.tmp 23) _ rfl rfl rfl) ?_
 try refine apS ?_
 refine lastTake 18 rfl kR kR kR kR kR (fun _ _ _ h => h) hHeld.out (yieldsIf_catR e6.out rfl (.tmp 24) (.const (.string ⟨#[32]⟩)) _ rfl rfl rfl) ?_
 try refine apS ?_
 refine lastOne 21 kR rfl (by decide) (fun K hK => ?_)
 go_simp
 refine (TV.out _).mono ?_
 rintro _ v8 ⟨rfl, hb⟩
 have hNewE : (Below w.heap.size w v8) := below_more (hEx.out) (Nat.le_refl _) hb
 refine hK.out _ _ (blk_below (hHeld.out) hb) (fun hNewS => ?_)
 clear hK K
 clear hHeld hEx
 have hHeld := Lib.hid hNewS
 have hEx := Lib.hid hNewE
 clear hNewS hNewE
 clear hb
 try refine apS ?_
 refine lastTake 22 rfl kR kR kR kR kR (fun _ _ _ h => h) hHeld.out (yieldsIf_catR e7.out rfl (.tmp 25) (.tmp 28) _ rfl rfl rfl) ?_
 try refine apS ?_
 refine lastTake 23 (v := ?_) rfl kR kR kR kR kR (fun _ _ _ h => h) hHeld.out (yieldsIf_of rfl ?_) ?_
 rotate_left
 · (intro w hSw; go_simp <;> with_reducible rfl)
 try refine apS ?_
 refine lastTake 24 (v := ?_) rfl kR kR kR kR kR (fun _ _ _ h => h) hHeld.out (yieldsIf_of rfl ?_) ?_
 rotate_left
 · (intro w hSw; go_simp <;> with_reducible rfl)
 try refine apS ?_
 refine Go.Proofs.YtekpbgmmogpbdaaW.PrintLast.wpAnyLast_done kR ?_ _
 have HEX := hEx
 clear hEx hHeld
 go_wp2_with fail
 go_ret2
 exact ⟨rfl, HEX.out⟩
end Go.Proofs.Ytekpbgmmogpbdaa.H
set_option maxRecDepth 100000
namespace Go.Proofs.Ytekpbgmmogpbdaa.H
open Go.RowKit Go.Proofs.YtekpbgmmogpbdaaW.PrintWords
def argOf (l : List UInt8) : Option Nat := match l with
 | [a, d] => if a.toNat = 97 ∧ 48 ≤ d.toNat ∧ d.toNat ≤ 53 then some (d.toNat - 48) else none
 | _ => none
def wordIdx (l : List UInt8) : Option Nat := (List.range 6).find? (fun k => (wordK k).data.toList == l)
def condOf (a m c v : List UInt8) : Option (Nat × Nat × Nat × Nat) := match argOf a, parseL m, parseL v, wordIdx c with
 | some d, some x, some y, some k => some (d, k, x, y)
 | _, _, _, _ => none
def condParse (l : List UInt8) : Option (Nat × Nat × Nat × Nat) := condOf (cutL l).1 (cutL (cutL l).2).1 (cutL (cutL (cutL l).2).2).1 (cutL (cutL (cutL l).2).2).2
def condR : Option (Nat × Nat × Nat × Nat) → Value
 | some (a, k, m, v) => .tuple #[CV a k m v, .int .i64 0]
 | none => .tuple #[CV 0 0 0 0, .int .i64 2]
theorem cutL_len (l : List UInt8) : (cutL l).1.length ≤ l.length ∧ (cutL l).2.length ≤ l.length := by
 induction l with
 | nil => simp [cutL]
 | cons c l ih =>
  unfold cutL
  split
  · simp
  · simp; omega
theorem ofBytes_size (l : List UInt8) : (ofBytes l).size = l.length := by simp [ofBytes, ByteArray.size]
theorem ofBytes_list (l : List UInt8) : (ofBytes l).data.toList = l := by simp [ofBytes]
theorem find6_first (p : Nat → Bool) (k : Nat) (hk : k < 6) (h1 : ∀ j, j < k → p j = false) (h2 : p k = true) : (List.range 6).find? p = some k := by
 rw [List.find?_range_eq_some]
 exact ⟨h2, by simpa using hk, fun j hj => by rw [h1 j hj]; rfl⟩
theorem find6_none (p : Nat → Bool) (h1 : ∀ j, j < 6 → p j = false) : (List.range 6).find? p = none := by
 rw [List.find?_range_eq_none]
 intro i hi
 rw [h1 i hi]; rfl
theorem arg_bad {l : List UInt8} (h : l.length ≠ 2) : argOf l = none := by
 match l, h with
 | [], _ => rfl
 | [_], _ => rfl
 | [_, _], h => exact absurd rfl h
 | _ :: _ :: _ :: _, _ => rfl
set_option maxHeartbeats 4000000 in
theorem Parse_rest (A M C V : List UInt8) (hlen : A.length ≤ 140737488351232 ∧ M.length ≤ 140737488351232 ∧ C.length ≤ 140737488351232 ∧ V.length ≤ 140737488351232) (s r1 r2 : ByteArray)
 (c1 : Gives Try.prog 87 #[.string s] (.tuple #[.string (ofBytes A), .string r1])) (c2 : Gives Try.prog 87 #[.string r1] (.tuple #[.string (ofBytes M), .string r2])) (c3 : Gives Try.prog 87 #[.string r2] (.tuple #[.string (ofBytes C), .string (ofBytes V)])) (w : World) :
 Calls Try.prog 77 #[.string s] w fun e w' => e = .returned (condR (condOf A M C V)) ∧ Below w.heap.size w w' := by
 obtain ⟨r, hr⟩ : ∃ r, condOf A M C V = r := ⟨_, rfl⟩
 rw [hr]
 have HR := Lib.hid hr
 have C1 := Lib.hid c1
 have C2 := Lib.hid c2
 have C3 := Lib.hid c3
 have HL := Lib.hid hlen
 have PM := Lib.hid (parse_walk (ofBytes M))
 have PV := Lib.hid (parse_walk (ofBytes V))
 rw [ofBytes_list] at PM PV
 have HAS := Lib.hid (ofBytes_size A)
 have Q0 := Lib.hid (heap_alloc_new w (Obj.cells #[Value.int .i64 0, Value.int .i64 0, Value.int .u64 0, Value.int .u64 0] 61))
 have Q4 := Lib.hid ((Below.refl w.heap.size w).alloc (Nat.le_refl _) (Obj.cells #[Value.int .i64 0, Value.int .i64 0, Value.int .u64 0, Value.int .u64 0] 61))
 clear hr c1 c2 c3 hlen
 go_enter Try.func77, Try.ntmps77
 go_wp2_with fail
 refine (C1.out _).mono ?_
 rintro e w1 ⟨rfl, hb⟩
 have G1 := Lib.hid (blk_below Q0.out hb)
 have B1 := Lib.hid (below_more Q4.out (Nat.le_refl _) hb)
 clear hb
 go_wp2_with fail
 refine (C2.out _).mono ?_
 rintro e w2 ⟨rfl, hb⟩
 have G2 := Lib.hid (blk_below G1.out hb)
 have B2 := Lib.hid (below_more B1.out (Nat.le_refl _) hb)
 clear hb G1 B1
 go_wp2_with fail
 refine (C3.out _).mono ?_
 rintro e w3 ⟨rfl, hb⟩
 have G3 := Lib.hid (blk_below G2.out hb)
 have B3 := Lib.hid (below_more B2.out (Nat.le_refl _) hb)
 clear hb G2 B2
 by_cases hA : A.length = 2
 rotate_left
 · have e : r = none := by rw [← HR.out]; unfold condOf; rw [arg_bad hA]
   subst e
   have hsz : ((ofBytes A).size : Int) ≠ 2 := by rw [HAS.out]; omega
   have hsz2 : (((ofBytes A).size : Int) != 2) = true := by simpa using hsz
   clear hA hsz
   obtain ⟨d0, d1, d2, d3⟩ := cells4 G3.out
   have f0 := blk_frozen G3.out 0
   have f1 := blk_frozen G3.out 1
   have f2 := blk_frozen G3.out 2
   have f3 := blk_frozen G3.out 3
   go_wp2_with fail
   have hfin := blk_set (blk_set (blk_set (blk_set G3.out 0 (Value.int .i64 0)) 1 (Value.int .i64 0)) 2 (Value.int .u64 0)) 3 (Value.int .u64 0)
   refine bodyPost_ret (results_ct rfl _ _ w.heap.size _ _ _ _ rfl hfin Try.underlying61 rfl (info_cond _ _ _ _)) rfl ?_
   exact ⟨rfl, ⟨B3.out.os, B3.out.tape, B3.out.output, by simpa [World.setCell] using B3.out.size, fun q hq => by rw [heap_setCell_other _ _ _ _ (by simp; omega), heap_setCell_other _ _ _ _ (by simp; omega), heap_setCell_other _ _ _ _ (by simp; omega), heap_setCell_other _ _ _ _ (by simp; omega)]; exact B3.out.block q hq⟩⟩
 obtain ⟨a, d, rfl⟩ : ∃ a d, A = [a, d] := by
  match A, hA with
  | [a, d], _ => exact ⟨a, d, rfl⟩
 have hi0 : ∀ w, (Instr.index 9 (.string (ofBytes [a, d])) (.int .i64 0)).run Try.prog w = .ok (.int .u8 (a.toNat : Int)) w := fun w => by
  unfold ofBytes
  go_simp
  rfl
 have hi1 : ∀ w, (Instr.index 9 (.string (ofBytes [a, d])) (.int .i64 1)).run Try.prog w = .ok (.int .u8 (d.toNat : Int)) w := fun w => by
  unfold ofBytes
  go_simp
  rfl
 have hsz : (ofBytes [a, d]).size = 2 := rfl
 have hn0 : ¬ (a.toNat = 97 ∧ 48 ≤ d.toNat ∧ d.toNat ≤ 53) → r = none := fun h => by
  rw [← HR.out]; unfold condOf argOf; simp only []; rw [if_neg h]
 have hn1 : (a.toNat = 97 ∧ 48 ≤ d.toNat ∧ d.toNat ≤ 53) → condOf [a, d] M C V = (match parseL M, parseL V, wordIdx C with | some x, some y, some k => some (d.toNat - 48, k, x, y) | _, _, _ => none) := fun h => by
  unfold condOf argOf; simp only []; rw [if_pos h]; cases parseL M <;> cases parseL V <;> cases wordIdx C <;> rfl
 have HN0 := Lib.hid hn0
 have HN1 := Lib.hid hn1
 generalize ofBytes [a, d] = P at *
 clear hA hn0 hn1
 generalize a.toNat = ca at *
 generalize hcd : d.toNat = cd at *
 have hcd256 : cd < 256 := by rw [← hcd]; exact d.toNat_lt
 clear hcd
 by_cases k0 : ca = 97
 rotate_left
 · have e := HN0.out (fun h => k0 h.1)
   subst e
   clear HN0 HN1
   obtain ⟨d0, d1, d2, d3⟩ := cells4 G3.out
   have f0 := blk_frozen G3.out 0
   have f1 := blk_frozen G3.out 1
   have f2 := blk_frozen G3.out 2
   have f3 := blk_frozen G3.out 3
   go_wp2_with fail
   have hfin := blk_set (blk_set (blk_set (blk_set G3.out 0 (Value.int .i64 0)) 1 (Value.int .i64 0)) 2 (Value.int .u64 0)) 3 (Value.int .u64 0)
   refine bodyPost_ret (results_ct rfl _ _ w.heap.size _ _ _ _ rfl hfin Try.underlying61 rfl (info_cond _ _ _ _)) rfl ?_
   exact ⟨rfl, ⟨B3.out.os, B3.out.tape, B3.out.output, by simpa [World.setCell] using B3.out.size, fun q hq => by rw [heap_setCell_other _ _ _ _ (by simp; omega), heap_setCell_other _ _ _ _ (by simp; omega), heap_setCell_other _ _ _ _ (by simp; omega), heap_setCell_other _ _ _ _ (by simp; omega)]; exact B3.out.block q hq⟩⟩
 by_cases k1 : 48 ≤ cd
 rotate_left
 · have e := HN0.out (fun h => k1 h.2.1)
   subst e
   clear HN0 HN1
   obtain ⟨d0, d1, d2, d3⟩ := cells4 G3.out
   have f0 := blk_frozen G3.out 0
   have f1 := blk_frozen G3.out 1
   have f2 := blk_frozen G3.out 2
   have f3 := blk_frozen G3.out 3
   go_wp2_with fail
   have hfin := blk_set (blk_set (blk_set (blk_set G3.out 0 (Value.int .i64 0)) 1 (Value.int .i64 0)) 2 (Value.int .u64 0)) 3 (Value.int .u64 0)
   refine bodyPost_ret (results_ct rfl _ _ w.heap.size _ _ _ _ rfl hfin Try.underlying61 rfl (info_cond _ _ _ _)) rfl ?_
   exact ⟨rfl, ⟨B3.out.os, B3.out.tape, B3.out.output, by simpa [World.setCell] using B3.out.size, fun q hq => by rw [heap_setCell_other _ _ _ _ (by simp; omega), heap_setCell_other _ _ _ _ (by simp; omega), heap_setCell_other _ _ _ _ (by simp; omega), heap_setCell_other _ _ _ _ (by simp; omega)]; exact B3.out.block q hq⟩⟩
 by_cases k2 : cd ≤ 53
 rotate_left
 · have e := HN0.out (fun h => k2 h.2.2)
   subst e
   clear HN0 HN1
   obtain ⟨d0, d1, d2, d3⟩ := cells4 G3.out
   have f0 := blk_frozen G3.out 0
   have f1 := blk_frozen G3.out 1
   have f2 := blk_frozen G3.out 2
   have f3 := blk_frozen G3.out 3
   go_wp2_with fail
   have hfin := blk_set (blk_set (blk_set (blk_set G3.out 0 (Value.int .i64 0)) 1 (Value.int .i64 0)) 2 (Value.int .u64 0)) 3 (Value.int .u64 0)
   refine bodyPost_ret (results_ct rfl _ _ w.heap.size _ _ _ _ rfl hfin Try.underlying61 rfl (info_cond _ _ _ _)) rfl ?_
   exact ⟨rfl, ⟨B3.out.os, B3.out.tape, B3.out.output, by simpa [World.setCell] using B3.out.size, fun q hq => by rw [heap_setCell_other _ _ _ _ (by simp; omega), heap_setCell_other _ _ _ _ (by simp; omega), heap_setCell_other _ _ _ _ (by simp; omega), heap_setCell_other _ _ _ _ (by simp; omega)]; exact B3.out.block q hq⟩⟩
 subst k0
 have hcond := HN1.out ⟨rfl, k1, k2⟩
 have HCO := Lib.hid (hcond.symm.trans HR.out)
 clear hcond HN0 HN1 HR
 obtain ⟨x, ex, hx, hxx⟩ : ∃ (x : Nat) (ex : Int), pRes (parseL M) = .tuple #[.int .u64 (x : Int), .int .i64 ex] ∧ ((ex = 0 ∧ parseL M = some x) ∨ (ex = 2 ∧ parseL M = none)) := by
  cases h : parseL M with
  | none => exact ⟨0, 2, rfl, .inr ⟨rfl, rfl⟩⟩
  | some n => exact ⟨n, 0, rfl, .inl ⟨rfl, rfl⟩⟩
 obtain ⟨y, ey, hy, hyy⟩ : ∃ (y : Nat) (ey : Int), pRes (parseL V) = .tuple #[.int .u64 (y : Int), .int .i64 ey] ∧ ((ey = 0 ∧ parseL V = some y) ∨ (ey = 2 ∧ parseL V = none)) := by
  cases h : parseL V with
  | none => exact ⟨0, 2, rfl, .inr ⟨rfl, rfl⟩⟩
  | some n => exact ⟨n, 0, rfl, .inl ⟨rfl, rfl⟩⟩
 unfold ParseEnd at PM PV
 rw [hx] at PM
 rw [hy] at PV
 have HXX := Lib.hid hxx
 have HYY := Lib.hid hyy
 clear hx hy hxx hyy
 go_wp2_with fail
 refine (PM.out _).mono ?_
 rintro e w4 ⟨rfl, hb⟩
 have G4 := Lib.hid (blk_below G3.out hb)
 have B4 := Lib.hid (below_more B3.out (Nat.le_refl _) hb)
 clear hb G3 B3
 go_wp2_with fail
 refine (PV.out _).mono ?_
 rintro e w5 ⟨rfl, hb⟩
 have G5 := Lib.hid (blk_below G4.out hb)
 have B5 := Lib.hid (below_more B4.out (Nat.le_refl _) hb)
 clear hb G4 B4
 go_wp2_with fail
 refine (kinds_walk _).mono ?_
 rintro e w6 ⟨rfl, hb⟩
 have G6 := Lib.hid (blk_below G5.out hb)
 have B6 := Lib.hid (below_more B5.out (Nat.le_refl _) hb)
 clear hb G5 B5
 have KIX := Lib.hid kinds_index
 obtain ⟨KV, hKV⟩ : ∃ KV, kindsA = KV := ⟨_, rfl⟩
 rw [hKV] at KIX ⊢
 clear hKV
 go_wp2_with fail
 go_loopw [60] (fun i wr => ∃ k : Nat, k ≤ 6 ∧ i = .int .i64 (k : Int) ∧ (∀ j, j < k → ((wordK j).data.toList == C && (ex == 0 && ey == 0)) = false) ∧ Below w6.heap.size w6 wr) (fun i _ => 6 - (intOf i).toNat)
 case atStart => exact ⟨0, by omega, rfl, fun j hj => by omega, Below.refl _ _⟩
 case round =>
  obtain ⟨k, hk, rfl, hall, hbb⟩ := hrel
  have HALL := Lib.hid hall
  have HBB := Lib.hid hbb
  have GR := Lib.hid (blk_below G6.out hbb)
  have BR := Lib.hid (below_more B6.out (Nat.le_refl _) hbb)
  clear hall hbb
  by_cases hlt : k < 6
  rotate_left
  · obtain rfl : k = 6 := by omega
    have e : r = none := by
     rw [← HCO.out]
     rcases HXX.out with ⟨h1, h2⟩ | ⟨_, h2⟩
     · rcases HYY.out with ⟨h3, h4⟩ | ⟨_, h4⟩
       · have : wordIdx C = none := find6_none _ (fun j hj => by have := HALL.out j hj; rw [h1, h3] at this; simpa using this)
         rw [this]; cases parseL M <;> cases parseL V <;> rfl
       · rw [h4]; cases parseL M <;> rfl
     · rw [h2]
    subst e
    obtain ⟨d0, d1, d2, d3⟩ := cells4 GR.out
    have f0 := blk_frozen GR.out 0
    have f1 := blk_frozen GR.out 1
    have f2 := blk_frozen GR.out 2
    have f3 := blk_frozen GR.out 3
    go_wp2_with fail
    have hfin := blk_set (blk_set (blk_set (blk_set GR.out 0 (Value.int .i64 0)) 1 (Value.int .i64 0)) 2 (Value.int .u64 0)) 3 (Value.int .u64 0)
    refine bodyPost_ret (results_ct rfl _ _ w.heap.size _ _ _ _ rfl hfin Try.underlying61 rfl (info_cond _ _ _ _)) rfl ?_
    exact ⟨rfl, ⟨BR.out.os, BR.out.tape, BR.out.output, by simpa [World.setCell] using BR.out.size, fun q hq => by rw [heap_setCell_other _ _ _ _ (by simp; omega), heap_setCell_other _ _ _ _ (by simp; omega), heap_setCell_other _ _ _ _ (by simp; omega), heap_setCell_other _ _ _ _ (by simp; omega)]; exact BR.out.block q hq⟩⟩
  have hix := KIX.out k hlt
  unfold kindA at hix
  have hsl : ((wordK k).toList == (ofBytes C).toList) = ((wordK k).data.toList == C) := by
   rw [ByteArray.toList_eq, ByteArray.toList_eq, ofBytes_list]
  have HSTEP := Lib.hid (fun (h : ((wordK k).data.toList == C && (ex == 0 && ey == 0)) = false) j (hj : j < k + 1) => (if e : j = k then e ▸ h else HALL.out j (by omega) : ((wordK j).data.toList == C && (ex == 0 && ey == 0)) = false))
  have HHIT := Lib.hid (fun (h : ((wordK k).data.toList == C) = true) (h1 : ex = 0) (h2 : ey = 0) => (find6_first (fun k => (wordK k).data.toList == C) k hlt (fun j hj => by have := HALL.out j hj; rw [h1, h2] at this; simpa using this) h))
  generalize ((wordK k).data.toList == C) = hit at *
  generalize wordK k = wd at *
  generalize fnK k = fk at *
  generalize notK k = nk at *
  obtain ⟨W3, hW3, r3, b3⟩ := letvar wr #[Value.string ⟨#[]⟩, Value.nilFunc, Value.int .i64 0] #[Value.string wd, Value.func (Fn.func fk) #[] #[], Value.int .i64 (nk : Int)] 96
  have c0 : W3.cell? ⟨wr.heap.size, 0, none⟩ = some (.string wd) := blk_cell r3 0
  have HW3 := Lib.hid hW3
  have GA := Lib.hid (blk_below GR.out b3)
  have BA := Lib.hid (below_more HBB.out (Nat.le_refl _) b3)
  have BW := Lib.hid (below_more BR.out (Nat.le_refl _) b3)
  have HKI := Lib.hid (show (Try.prog.info? 96).map (·.size) = some (#[Value.string wd, Value.func (Fn.func fk) #[] #[], Value.int .i64 (nk : Int)] : Array Value).size by rw [show (#[Value.string wd, Value.func (Fn.func fk) #[] #[], Value.int .i64 (nk : Int)] : Array Value).size = 3 from rfl]; kernel_rfl)
  have HKO := Lib.hid (show ∀ v ∈ (#[Value.string wd, Value.func (Fn.func fk) #[] #[], Value.int .i64 (nk : Int)] : Array Value).toList, v.oneCell' = true by intro v hv; simp at hv; rcases hv with rfl | rfl | rfl <;> rfl)
  clear hW3 r3 b3
  cases hit with
  | false =>
   go_wp2_with (refine wpList_store_row rfl 96 (.tmp 14) (.tmp 63) rfl rfl wr.heap.size rfl #[Value.string wd, Value.func (Fn.func fk) #[] #[], Value.int .i64 (nk : Int)] rfl _ _ (heap_alloc_new _ _) rfl HKI.out HKO.out ?_; rw [HW3.out])
   go_roundw
   case measure => simp [intOf]; omega
   case rel => exact ⟨k + 1, by omega, by go_num, HSTEP.out rfl, BA.out⟩
  | true =>
   by_cases hex : ex = 0
   rotate_left
   · have hex2 : (ex == 0) = false := by simpa using hex
     go_wp2_with (refine wpList_store_row rfl 96 (.tmp 14) (.tmp 63) rfl rfl wr.heap.size rfl #[Value.string wd, Value.func (Fn.func fk) #[] #[], Value.int .i64 (nk : Int)] rfl _ _ (heap_alloc_new _ _) rfl HKI.out HKO.out ?_; rw [HW3.out])
     go_roundw
     case measure => simp [intOf]; omega
     case rel => exact ⟨k + 1, by omega, by go_num, HSTEP.out (by rw [hex2]; rfl), BA.out⟩
   subst hex
   by_cases hey : ey = 0
   rotate_left
   · have hey2 : (ey == 0) = false := by simpa using hey
     go_wp2_with (refine wpList_store_row rfl 96 (.tmp 14) (.tmp 63) rfl rfl wr.heap.size rfl #[Value.string wd, Value.func (Fn.func fk) #[] #[], Value.int .i64 (nk : Int)] rfl _ _ (heap_alloc_new _ _) rfl HKI.out HKO.out ?_; rw [HW3.out])
     go_roundw
     case measure => simp [intOf]; omega
     case rel => exact ⟨k + 1, by omega, by go_num, HSTEP.out (by rw [hey2]; rfl), BA.out⟩
   subst hey
   have hwi := HHIT.out rfl rfl rfl
   have hres : r = some (cd - 48, k, x, y) := by
    rw [← HCO.out]
    rcases HXX.out with ⟨_, h2⟩ | ⟨h1, _⟩
    · rcases HYY.out with ⟨_, h4⟩ | ⟨h3, _⟩
      · rw [h2, h4, show wordIdx C = some k from hwi]
      · omega
    · omega
   subst hres
   clear hwi HCO
   have hs8 : IntKind.u8.wrap ((cd : Int) - 48) = ((cd - 48 : Nat) : Int) := by
    show ((cd : Int) - 48) % 256 = _
    omega
   obtain ⟨d0, d1, d2, d3⟩ := cells4 GA.out
   have f0 := blk_frozen GA.out 0
   have f1 := blk_frozen GA.out 1
   have f2 := blk_frozen GA.out 2
   have f3 := blk_frozen GA.out 3
   go_wp2_with (refine wpList_store_row rfl 96 (.tmp 14) (.tmp 63) rfl rfl wr.heap.size rfl #[Value.string wd, Value.func (Fn.func fk) #[] #[], Value.int .i64 (nk : Int)] rfl _ _ (heap_alloc_new _ _) rfl HKI.out HKO.out ?_; rw [HW3.out])
   have hfin := blk_set (blk_set (blk_set (blk_set GA.out 0 (.int .i64 ((cd - 48 : Nat) : Int))) 1 (.int .i64 (k : Int))) 2 (.int .u64 (x : Int))) 3 (.int .u64 (y : Int))
   refine bodyPost_ret (results_ct rfl _ _ w.heap.size _ _ _ _ rfl hfin Try.underlying61 rfl (info_cond _ _ _ _)) rfl ?_
   exact ⟨rfl, ⟨BW.out.os, BW.out.tape, BW.out.output, by simpa [World.setCell] using BW.out.size, fun q hq => by rw [heap_setCell_other _ _ _ _ (by simp; omega), heap_setCell_other _ _ _ _ (by simp; omega), heap_setCell_other _ _ _ _ (by simp; omega), heap_setCell_other _ _ _ _ (by simp; omega)]; exact BW.out.block q hq⟩⟩
theorem condParse_walk (s : ByteArray) (hsz : s.size ≤ 140737488351232) : Gives Try.prog 77 #[.string s] (condR (condParse s.data.toList)) := by
 have hl : s.data.toList.length = s.size := by simp
 have l1 := cutL_len s.data.toList
 have l2 := cutL_len (cutL s.data.toList).2
 have l3 := cutL_len (cutL (cutL s.data.toList).2).2
 have c1 := fun w => cut_walk s hsz w
 have c2 := fun w => cut_walk (ofBytes (cutL s.data.toList).2) (by rw [ofBytes_size]; omega) w
 have c3 := fun w => cut_walk (ofBytes (cutL (cutL s.data.toList).2).2) (by rw [ofBytes_size]; omega) w
 rw [ofBytes_list] at c2 c3
 exact fun w => Parse_rest _ _ _ _ ⟨by omega, by omega, by omega, by omega⟩ s _ _ c1 c2 c3 w
end Go.Proofs.Ytekpbgmmogpbdaa.H
set_option maxRecDepth 100000
namespace Go.Proofs.Ytekpbgmmogpbdaa.H
open Go.RowKit Go.Proofs.YtekpbgmmogpbdaaW.PrintWords
def u64P (a : Int) : Prop := 0 ≤ a ∧ a < 18446744073709551616
instance (a : Int) : Decidable (u64P a) := by unfold u64P; infer_instance
theorem right_nats {arg cmp : Int} (h : rightB arg cmp = true) : ∃ j k : Nat, arg = (j : Int) ∧ cmp = (k : Int) ∧ j < 6 ∧ k < 6 := by
 have := (rightB_iff arg cmp).1 h
 exact ⟨arg.toNat, cmp.toNat, by omega, by omega, by omega, by omega⟩
def textB (n : Int) : ByteArray := strOfNums (textL n.toNat)
theorem textB_size (n : Int) (h : u64P n) : (textB n).size ≤ 18 := by
 have h1 := hexL_length 15 n.toNat (by unfold u64P at h; omega)
 have : (textB n).size = (textL n.toNat).length := by
  have := congrArg List.length (strOfNums_data (textL n.toNat))
  simpa [textB] using this
 rw [this]
 simp [textL]
 omega
theorem Text_walk (n : Int) (h : u64P n) : Gives Try.prog 53 #[.int .u64 n] (.string (textB n)) := by
 intro w
 obtain ⟨k, rfl⟩ := Int.eq_ofNat_of_zero_le h.1
 have := text_walk k (by unfold u64P at h; omega) w
 rw [textGo_eq k (by unfold u64P at h; omega)] at this
 exact this
def digB (j : Nat) : ByteArray := ⟨#[UInt8.ofNat (48 + j)]⟩
theorem dig_enc (j : Nat) (hj : j < 6) : Utf8.encode (IntKind.i32.wrap (IntKind.i64.wrap (48 + (j : Int)))) = digB j := by
 rcases (by omega : j = 0 ∨ j = 1 ∨ j = 2 ∨ j = 3 ∨ j = 4 ∨ j = 5) with rfl | rfl | rfl | rfl | rfl | rfl <;> rfl
def condText (j k : Nat) (m v : Int) : ByteArray := ((((((⟨#[97]⟩ ++ digB j) ++ ⟨#[32]⟩) ++ textB m) ++ ⟨#[32]⟩) ++ wordK k) ++ ⟨#[32]⟩) ++ textB v
theorem wordK_size (k : Nat) : (wordK k).size = 2 := by unfold wordK; split <;> rfl
def printR (arg cmp m v : Int) : ByteArray × Int := if rightB arg cmp = true then (condText arg.toNat cmp.toNat m v, 0) else (⟨#[]⟩, 1)
theorem cat_of (p q : ByteArray) (h : p.size + q.size < 1000) : Cat p q (p ++ q) := ⟨rfl, by omega⟩
theorem Print_walk (arg cmp m v : Int) (hm : u64P m) (hv : u64P v) : Gives Try.prog 50 #[CV arg cmp m v] (.tuple #[.string (printR arg cmp m v).1, .int .i64 (printR arg cmp m v).2]) := by
 intro w
 have hR := Right_walk arg cmp m v
 unfold printR
 cases h : rightB arg cmp with
 | false =>
  rw [h] at hR
  rw [if_neg (by decide)]
  exact Print_no arg cmp m v hR w
 | true =>
  rw [h] at hR
  obtain ⟨j, k, rfl, rfl, hj, hk⟩ := right_nats h
  rw [if_pos rfl]
  try simp only [Int.toNat_natCast]
  have s1 := textB_size m hm
  have s2 := textB_size v hv
  have s3 : (digB j).size = 1 := rfl
  have s4 := wordK_size k
  have z1 : (⟨#[97]⟩ : ByteArray).size = 1 := rfl
  have z2 : (⟨#[32]⟩ : ByteArray).size = 1 := rfl
  have q1 : ((⟨#[97]⟩ : ByteArray)).size + (digB j).size < 1000 := by (try simp only [ByteArray.size_append]); omega
  have q2 : (((⟨#[97]⟩ : ByteArray) ++ digB j)).size + ((⟨#[32]⟩ : ByteArray)).size < 1000 := by (try simp only [ByteArray.size_append]); omega
  have q3 : ((((⟨#[97]⟩ : ByteArray) ++ digB j) ++ (⟨#[32]⟩ : ByteArray))).size + (textB m).size < 1000 := by (try simp only [ByteArray.size_append]); omega
  have q4 : (((((⟨#[97]⟩ : ByteArray) ++ digB j) ++ (⟨#[32]⟩ : ByteArray)) ++ textB m)).size + ((⟨#[32]⟩ : ByteArray)).size < 1000 := by (try simp only [ByteArray.size_append]); omega
  have q5 : ((((((⟨#[97]⟩ : ByteArray) ++ digB j) ++ (⟨#[32]⟩ : ByteArray)) ++ textB m) ++ (⟨#[32]⟩ : ByteArray))).size + (wordK k).size < 1000 := by (try simp only [ByteArray.size_append]); omega
  have q6 : (((((((⟨#[97]⟩ : ByteArray) ++ digB j) ++ (⟨#[32]⟩ : ByteArray)) ++ textB m) ++ (⟨#[32]⟩ : ByteArray)) ++ wordK k)).size + ((⟨#[32]⟩ : ByteArray)).size < 1000 := by (try simp only [ByteArray.size_append]); omega
  have q7 : ((((((((⟨#[97]⟩ : ByteArray) ++ digB j) ++ (⟨#[32]⟩ : ByteArray)) ++ textB m) ++ (⟨#[32]⟩ : ByteArray)) ++ wordK k) ++ (⟨#[32]⟩ : ByteArray))).size + (textB v).size < 1000 := by (try simp only [ByteArray.size_append]); omega
  exact Print_yes j k (by omega) (by omega) m v (digB j) (textB m) (textB v) kindsA (wordK k) (fnK k) (notK k) kinds_walk (fun w => kinds_index k hk w) hR (Text_walk m hm) (Text_walk v hv) (dig_enc j hj) _ _ _ _ _ _ _
   (cat_of _ _ q1) (cat_of _ _ q2) (cat_of _ _ q3) (cat_of _ _ q4) (cat_of _ _ q5) (cat_of _ _ q6) (cat_of _ _ q7) w
end Go.Proofs.Ytekpbgmmogpbdaa.H
set_option maxRecDepth 100000
namespace Go.Proofs.Ytekpbgmmogpbdaa.H
open Go.RowKit Go.Proofs.YtekpbgmmogpbdaaW.PrintWords
def cond_Print.f (a0_0 : Int) (a0_1 : Int) (a0_2 : Int) (a0_3 : Int) : Option (ByteArray × Int) := if u64P a0_2 ∧ u64P a0_3 then some (printR a0_0 a0_1 a0_2 a0_3) else none
theorem cond_Print.calls (a0_0 : Int) (a0_1 : Int) (a0_2 : Int) (a0_3 : Int) (r1 : ByteArray) (r2 : Int) (w : World) (h : cond_Print.f a0_0 a0_1 a0_2 a0_3 = some (r1, r2)) :
 Calls Try.prog 50 #[.agg #[.int .i64 a0_0, .int .i64 a0_1, .int .u64 a0_2, .int .u64 a0_3]] w fun e w' => e = .returned (.tuple #[.string r1, .int .i64 r2]) ∧ Below w.heap.size w w' := by
 unfold cond_Print.f at h
 split at h
 · rename_i hh
   have := Print_walk a0_0 a0_1 a0_2 a0_3 hh.1 hh.2 w
   rw [Option.some.inj h] at this
   exact this
 · simp at h
def parseI : Option (Nat × Nat × Nat × Nat) → Int × Int × Int × Int × Int
 | some (a, k, m, v) => ((a : Int), (k : Int), (m : Int), (v : Int), 0)
 | none => (0, 0, 0, 0, 2)
def cond_Parse.f (a0 : ByteArray) : Option (Int × Int × Int × Int × Int) := if a0.size ≤ 140737488351232 then some (parseI (condParse a0.data.toList)) else none
theorem cond_Parse.calls (a0 : ByteArray) (r1 : Int) (r2 : Int) (r3 : Int) (r4 : Int) (r5 : Int) (w : World) (h : cond_Parse.f a0 = some (r1, r2, r3, r4, r5)) :
 Calls Try.prog 77 #[.string a0] w fun e w' => e = .returned (.tuple #[.agg #[.int .i64 r1, .int .i64 r2, .int .u64 r3, .int .u64 r4], .int .i64 r5]) ∧ Below w.heap.size w w' := by
 unfold cond_Parse.f at h
 split at h
 · rename_i hh
   have := condParse_walk a0 hh w
   cases hp : condParse a0.data.toList with
   | none => rw [hp] at this h; simp [parseI] at h; obtain ⟨rfl, rfl, rfl, rfl, rfl⟩ := h; exact this
   | some x =>
    obtain ⟨a, k, m, v⟩ := x
    rw [hp] at this h; simp [parseI] at h; obtain ⟨rfl, rfl, rfl, rfl, rfl⟩ := h; exact this
 · simp at h
end Go.Proofs.Ytekpbgmmogpbdaa.H
namespace Go.Proofs.Ytekpbgmmogpbdaa.M
open Go.RowKit Go.Proofs.Ytekpbgmmogpbdaa.H Go.Proofs.YtekpbgmmogpbdaaW.PrintWords Go.Proofs.YtekpbgmmogpbdaaW.PrintLast Go.Proofs.YtekpbgmmogpbdaaW.PrintMore
attribute [local go_sem] max2_int min2_int max_two min_two max_three min_three max_four min_four
def errW : Option Int → Value
 | none => .nilIface
 | some c => .iface 0 (.int .i64 c)
theorem errW_none : errW none = .nilIface := rfl
theorem errW_some (c : Int) : errW (some c) = .iface 0 (.int .i64 c) := rfl
end Go.Proofs.Ytekpbgmmogpbdaa.M
namespace Go.Proofs.Ytekpbgmmogpbdaa.M
open Go.RowKit Go.Proofs.Ytekpbgmmogpbdaa.H Go.Proofs.YtekpbgmmogpbdaaW.PrintWords Go.Proofs.YtekpbgmmogpbdaaW.PrintLast Go.Proofs.YtekpbgmmogpbdaaW.PrintMore
attribute [local go_sem] max2_int min2_int max_two min_two max_three min_three max_four min_four
def hurdleref01_digits.f : Nat → Int → Option (ByteArray)
 | 0, _ => none
 | k + 1, a0 => (some (([(IntKind.u64.wrap (48 + (Int.tmod a0 16))) % 256] : List Int) : List Int)).bind fun y101 => (if (Int.tmod a0 16) > 9 then ((some (([(IntKind.u64.wrap (87 + (Int.tmod a0 16))) % 256] : List Int) : List Int)).bind fun y104 => (if a0 < 16 then (some (strOfNums y104)) else ((hurdleref01_digits.f k (IntKind.u64.wrap (Int.tdiv a0 16))).bind fun t107 => (if t107.size + (strOfNums y104).size ≤ 9223372036854775807 then (some (t107 ++ (strOfNums y104))) else (none))))) else (if a0 < 16 then (some (strOfNums y101)) else ((hurdleref01_digits.f k (IntKind.u64.wrap (Int.tdiv a0 16))).bind fun t108 => (if t108.size + (strOfNums y101).size ≤ 9223372036854775807 then (some (t108 ++ (strOfNums y101))) else (none)))))
set_option maxHeartbeats 8000000 in
set_option maxRecDepth 100000 in
theorem hurdleref01_digits.calls (k : Nat) : ∀ (a0 : Int) (r : ByteArray) (w : World) (h : hurdleref01_digits.f k a0 = some r),
 Calls Try.prog 71 #[.int .u64 a0] w fun e w' => e = .returned (.string r) ∧ Below w.heap.size w w' := by
 induction k using Nat.strongRecOn with
 | _ k ih =>
 intro a0 r w h
 cases k with
 | zero => exact absurd h (by simp [hurdleref01_digits.f])
 | succ k =>
 simp only [hurdleref01_digits.f] at h
 have HB := aM (Below.refl w.heap.size w)
 have H : ((some (([(IntKind.u64.wrap (48 + (Int.tmod a0 16))) % 256] : List Int) : List Int)).bind fun y101 => (if (Int.tmod a0 16) > 9 then ((some (([(IntKind.u64.wrap (87 + (Int.tmod a0 16))) % 256] : List Int) : List Int)).bind fun y104 => (if a0 < 16 then (some (strOfNums y104)) else ((hurdleref01_digits.f k (IntKind.u64.wrap (Int.tdiv a0 16))).bind fun t107 => (if t107.size + (strOfNums y104).size ≤ 9223372036854775807 then (some (t107 ++ (strOfNums y104))) else (none))))) else (if a0 < 16 then (some (strOfNums y101)) else ((hurdleref01_digits.f k (IntKind.u64.wrap (Int.tdiv a0 16))).bind fun t108 => (if t108.size + (strOfNums y101).size ≤ 9223372036854775807 then (some (t108 ++ (strOfNums y101))) else (none)))))) = some r := h
 clear h
 obtain ⟨y101, hy101⟩ : ∃ y_ : List Int, y_ = (([(IntKind.u64.wrap (48 + (Int.tmod a0 16))) % 256] : List Int)) := ⟨_, rfl⟩
 replace H : (if (Int.tmod a0 16) > 9 then ((some (([(IntKind.u64.wrap (87 + (Int.tmod a0 16))) % 256] : List Int) : List Int)).bind fun y104 => (if a0 < 16 then (some (strOfNums y104)) else ((hurdleref01_digits.f k (IntKind.u64.wrap (Int.tdiv a0 16))).bind fun t107 => (if t107.size + (strOfNums y104).size ≤ 9223372036854775807 then (some (t107 ++ (strOfNums y104))) else (none))))) else (if a0 < 16 then (some (strOfNums y101)) else ((hurdleref01_digits.f k (IntKind.u64.wrap (Int.tdiv a0 16))).bind fun t108 => (if t108.size + (strOfNums y101).size ≤ 9223372036854775807 then (some (t108 ++ (strOfNums y101))) else (none))))) = some r := by first | (rw [hy101]; with_reducible exact H) | (have H2_ := (Option.bind_some _ _).symm.trans H; rw [hy101]; with_reducible exact H2_) | (have H2_ := (Option.bind_some _ _).symm.trans H; with_reducible exact H2_) | with_reducible exact H | (rw [hy101]; exact H) | exact H
 have Ny101 := aM hy101
 clear hy101
 by_cases c2 : (Int.tmod a0 16) > 9
 rotate_left
 · rw [if_neg c2] at H
   have c2b0 : decide (9 < (Int.tmod a0 16)) = false := decide_eq_false c2
   clear c2
   by_cases c19 : a0 < 16
   · rw [if_pos c19] at H
     have c19b0 : decide (a0 < 16) = true := decide_eq_true c19
     clear c19
     obtain rfl := Option.some.inj H
     go_enter Try.func71, Try.ntmps71
     go_wp2_with (first | ((with_reducible refine gate_dst (N := 10) rfl ?_); refine Kd.R_lit (Kd.int .u8) _ 5 ?hg (N := 10) ?hd (xs := ([(IntKind.u64.wrap (48 + (Int.tmod a0 16))) % 256] : List Int)) (inner := [.int .u8 ((IntKind.u64.wrap (48 + (Int.tmod a0 16))) % 256)]) (ok := fun _ => True) (okp := fun _ => True) ?hr ?hp (fun _ hk => hk) trivial (Below.refl _ _) (Nat.le_refl _) (by simp) ?_; (case hd => rfl); (case hg => rfl); (case hr => first | (go_simp; done) | (go_simp; rfl)); (case hp => exact (Reps.one (show Kd.M (Kd.int .u8) _ _ _ ((IntKind.u64.wrap (48 + (Int.tmod a0 16))) % 256) [.int .u8 ((IntKind.u64.wrap (48 + (Int.tmod a0 16))) % 256)] from rfl) (Reps.none _ _))); intro v102 w20 ho21 hb hg_ hnew_; clear hg_ hnew_; (first | rw [← Ny101.out] at ho21 | (simp only [Int.reduceToNat] at ho21; rw [← Ny101.out] at ho21)); have n0_ := aM (Kd.R_lower ho21 (below_size bl0)); have n1_ := aM (below_step bl0 hb); clear HB; have HO103 := n0_; have HB := n1_; clear n0_ n1_; clear hb ho21; have hcv22 := own_string (P := Try.prog) Try.underlying101 Try.underlying5 Try.underlying9 (Kd.own_of_R HO103.out)))
     go_ret
     exact ⟨erA, bl0⟩
   rw [if_neg c19] at H
   have c19b0 : decide (a0 < 16) = false := decide_eq_false c19
   clear c19
   replace H := Option.bind_eq_some_iff.mp H
   obtain ⟨t108, A230, H⟩ := H
   replace H : (if t108.size + (strOfNums y101).size ≤ 9223372036854775807 then (some (t108 ++ (strOfNums y101))) else (none)) = some r := H
   have A23 := aM A230
   clear A230
   by_cases c24 : t108.size + (strOfNums y101).size ≤ 9223372036854775807
   rotate_left
   · rw [if_neg c24] at H
     exact absurd H (by simp)
   rw [if_pos c24] at H
   have c24b0 := eq_true c24
   have c24b1 : decide (t108.size + (strOfNums y101).size ≤ 9223372036854775807) = true := decide_eq_true c24
   try have c24b2 : (9223372036854775807 < t108.size + (strOfNums y101).size) = False := eq_false (Nat.not_lt.2 c24)
   obtain rfl := Option.some.inj H
   go_enter Try.func71, Try.ntmps71
   go_wp2_with (first | ((with_reducible refine gate_dst (N := 10) rfl ?_); refine Kd.R_lit (Kd.int .u8) _ 5 ?hg (N := 10) ?hd (xs := ([(IntKind.u64.wrap (48 + (Int.tmod a0 16))) % 256] : List Int)) (inner := [.int .u8 ((IntKind.u64.wrap (48 + (Int.tmod a0 16))) % 256)]) (ok := fun _ => True) (okp := fun _ => True) ?hr ?hp (fun _ hk => hk) trivial (Below.refl _ _) (Nat.le_refl _) (by simp) ?_; (case hd => rfl); (case hg => rfl); (case hr => first | (go_simp; done) | (go_simp; rfl)); (case hp => exact (Reps.one (show Kd.M (Kd.int .u8) _ _ _ ((IntKind.u64.wrap (48 + (Int.tmod a0 16))) % 256) [.int .u8 ((IntKind.u64.wrap (48 + (Int.tmod a0 16))) % 256)] from rfl) (Reps.none _ _))); intro v102 w25 ho26 hb hg_ hnew_; clear hg_ hnew_; (first | rw [← Ny101.out] at ho26 | (simp only [Int.reduceToNat] at ho26; rw [← Ny101.out] at ho26)); have n0_ := aM (Kd.R_lower ho26 (below_size bl0)); have n1_ := aM (below_step bl0 hb); clear HB; have HO103 := n0_; have HB := n1_; clear n0_ n1_; clear hb ho26; have hcv27 := own_string (P := Try.prog) Try.underlying101 Try.underlying5 Try.underlying9 (Kd.own_of_R HO103.out)) | ((with_reducible refine gate_callee (f := 71) rfl ?_); refine goesL_ (some 24) rfl rfl Try.func71 kR rfl #[.int .u64 (IntKind.u64.wrap (Int.tdiv a0 16))] rfl mpA ?_; (with_reducible refine (ih k (by omega) (IntKind.u64.wrap (Int.tdiv a0 16)) t108 _ A23.out).mono ?_); rintro e w28 ⟨rfl, hb⟩; refine ⟨_, rfl, ?_⟩; have n0_ := aM (Kd.R_below (rdS HO103.out) hb); have n1_ := aM (below_step bl0 hb); clear HO103; clear HB; have HO103 := n0_; have HB := n1_; clear n0_ n1_; (try clear hb); (try clear hb2); (try clear hk); (try clear hi)))
   go_ret
   exact ⟨erA, bl0⟩
 rw [if_pos c2] at H
 have c2b0 : decide (9 < (Int.tmod a0 16)) = true := decide_eq_true c2
 clear c2
 obtain ⟨y104, hy104⟩ : ∃ y_ : List Int, y_ = (([(IntKind.u64.wrap (87 + (Int.tmod a0 16))) % 256] : List Int)) := ⟨_, rfl⟩
 replace H : (if a0 < 16 then (some (strOfNums y104)) else ((hurdleref01_digits.f k (IntKind.u64.wrap (Int.tdiv a0 16))).bind fun t107 => (if t107.size + (strOfNums y104).size ≤ 9223372036854775807 then (some (t107 ++ (strOfNums y104))) else (none)))) = some r := by first | (rw [hy104]; with_reducible exact H) | (have H2_ := (Option.bind_some _ _).symm.trans H; rw [hy104]; with_reducible exact H2_) | (have H2_ := (Option.bind_some _ _).symm.trans H; with_reducible exact H2_) | with_reducible exact H | (rw [hy104]; exact H) | exact H
 have Ny104 := aM hy104
 clear hy104
 by_cases c3 : a0 < 16
 · rw [if_pos c3] at H
   have c3b0 : decide (a0 < 16) = true := decide_eq_true c3
   clear c3
   obtain rfl := Option.some.inj H
   go_enter Try.func71, Try.ntmps71
   go_wp2_with (first | ((with_reducible refine gate_dst (N := 10) rfl ?_); refine Kd.R_lit (Kd.int .u8) _ 5 ?hg (N := 10) ?hd (xs := ([(IntKind.u64.wrap (48 + (Int.tmod a0 16))) % 256] : List Int)) (inner := [.int .u8 ((IntKind.u64.wrap (48 + (Int.tmod a0 16))) % 256)]) (ok := fun _ => True) (okp := fun _ => True) ?hr ?hp (fun _ hk => hk) trivial (Below.refl _ _) (Nat.le_refl _) (by simp) ?_; (case hd => rfl); (case hg => rfl); (case hr => first | (go_simp; done) | (go_simp; rfl)); (case hp => exact (Reps.one (show Kd.M (Kd.int .u8) _ _ _ ((IntKind.u64.wrap (48 + (Int.tmod a0 16))) % 256) [.int .u8 ((IntKind.u64.wrap (48 + (Int.tmod a0 16))) % 256)] from rfl) (Reps.none _ _))); intro v102 w4 ho5 hb hg_ hnew_; clear hg_ hnew_; (first | rw [← Ny101.out] at ho5 | (simp only [Int.reduceToNat] at ho5; rw [← Ny101.out] at ho5)); have n0_ := aM (Kd.R_lower ho5 (below_size bl0)); have n1_ := aM (below_step bl0 hb); clear HB; have HO103 := n0_; have HB := n1_; clear n0_ n1_; clear hb ho5; have hcv6 := own_string (P := Try.prog) Try.underlying101 Try.underlying5 Try.underlying9 (Kd.own_of_R HO103.out)) | ((with_reducible refine gate_dst (N := 17) rfl ?_); refine Kd.R_lit (Kd.int .u8) _ 5 ?hg (N := 17) ?hd (xs := ([(IntKind.u64.wrap (87 + (Int.tmod a0 16))) % 256] : List Int)) (inner := [.int .u8 ((IntKind.u64.wrap (87 + (Int.tmod a0 16))) % 256)]) (ok := fun _ => True) (okp := fun _ => True) ?hr ?hp (fun _ hk => hk) trivial (Below.refl _ _) (Nat.le_refl _) (by simp) ?_; (case hd => rfl); (case hg => rfl); (case hr => first | (go_simp; done) | (go_simp; rfl)); (case hp => exact (Reps.one (show Kd.M (Kd.int .u8) _ _ _ ((IntKind.u64.wrap (87 + (Int.tmod a0 16))) % 256) [.int .u8 ((IntKind.u64.wrap (87 + (Int.tmod a0 16))) % 256)] from rfl) (Reps.none _ _))); intro v105 w7 ho8 hb hg_ hnew_; clear hg_ hnew_; (first | rw [← Ny104.out] at ho8 | (simp only [Int.reduceToNat] at ho8; rw [← Ny104.out] at ho8)); have n0_ := aM (Kd.R_elder' (rdS HO103.out) (Kd.R_base ho8) hb); have n1_ := aM (Kd.R_lower (Kd.R_new' ho8 (Kd.R_lt (rdS HO103.out))) (below_size bl0)); have n2_ := aM (below_step bl0 hb); clear HO103; clear HB; have HO103 := n0_; have HO106 := n1_; have HB := n2_; clear n0_ n1_ n2_; clear hb ho8; have hcv9 := own_string (P := Try.prog) Try.underlying101 Try.underlying5 Try.underlying9 (Kd.own_of_R HO106.out)))
   go_ret
   exact ⟨erA, bl0⟩
 rw [if_neg c3] at H
 have c3b0 : decide (a0 < 16) = false := decide_eq_false c3
 clear c3
 replace H := Option.bind_eq_some_iff.mp H
 obtain ⟨t107, A100, H⟩ := H
 replace H : (if t107.size + (strOfNums y104).size ≤ 9223372036854775807 then (some (t107 ++ (strOfNums y104))) else (none)) = some r := H
 have A10 := aM A100
 clear A100
 by_cases c11 : t107.size + (strOfNums y104).size ≤ 9223372036854775807
 rotate_left
 · rw [if_neg c11] at H
   exact absurd H (by simp)
 rw [if_pos c11] at H
 have c11b0 := eq_true c11
 have c11b1 : decide (t107.size + (strOfNums y104).size ≤ 9223372036854775807) = true := decide_eq_true c11
 try have c11b2 : (9223372036854775807 < t107.size + (strOfNums y104).size) = False := eq_false (Nat.not_lt.2 c11)
 obtain rfl := Option.some.inj H
 go_enter Try.func71, Try.ntmps71
 go_wp2_with (first | ((with_reducible refine gate_dst (N := 10) rfl ?_); refine Kd.R_lit (Kd.int .u8) _ 5 ?hg (N := 10) ?hd (xs := ([(IntKind.u64.wrap (48 + (Int.tmod a0 16))) % 256] : List Int)) (inner := [.int .u8 ((IntKind.u64.wrap (48 + (Int.tmod a0 16))) % 256)]) (ok := fun _ => True) (okp := fun _ => True) ?hr ?hp (fun _ hk => hk) trivial (Below.refl _ _) (Nat.le_refl _) (by simp) ?_; (case hd => rfl); (case hg => rfl); (case hr => first | (go_simp; done) | (go_simp; rfl)); (case hp => exact (Reps.one (show Kd.M (Kd.int .u8) _ _ _ ((IntKind.u64.wrap (48 + (Int.tmod a0 16))) % 256) [.int .u8 ((IntKind.u64.wrap (48 + (Int.tmod a0 16))) % 256)] from rfl) (Reps.none _ _))); intro v102 w12 ho13 hb hg_ hnew_; clear hg_ hnew_; (first | rw [← Ny101.out] at ho13 | (simp only [Int.reduceToNat] at ho13; rw [← Ny101.out] at ho13)); have n0_ := aM (Kd.R_lower ho13 (below_size bl0)); have n1_ := aM (below_step bl0 hb); clear HB; have HO103 := n0_; have HB := n1_; clear n0_ n1_; clear hb ho13; have hcv14 := own_string (P := Try.prog) Try.underlying101 Try.underlying5 Try.underlying9 (Kd.own_of_R HO103.out)) | ((with_reducible refine gate_dst (N := 17) rfl ?_); refine Kd.R_lit (Kd.int .u8) _ 5 ?hg (N := 17) ?hd (xs := ([(IntKind.u64.wrap (87 + (Int.tmod a0 16))) % 256] : List Int)) (inner := [.int .u8 ((IntKind.u64.wrap (87 + (Int.tmod a0 16))) % 256)]) (ok := fun _ => True) (okp := fun _ => True) ?hr ?hp (fun _ hk => hk) trivial (Below.refl _ _) (Nat.le_refl _) (by simp) ?_; (case hd => rfl); (case hg => rfl); (case hr => first | (go_simp; done) | (go_simp; rfl)); (case hp => exact (Reps.one (show Kd.M (Kd.int .u8) _ _ _ ((IntKind.u64.wrap (87 + (Int.tmod a0 16))) % 256) [.int .u8 ((IntKind.u64.wrap (87 + (Int.tmod a0 16))) % 256)] from rfl) (Reps.none _ _))); intro v105 w15 ho16 hb hg_ hnew_; clear hg_ hnew_; (first | rw [← Ny104.out] at ho16 | (simp only [Int.reduceToNat] at ho16; rw [← Ny104.out] at ho16)); have n0_ := aM (Kd.R_elder' (rdS HO103.out) (Kd.R_base ho16) hb); have n1_ := aM (Kd.R_lower (Kd.R_new' ho16 (Kd.R_lt (rdS HO103.out))) (below_size bl0)); have n2_ := aM (below_step bl0 hb); clear HO103; clear HB; have HO103 := n0_; have HO106 := n1_; have HB := n2_; clear n0_ n1_ n2_; clear hb ho16; have hcv17 := own_string (P := Try.prog) Try.underlying101 Try.underlying5 Try.underlying9 (Kd.own_of_R HO106.out)) | ((with_reducible refine gate_callee (f := 71) rfl ?_); refine goesL_ (some 24) rfl rfl Try.func71 kR rfl #[.int .u64 (IntKind.u64.wrap (Int.tdiv a0 16))] rfl mpA ?_; (with_reducible refine (ih k (by omega) (IntKind.u64.wrap (Int.tdiv a0 16)) t107 _ A10.out).mono ?_); rintro e w18 ⟨rfl, hb⟩; refine ⟨_, rfl, ?_⟩; have n0_ := aM (Kd.R_below (rdS HO103.out) hb); have n1_ := aM (Kd.R_below (rdS HO106.out) hb); have n2_ := aM (below_step bl0 hb); clear HO103; clear HO106; clear HB; have HO103 := n0_; have HO106 := n1_; have HB := n2_; clear n0_ n1_ n2_; (try clear hb); (try clear hb2); (try clear hk); (try clear hi)))
 go_ret
 exact ⟨erA, bl0⟩
def hurdleref01_Text.f (k : Nat) (a0 : Int) : Option (ByteArray) := (hurdleref01_digits.f k a0).bind fun t109 => (if 2 + t109.size ≤ 9223372036854775807 then (some ((⟨#[48, 120]⟩ : ByteArray) ++ t109)) else (none))
set_option maxHeartbeats 8000000 in
set_option maxRecDepth 100000 in
theorem hurdleref01_Text.calls (k : Nat) (a0 : Int) (r : ByteArray) (w : World) (h : hurdleref01_Text.f k a0 = some r) :
 Calls Try.prog 54 #[.int .u64 a0] w fun e w' => e = .returned (.string r) ∧ Below w.heap.size w w' := by
 have HB := aM (Below.refl w.heap.size w)
 have H : ((hurdleref01_digits.f k a0).bind fun t109 => (if 2 + t109.size ≤ 9223372036854775807 then (some ((⟨#[48, 120]⟩ : ByteArray) ++ t109)) else (none))) = some r := h
 clear h
 replace H := Option.bind_eq_some_iff.mp H
 obtain ⟨t109, A20, H⟩ := H
 replace H : (if 2 + t109.size ≤ 9223372036854775807 then (some ((⟨#[48, 120]⟩ : ByteArray) ++ t109)) else (none)) = some r := H
 have A2 := aM A20
 clear A20
 by_cases c3 : 2 + t109.size ≤ 9223372036854775807
 rotate_left
 · rw [if_neg c3] at H
   exact absurd H (by simp)
 rw [if_pos c3] at H
 have c3b0 := eq_true c3
 have c3b1 : decide (2 + t109.size ≤ 9223372036854775807) = true := decide_eq_true c3
 try have c3b2 : (9223372036854775807 < 2 + t109.size) = False := eq_false (Nat.not_lt.2 c3)
 obtain rfl := Option.some.inj H
 go_enter Try.func54, Try.ntmps54
 go_wp2_with (first | ((with_reducible refine gate_callee (f := 71) rfl ?_); refine goesL_ (some 4) rfl rfl Try.func71 kR rfl #[.int .u64 a0] rfl mpA ?_; (with_reducible refine (hurdleref01_digits.calls k a0 t109 _ A2.out).mono ?_); rintro e w4 ⟨rfl, hb⟩; refine ⟨_, rfl, ?_⟩; have n0_ := aM (below_step bl0 hb); clear HB; have HB := n0_; clear n0_; (try clear hb); (try clear hb2); (try clear hk); (try clear hi)))
 go_ret
 exact ⟨erA, bl0⟩
mutual
def hurdleref01_Parse.j0 : Nat → ByteArray → Bool → Option (Int × Bool)
 | 0, _, _ => none
 | k + 1, x0, x14 => if x14 = true then (some (0, false)) else (hurdleref01_Parse.l0 k x0 0 2)
def hurdleref01_Parse.l0 : Nat → ByteArray → Int → Int → Option (Int × Bool)
 | 0, _, _, _ => none
 | k + 1, x0, x4, x5 => if x5 < (x0.size : Int) then (if 0 ≤ x5 then (if (bt x0 x5) ≥ 97 then (hurdleref01_Parse.l0 k x0 (IntKind.u64.wrap ((IntKind.u64.wrap (x4 * 16)) + (IntKind.u64.wrap ((IntKind.u64.wrap (bt x0 x5)) - 87)))) (wrap64 (x5 + 1))) else (hurdleref01_Parse.l0 k x0 (IntKind.u64.wrap ((IntKind.u64.wrap (x4 * 16)) + (IntKind.u64.wrap ((IntKind.u64.wrap (bt x0 x5)) - 48)))) (wrap64 (x5 + 1)))) else (none)) else ((hurdleref01_Text.f k x4).bind fun t110 => (if t110.toList = x0.toList then (some (x4, true)) else (some (0, false))))
end
def hurdleref01_Parse.f (k : Nat) (a0 : ByteArray) : Option (Int × Bool) := if (a0.size : Int) < 3 then (hurdleref01_Parse.j0 k a0 true) else (hurdleref01_Parse.j0 k a0 (decide ((a0.size : Int) > 18)))
set_option maxHeartbeats 8000000 in
set_option maxRecDepth 100000 in
theorem hurdleref01_Parse.calls (k : Nat) (a0 : ByteArray) (r1 : Int) (r2 : Bool) (w : World) (h : hurdleref01_Parse.f k a0 = some (r1, r2)) :
 Calls Try.prog 80 #[.string a0] w fun e w' => e = .returned (.tuple #[.int .u64 r1, .bool r2]) ∧ Below w.heap.size w w' := by
 have HB := aM (Below.refl w.heap.size w)
 have H : (if (a0.size : Int) < 3 then (hurdleref01_Parse.j0 k a0 true) else (hurdleref01_Parse.j0 k a0 (decide ((a0.size : Int) > 18)))) = some (r1, r2) := h
 clear h
 have HC2 := aM H
 clear H
 go_enter Try.func80, Try.ntmps80
 go_upto_region 1 with (fail)
 go_cut [14] (fun v14 wc => ∃ (kq : Nat) (x14_1 : Bool), v14 = .bool x14_1 ∧ Aside0 (hurdleref01_Parse.j0 kq a0 x14_1 = some (r1, r2)) ∧ Aside0 (kq ≤ k) ∧ Aside0 (Below w.heap.size w wc))
 case first =>
  have H := HC2.out
  clear HC2
  by_cases c3 : (a0.size : Int) < 3
  · rw [if_pos c3] at H
    have c3b0 : decide ((a0.size : Int) < 3) = true := decide_eq_true c3
    have c3b1 : decide (a0.size < 3) = true := decide_eq_true (by omega)
    clear c3
    (first | rw [c3b0] | (simp only [i64_w, i32_w]; rw [c3b0]) | skip)
    have H' := aM H
    clear H
    go_wp2
    go_meet
    case rel => exact ⟨_, (true), (by first | rfl | (simp; done) | (simp [*]; done)), H', ⟨by first | omega | exact Nat.le_refl _⟩, ⟨bl0⟩⟩
  rw [if_neg c3] at H
  have c3b0 : decide ((a0.size : Int) < 3) = false := decide_eq_false c3
  have c3b1 : decide (a0.size < 3) = false := decide_eq_false (by omega)
  clear c3
  (first | rw [c3b0] | (simp only [i64_w, i32_w]; rw [c3b0]) | skip)
  have H' := aM H
  clear H
  go_wp2
  go_meet
  case rel => exact ⟨_, (decide ((a0.size : Int) > 18)), (by first | rfl | (simp; done) | (simp [*]; done)), H', ⟨by first | omega | exact Nat.le_refl _⟩, ⟨bl0⟩⟩
 case rest =>
  clear HC2
  try clear p2
  try clear c3
  try clear c3b0
  try clear c3b1
  obtain ⟨kq, x14_1, rfl, HA, HJ1, HB⟩ := hcut
  cases kq with
  | zero => exact absurd HA.out (by simp [hurdleref01_Parse.j0])
  | succ kj1 =>
   have H := HA.out
   clear HA
   simp only [hurdleref01_Parse.j0] at H
   by_cases c4 : x14_1 = true
   · subst c4
     have H1 : (some (0, false)) = some (r1, r2) := by rw [if_pos rfl] at H; exact H
     clear H
     have H := H1
     clear H1
     simp only [Option.some.injEq, Prod.mk.injEq] at H
     obtain ⟨rfl, rfl⟩ := H
     go_wp2
     go_ret2
     exact ⟨erA, bl0⟩
   replace c4 := Bool.eq_false_iff.mpr c4
   subst c4
   have H1 : (hurdleref01_Parse.l0 kj1 a0 0 2) = some (r1, r2) := by rw [if_neg (show ¬ (false = true) by decide)] at H; exact H
   clear H
   have H := H1
   clear H1
   have H' := aM H
   clear H
   go_wp2
   go_loopg [4, 5] kj1 (fun kq v4 v5 w' => ∃ (x4_2 : Int) (x5_2 : Int), v4 = .int .u64 x4_2 ∧ v5 = .int .i64 x5_2 ∧ Aside0 (hurdleref01_Parse.l0 kq a0 x4_2 x5_2 = some (r1, r2)) ∧ Aside0 (kq ≤ kj1) ∧ Aside0 (Below w.heap.size w w'))
   case atStart => exact ⟨(0), (2), (by first | rfl | (simp; done) | (simp [*]; done)), (by first | rfl | (simp; done) | (simp [*]; done)), H', ⟨Nat.le_refl _⟩, ⟨bl0⟩⟩
   case round =>
    clear H'
    try clear p2
    try clear c3
    try clear c3b0
    try clear c3b1
    try clear c4
    try clear p2
    obtain ⟨x4_2, x5_2, rfl, rfl, HA, HK2, HB⟩ := hrel
    cases gk with
    | zero => exact absurd HA.out (by simp [hurdleref01_Parse.l0])
    | succ k2 =>
     have H := HA.out
     clear HA
     simp only [hurdleref01_Parse.l0] at H
     by_cases c5 : x5_2 < (a0.size : Int)
     rotate_left
     · rw [if_neg c5] at H
       have c5b0 : decide (x5_2 < (a0.size : Int)) = false := decide_eq_false c5
       clear c5
       replace H := Option.bind_eq_some_iff.mp H
       obtain ⟨t110, A110, H⟩ := H
       replace H : (if t110.toList = a0.toList then (some (x4_2, true)) else (some (0, false))) = some (r1, r2) := H
       have A11 := aM A110
       clear A110
       by_cases c12 : t110.toList = a0.toList
       rotate_left
       · rw [if_neg c12] at H
         have c12b0 : (t110.toList == a0.toList) = false := beq_eq_false_iff_ne.mpr c12
         have c12b1 : (t110.toList != a0.toList) = true := bne_iff_ne.mpr c12
         simp only [Option.some.injEq, Prod.mk.injEq] at H
         obtain ⟨rfl, rfl⟩ := H
         go_wp2_with (first | ((with_reducible refine gate_callee (f := 54) rfl ?_); refine goesL_ (some 40) rfl rfl Try.func54 kR rfl #[.int .u64 x4_2] rfl mpA ?_; (with_reducible refine (hurdleref01_Text.calls k2 x4_2 t110 _ A11.out).mono ?_); rintro e w14 ⟨rfl, hb⟩; refine ⟨_, rfl, ?_⟩; have n0_ := aM (below_step bl0 hb); clear HB; have HB := n0_; clear n0_; (try clear hb); (try clear hb2); (try clear hk); (try clear hi)))
         go_ret2
         exact ⟨erA, bl0⟩
       rw [if_pos c12] at H
       have c12b0 : (t110.toList == a0.toList) = true := beq_iff_eq.mpr c12
       have c12b1 : (t110.toList != a0.toList) = false := bne_eq_false_iff_eq.mpr c12
       clear c12
       simp only [Option.some.injEq, Prod.mk.injEq] at H
       obtain ⟨rfl, rfl⟩ := H
       go_wp2_with (first | ((with_reducible refine gate_callee (f := 54) rfl ?_); refine goesL_ (some 40) rfl rfl Try.func54 kR rfl #[.int .u64 x4_2] rfl mpA ?_; (with_reducible refine (hurdleref01_Text.calls k2 x4_2 t110 _ A11.out).mono ?_); rintro e w13 ⟨rfl, hb⟩; refine ⟨_, rfl, ?_⟩; have n0_ := aM (below_step bl0 hb); clear HB; have HB := n0_; clear n0_; (try clear hb); (try clear hb2); (try clear hk); (try clear hi)))
       go_ret2
       exact ⟨erA, bl0⟩
     rw [if_pos c5] at H
     have c5b0 : decide (x5_2 < (a0.size : Int)) = true := decide_eq_true c5
     clear c5
     by_cases c6 : 0 ≤ x5_2
     rotate_left
     · rw [if_neg c6] at H
       exact absurd H (by simp)
     rw [if_pos c6] at H
     have c6b0 : decide (0 ≤ x5_2) = true := decide_eq_true c6
     clear c6
     by_cases c9 : (bt a0 x5_2) ≥ 97
     rotate_left
     · rw [if_neg c9] at H
       have c9b0 : decide (97 ≤ (bt a0 x5_2)) = false := decide_eq_false c9
       clear c9
       have H' := aM H
       clear H
       have p7 : 0 ≤ (x5_2 : Int) := of_decide_eq_true as_
       have q7 : x5_2 < (a0.size : Int) := of_decide_eq_true as_
       have hx7 := bt_at a0 x5_2
       replace p7 := eq_true p7
       replace q7 := eq_true q7
       have p8 : 0 ≤ (x5_2 : Int) := of_decide_eq_true as_
       have q8 : x5_2 < (a0.size : Int) := of_decide_eq_true as_
       have hx8 := bt_at a0 x5_2
       replace p8 := eq_true p8
       replace q8 := eq_true q8
       go_wp2
       go_roundg k2
       case measure => have := HJ1.out; have := HK2.out; omega
       case rel => exact ⟨(IntKind.u64.wrap ((IntKind.u64.wrap (x4_2 * 16)) + (IntKind.u64.wrap ((IntKind.u64.wrap (bt a0 x5_2)) - 48)))), (wrap64 (x5_2 + 1)), (by first | rfl | (simp; done) | (simp [*]; done)), (by first | rfl | (simp; done) | (simp [*]; done)), H', ⟨by have := HJ1.out; have := HK2.out; omega⟩, ⟨bl0⟩⟩
     rw [if_pos c9] at H
     have c9b0 : decide (97 ≤ (bt a0 x5_2)) = true := decide_eq_true c9
     clear c9
     have H' := aM H
     clear H
     have p7 : 0 ≤ (x5_2 : Int) := of_decide_eq_true as_
     have q7 : x5_2 < (a0.size : Int) := of_decide_eq_true as_
     have hx7 := bt_at a0 x5_2
     replace p7 := eq_true p7
     replace q7 := eq_true q7
     have p8 : 0 ≤ (x5_2 : Int) := of_decide_eq_true as_
     have q8 : x5_2 < (a0.size : Int) := of_decide_eq_true as_
     have hx8 := bt_at a0 x5_2
     replace p8 := eq_true p8
     replace q8 := eq_true q8
     have p10 : 0 ≤ (x5_2 : Int) := of_decide_eq_true as_
     have q10 : x5_2 < (a0.size : Int) := of_decide_eq_true as_
     have hx10 := bt_at a0 x5_2
     replace p10 := eq_true p10
     replace q10 := eq_true q10
     go_wp2
     go_roundg k2
     case measure => have := HJ1.out; have := HK2.out; omega
     case rel => exact ⟨(IntKind.u64.wrap ((IntKind.u64.wrap (x4_2 * 16)) + (IntKind.u64.wrap ((IntKind.u64.wrap (bt a0 x5_2)) - 87)))), (wrap64 (x5_2 + 1)), (by first | rfl | (simp; done) | (simp [*]; done)), (by first | rfl | (simp; done) | (simp [*]; done)), H', ⟨by have := HJ1.out; have := HK2.out; omega⟩, ⟨bl0⟩⟩
end Go.Proofs.Ytekpbgmmogpbdaa.M
set_option maxRecDepth 100000
namespace Go.Proofs.Ytekpbgmmogpbdaa.H
open Go.RowKit Go.Proofs.Ytekpbgmmogpbdaa.M Go.Proofs.YtekpbgmmogpbdaaW.PrintWords Go.Proofs.YtekpbgmmogpbdaaW.PrintMore
theorem str_append (a b : List Int) : strOfNums a ++ strOfNums b = strOfNums (a ++ b) := by
 apply ByteArray.ext
 apply Array.ext'
 simp [strOfNums, ByteArray.data_append]
theorem str_toList (l : List Int) : (strOfNums l).toList = u8s l := by
 rw [ByteArray.toList_eq]; exact strOfNums_data l
theorem ref_digits (n : Nat) : ∀ k j, n < 16 ^ (j + 1) → j ≤ 15 → j < k → hurdleref01_digits.f k (n : Int) = some (strOfNums (hexL n)) := by
 induction n using Nat.strongRecOn with
 | ind n ih =>
  intro k j hn hj hk
  obtain ⟨k, rfl⟩ : ∃ m, k = m + 1 := ⟨k - 1, by omega⟩
  have h64 : n < 18446744073709551616 := by
   have : 16 ^ (j + 1) ≤ 16 ^ 16 := Nat.pow_le_pow_right (by omega) (by omega)
   have e : (16 : Nat) ^ 16 = 18446744073709551616 := by decide
   omega
  have hm : Int.tmod (n : Int) 16 = ((n % 16 : Nat) : Int) := by rw [Int.tmod_eq_emod_of_nonneg (by omega)]; omega
  have hd : IntKind.u64.wrap (Int.tdiv (n : Int) 16) = ((n / 16 : Nat) : Int) := by
   rw [show Int.tdiv (n : Int) 16 = ((n / 16 : Nat) : Int) from rfl, IntWalk.u64_in _ (by omega)]
  simp only [hurdleref01_digits.f, Option.bind_some]
  rw [hm, hd]
  have hdig : ∀ d : Nat, d < 16 → (if (d : Int) > 9 then ([(IntKind.u64.wrap (87 + (d : Int))) % 256] : List Int) else [(IntKind.u64.wrap (48 + (d : Int))) % 256]) = [((hexc d : Nat) : Int)] := by
   intro d hd
   unfold hexc
   split
   · rw [if_neg (by omega), IntWalk.u64_in _ (by omega)]; congr 1; omega
   · rw [if_pos (by omega), IntWalk.u64_in _ (by omega)]; congr 1; omega
  have h1 := hdig (n % 16) (by omega)
  have hsz : ∀ m : Nat, m < 16 ^ 16 → (strOfNums (hexL m)).size ≤ 16 := by
   intro m hm
   rw [strOfNums_size]; exact (hexL_length 15 m hm).2
  by_cases hl : n < 16
  · have hx : hexL n = [((hexc (n % 16) : Nat) : Int)] := by rw [hexL, if_pos hl, Nat.mod_eq_of_lt hl]
    rw [hx, ← h1]
    split
    · rw [if_pos (by omega)]
    · rw [if_pos (by omega)]
  have hx : hexL n = hexL (n / 16) ++ [((hexc (n % 16) : Nat) : Int)] := by rw [hexL, if_neg hl]
  obtain ⟨j, rfl⟩ : ∃ i, j = i + 1 := ⟨j - 1, by
   cases j with
   | zero => simp at hn; omega
   | succ j => omega⟩
  have e2 : 16 ^ (j + 1 + 1) = 16 ^ (j + 1) * 16 := Nat.pow_succ ..
  have hi := ih (n / 16) (by omega) k j (by omega) (by omega) (by omega)
  have hs := hsz (n / 16) (by omega)
  rw [hx, ← h1, hi]
  simp only [Option.bind_some]
  split
  · rw [if_neg (by omega), if_pos (by rw [strOfNums_size] at hs ⊢; rw [strOfNums_size]; simp; omega), str_append]
  · rw [if_neg (by omega), if_pos (by rw [strOfNums_size] at hs ⊢; rw [strOfNums_size]; simp; omega), str_append]
theorem ref_text (n k : Nat) (h : n < 18446744073709551616) (hk : 15 < k) : hurdleref01_Text.f k (n : Int) = some (strOfNums (textL n)) := by
 unfold hurdleref01_Text.f
 rw [ref_digits n k 15 (by omega) (by omega) hk]
 simp only [Option.bind_some]
 have hs := (hexL_length 15 n (by omega)).2
 rw [if_pos (by rw [strOfNums_size]; omega)]
 rw [show (⟨#[48, 120]⟩ : ByteArray) = strOfNums [48, 120] from rfl, str_append]
 rfl
def refStep (n : Nat) (c : UInt8) : Nat := (n * 16 + if 97 ≤ c.toNat then (c.toNat + 18446744073709551616 - 87) else (c.toNat + 18446744073709551616 - 48)) % 18446744073709551616
def refN (l : List UInt8) (n : Nat) : Nat := l.foldl refStep n
theorem refStep_digit (n d : Nat) (c : UInt8) (h : hexd c.toNat = some d) : refStep n c = (n * 16 + d) % 18446744073709551616 := by
 unfold hexd at h
 unfold refStep
 split at h
 · have := Option.some.inj h
   rw [if_neg (by omega)]; omega
 · split at h
   · have := Option.some.inj h
     rw [if_pos (by omega)]; omega
   · cases h
theorem refN_go (l : List UInt8) : ∀ n v, hexGo l n = some v → refN l n = v := by
 induction l with
 | nil => intro n v h; exact Option.some.inj h
 | cons c l ih =>
  intro n v h
  simp only [hexGo] at h
  cases hd : hexd c.toNat with
  | none => rw [hd] at h; cases h
  | some d =>
   rw [hd] at h
   show refN l (refStep n c) = v
   rw [refStep_digit n d c hd]
   exact ih _ _ h
theorem refN_lt (l : List UInt8) : ∀ n, n < 18446744073709551616 → refN l n < 18446744073709551616 := by
 induction l with
 | nil => intro n h; exact h
 | cons c l ih => intro n h; exact ih _ (Nat.mod_lt _ (by omega))
theorem bt_drop (s : ByteArray) (i : Nat) (h : i < s.size) : ∃ c : UInt8, bt s (i : Int) = (c.toNat : Int) ∧ s.data.toList.drop i = c :: s.data.toList.drop (i + 1) := by
 refine ⟨s[i], ?_, toList_get s i h⟩
 unfold bt
 rw [dif_pos (by simpa using h)]
 rfl
def refRes (s : ByteArray) (n : Nat) : Option (Int × Bool) := if u8s (textL n) = s.data.toList then some ((n : Int), true) else some (0, false)
theorem ref_parse_l0 (s : ByteArray) (hs : s.size ≤ 18) (d : Nat) : ∀ (k i n : Nat), i + d = s.size → n < 18446744073709551616 → d + 16 < k →
 hurdleref01_Parse.l0 k s (n : Int) (i : Int) = refRes s (refN (s.data.toList.drop i) n) := by
 induction d with
 | zero =>
  intro k i n hi hn hk
  obtain ⟨k, rfl⟩ : ∃ m, k = m + 1 := ⟨k - 1, by omega⟩
  simp only [hurdleref01_Parse.l0]
  rw [if_neg (by omega), ref_text n k hn (by omega)]
  simp only [Option.bind_some]
  rw [List.drop_eq_nil_of_le (by have : s.data.toList.length = s.size := by simp
                                 omega)]
  unfold refRes refN
  rw [str_toList, ByteArray.toList_eq]
  rfl
 | succ d ih =>
  intro k i n hi hn hk
  obtain ⟨k, rfl⟩ : ∃ m, k = m + 1 := ⟨k - 1, by omega⟩
  obtain ⟨c, hc, hd⟩ := bt_drop s i (by omega)
  have hc2 := c.toNat_lt
  simp only [hurdleref01_Parse.l0]
  rw [if_pos (by omega), if_pos (by omega), hc, hd]
  have hw : wrap64 ((i : Int) + 1) = ((i + 1 : Nat) : Int) := by unfold wrap64; omega
  rw [hw]
  have hst : refN (c :: s.data.toList.drop (i + 1)) n = refN (s.data.toList.drop (i + 1)) (refStep n c) := rfl
  rw [hst]
  have h64 : IntKind.u64.wrap (c.toNat : Int) = (c.toNat : Int) := IntWalk.u64_in _ (by omega)
  have hr : refStep n c < 18446744073709551616 := Nat.mod_lt _ (by omega)
  rw [h64]
  by_cases h97 : (c.toNat : Int) ≥ 97
  · rw [if_pos h97]
    have e : IntKind.u64.wrap (IntKind.u64.wrap ((n : Int) * 16) + IntKind.u64.wrap ((c.toNat : Int) - 87)) = ((refStep n c : Nat) : Int) := by
     unfold refStep
     rw [if_pos (by omega), IntKind.wrap_u64, IntKind.wrap_u64, IntKind.wrap_u64]
     omega
    rw [e]
    exact ih k (i + 1) _ (by omega) hr (by omega)
  rw [if_neg h97]
  have e : IntKind.u64.wrap (IntKind.u64.wrap ((n : Int) * 16) + IntKind.u64.wrap ((c.toNat : Int) - 48)) = ((refStep n c : Nat) : Int) := by
   unfold refStep
   rw [if_neg (by omega), IntKind.wrap_u64, IntKind.wrap_u64, IntKind.wrap_u64]
   omega
  rw [e]
  exact ih k (i + 1) _ (by omega) hr (by omega)
theorem ref_parse (s : ByteArray) (k : Nat) (hk : 60 ≤ k) :
 hurdleref01_Parse.f k s = some (match parseL s.data.toList with | some n => ((n : Int), true) | none => (0, false)) := by
 unfold hurdleref01_Parse.f
 obtain ⟨k, rfl⟩ : ∃ m, k = m + 1 := ⟨k - 1, by omega⟩
 by_cases h3 : (s.size : Int) < 3
 · rw [if_pos h3, parse_short (by omega)]
   rfl
 rw [if_neg h3]
 by_cases h18 : (s.size : Int) > 18
 · rw [decide_eq_true h18, parse_short (by omega)]
   rfl
 rw [decide_eq_false h18]
 show hurdleref01_Parse.l0 k s 0 2 = _
 have := ref_parse_l0 s (by omega) (s.size - 2) k 2 0 (by omega) (by omega) (by omega)
 rw [show ((0 : Int)) = ((0 : Nat) : Int) from rfl, show ((2 : Int)) = ((2 : Nat) : Int) from rfl, this]
 have hlt := refN_lt (s.data.toList.drop 2) 0 (by omega)
 unfold refRes
 cases hp : parseL s.data.toList with
 | some v =>
  have ht := text_parse _ _ hp
  have hg : hexGo (s.data.toList.drop 2) 0 = some v := by
   unfold parseL at hp
   split at hp
   · exact hp
   · cases hp
  rw [refN_go _ _ _ hg, if_pos ht]
 | none =>
  rw [if_neg]
  · rfl
  · intro he
    have := parse_text _ hlt
    rw [he, hp] at this
    cases this
end Go.Proofs.Ytekpbgmmogpbdaa.H
set_option maxRecDepth 100000
namespace Go.Proofs.Ytekpbgmmogpbdaa.H
open Go.RowKit Go.Proofs.YtekpbgmmogpbdaaW.PrintWords
def WK : Array Value := #[.string ⟨#[101, 113]⟩, .string ⟨#[110, 101]⟩, .string ⟨#[108, 116]⟩, .string ⟨#[108, 101]⟩, .string ⟨#[103, 116]⟩, .string ⟨#[103, 101]⟩]
theorem wk_at (k : Nat) (hk : k < 6) : WK[k]? = some (.string (wordK k)) := by
 rcases (by omega : k = 0 ∨ k = 1 ∨ k = 2 ∨ k = 3 ∨ k = 4 ∨ k = 5) with rfl | rfl | rfl | rfl | rfl | rfl <;> rfl
def DG : Array Value := #[.string ⟨#[48]⟩, .string ⟨#[49]⟩, .string ⟨#[50]⟩, .string ⟨#[51]⟩, .string ⟨#[52]⟩, .string ⟨#[53]⟩]
theorem dg_at (k : Nat) (hk : k < 6) : DG[k]? = some (.string (digB k)) := by
 rcases (by omega : k = 0 ∨ k = 1 ∨ k = 2 ∨ k = 3 ∨ k = 4 ∨ k = 5) with rfl | rfl | rfl | rfl | rfl | rfl <;> rfl
def WordsGive : Prop := ∀ w, Calls Try.prog 75 #[] w fun e w' => ∃ g, e = .returned (.slice (some ⟨g, 0, none⟩) 6 6) ∧ w'.heap[g]? = some (.cells WK 9 (0, 0)) ∧ Below w.heap.size w w'
set_option maxHeartbeats 1000000 in
theorem Words_walk : WordsGive := by
 intro w
 have hg := heap_alloc_new w (.cells #[.string ⟨#[101, 113]⟩, .string ⟨#[110, 101]⟩, .string ⟨#[108, 116]⟩, .string ⟨#[108, 101]⟩, .string ⟨#[103, 116]⟩, .string ⟨#[103, 101]⟩] 9)
 have HG := Lib.hid hg
 have HB := Lib.hid ((Below.refl w.heap.size w).alloc (Nat.le_refl _) (.cells #[.string ⟨#[101, 113]⟩, .string ⟨#[110, 101]⟩, .string ⟨#[108, 116]⟩, .string ⟨#[108, 101]⟩, .string ⟨#[103, 116]⟩, .string ⟨#[103, 101]⟩] 9))
 clear hg
 go_enter Try.func75, Try.ntmps75
 go_wp2
 go_ret
 exact ⟨_, rfl, HG.out, HB.out⟩
set_option maxHeartbeats 4000000 in
theorem RefPrint_yes (j k : Nat) (hj : (j : Int) < 6) (hk : (k : Int) < 6) (m v : Int) (ch tm tv s : ByteArray) (TM : Gives Try.prog 54 #[.int .u64 m] (.string tm)) (TV : Gives Try.prog 54 #[.int .u64 v] (.string tv)) (hch : DG[j]? = some (.string ch)) (hs : WK[k]? = some (.string s)) (b1 b2 b3 b4 b5 b6 b7 : ByteArray) (e1 : Cat ⟨#[97]⟩ ch b1) (e2 : Cat b1 ⟨#[32]⟩ b2) (e3 : Cat b2 tm b3) (e4 : Cat b3 ⟨#[32]⟩ b4) (e5 : Cat b4 s b5) (e6 : Cat b5 ⟨#[32]⟩ b6) (e7 : Cat b6 tv b7) (w : World) :
 Calls Try.prog 58 #[.agg #[.int .i64 (j : Int), .int .i64 (k : Int), .int .u64 m, .int .u64 v]] w fun e w' => e = .returned (.string b7) ∧ Below w.heap.size w w' := by
 replace TM := Lib.hid TM
 replace TV := Lib.hid TV
 replace hch := Lib.hid hch
 replace hs := Lib.hid hs
 replace e1 := Lib.hid e1
 replace e2 := Lib.hid e2
 replace e3 := Lib.hid e3
 replace e4 := Lib.hid e4
 replace e5 := Lib.hid e5
 replace e6 := Lib.hid e6
 replace e7 := Lib.hid e7
 have WS := Lib.hid Words_walk
 have q1 := Lib.hid (heap_alloc_new w (Obj.cells #[.int .i64 (j : Int), .int .i64 (k : Int), .int .u64 m, .int .u64 v] 61))
 have q4 := Lib.hid ((Below.refl w.heap.size w).alloc (Nat.le_refl _) (Obj.cells #[.int .i64 (j : Int), .int .i64 (k : Int), .int .u64 m, .int .u64 v] 61))
 go_enter Try.func58, Try.ntmps58
 go_wp2_with fail
 obtain ⟨W1, hW1⟩ : ∃ W1, w.alloc (Obj.cells #[.int .i64 (j : Int), .int .i64 (k : Int), .int .u64 m, .int .u64 v] 61) = W1 := ⟨_, rfl⟩
 rw [hW1] at q1 q4
 try rw [hW1]
 clear hW1
 refine wp_region_held_drew (S := (fun w' => (w'.heap[w.heap.size]? = some (.cells #[.int .i64 (j : Int), .int .i64 (k : Int), .int .u64 m, .int .u64 v] 61 (0, 0))) ∧ (Below w.heap.size w w'))) kR ⟨q1.out, q4.out.drew⟩ (fun hNew => ?_)
 have hHeld := Lib.hid hNew
 clear hNew
 refine wpAnyH_takeL 1 (v := ?_) rfl kR kR kR (fun _ _ _ h => h) hHeld.out (yieldsIf_of rfl ?_) ?_
 rotate_left
 · (intro w hSw; go_simp <;> with_reducible rfl)
 try refine apS ?_
 refine wpAnyH_takeL 2 rfl kR kR kR (fun _ _ _ h => h) hHeld.out (yieldsIf_cell rfl 3 (.tmp 4) rfl _ rfl (.int .i64 (j : Int)) _ (fun _ h => blk_cell h.1 0) Try.underlying3 rfl) ?_
 try refine apS ?_
 refine wpAnyH_takeL 7 (v := ?_) rfl kR kR kR (fun _ _ _ h => h) hHeld.out (yieldsIf_of rfl ?_) ?_
 rotate_left
 · (intro w hSw; go_simp <;> with_reducible rfl)
 try refine apS ?_
 refine wpAnyH_takeL 8 rfl kR kR kR (fun _ _ _ h => h) hHeld.out (yieldsIf_cell rfl 41 (.tmp 10) rfl _ rfl (.int .u64 m) _ (fun _ h => blk_cell h.1 2) Try.underlying41 rfl) ?_
 try refine apS ?_
 refine wpAnyH_takeL 13 (v := ?_) rfl kR kR kR (fun _ _ _ h => h) hHeld.out (yieldsIf_of rfl ?_) ?_
 rotate_left
 · (intro w hSw; go_simp <;> with_reducible rfl)
 try refine apS ?_
 refine wpAnyH_takeL 14 rfl kR kR kR (fun _ _ _ h => h) hHeld.out (yieldsIf_cell rfl 3 (.tmp 16) rfl _ rfl (.int .i64 (k : Int)) _ (fun _ h => blk_cell h.1 1) Try.underlying3 rfl) ?_
 try refine apS ?_
 refine wpAnyH_takeL 19 (v := ?_) rfl kR kR kR (fun _ _ _ h => h) hHeld.out (yieldsIf_of rfl ?_) ?_
 rotate_left
 · (intro w hSw; go_simp <;> with_reducible rfl)
 try refine apS ?_
 refine wpAnyH_takeL 20 rfl kR kR kR (fun _ _ _ h => h) hHeld.out (yieldsIf_cell rfl 41 (.tmp 22) rfl _ rfl (.int .u64 v) _ (fun _ h => blk_cell h.1 3) Try.underlying41 rfl) ?_
 try refine apS ?_
 refine wpAnyH_ready (rs := [0, 9]) kR (by simp) (AllReadyH.cons rfl (fun K hK => ?_) (AllReadyH.cons rfl (fun K hK => ?_) (AllReadyH.nil)))
 · go_simp
   refine hK.out _ _ ⟨blk_alloc (hHeld.out.1) _, (hHeld.out.2).alloc (hHeld.out.2).size _⟩ (fun hNew => ?_)
   have hNew := And.intro (heap_alloc_new W1.drew (.cells DG 9)) hNew
   refine wpAnyH_stronger (fun w' => (w'.heap[W1.heap.size]? = some (.cells DG 9 (0, 0))) ∧ (w'.heap[w.heap.size]? = some (.cells #[.int .i64 (j : Int), .int .i64 (k : Int), .int .u64 m, .int .u64 v] 61 (0, 0))) ∧ (Below w.heap.size w w')) (fun _ h => h.2) ?_
   clear hK K hHeld
   have hHeld := Lib.hid hNew
   clear hNew
   try refine apS ?_
   refine wpAnyH_takeL 3 (v := ?_) rfl kR kR kR (fun _ _ _ h => h) hHeld.out (yieldsIf_of rfl ?_) ?_
   rotate_left
   · (intro w hSw; go_simp <;> with_reducible rfl)
   try refine apS ?_
   refine wpAnyH_takeL 4 rfl kR kR kR (fun _ _ _ h => h) hHeld.out (yieldsIf_cell rfl 9 (.tmp 6) rfl _ rfl (.string ch) _ (fun _ h => (blk_cell h.1 j).trans hch.out) Try.underlying9 rfl) ?_
   try refine apS ?_
   refine wpAnyH_takeL 5 rfl kR kR kR (fun _ _ _ h => h) hHeld.out (yieldsIf_catR e1.out rfl (.const (.string ⟨#[97]⟩)) (.tmp 7) _ rfl rfl rfl) ?_
   try refine apS ?_
   refine wpAnyH_takeL 6 rfl kR kR kR (fun _ _ _ h => h) hHeld.out (yieldsIf_catR e2.out rfl (.tmp 8) (.const (.string ⟨#[32]⟩)) _ rfl rfl rfl) ?_
   try refine apS ?_
   refine wpAnyH_one 9 _ kR rfl (fun _ h => h) (fun K hK => ?_)
   go_simp
   refine (TM.out _).mono ?_
   rintro _ v9 ⟨rfl, hb⟩
   refine hK.out _ _ ⟨blk_below (hHeld.out.1) hb, blk_below (hHeld.out.2.1) hb, below_more (hHeld.out.2.2) (Nat.le_refl _) hb⟩ (fun hNew => ?_)
   clear hK K hHeld hb
   have hHeld := Lib.hid hNew
   clear hNew
   try refine apS ?_
   refine wpAnyH_takeL 10 rfl kR kR kR (fun _ _ _ h => h) hHeld.out (yieldsIf_catR e3.out rfl (.tmp 9) (.tmp 12) _ rfl rfl rfl) ?_
   try refine apS ?_
   refine wpAnyH_takeL 11 rfl kR kR kR (fun _ _ _ h => h) hHeld.out (yieldsIf_catR e4.out rfl (.tmp 13) (.const (.string ⟨#[32]⟩)) _ rfl rfl rfl) ?_
   try refine apS ?_
   refine wpAnyH_one 12 _ kR rfl (fun _ h => h) (fun K hK => ?_)
   go_simp
   refine (WS.out _).mono ?_
   rintro _ v12 ⟨g10, rfl, hg11, hb⟩
   refine hK.out _ _ ⟨blk_below (hHeld.out.1) hb, blk_below (hHeld.out.2.1) hb, below_more (hHeld.out.2.2) (Nat.le_refl _) hb⟩ (fun hNew => ?_)
   replace hNew : (v12.heap[g10]? = some (.cells WK 9 (0, 0))) ∧ (v12.heap[W1.heap.size]? = some (.cells DG 9 (0, 0))) ∧ (v12.heap[w.heap.size]? = some (.cells #[.int .i64 (j : Int), .int .i64 (k : Int), .int .u64 m, .int .u64 v] 61 (0, 0))) ∧ (Below w.heap.size w v12) := ⟨hg11, hNew⟩
   refine wpAnyH_stronger (fun w' => (w'.heap[g10]? = some (.cells WK 9 (0, 0))) ∧ (w'.heap[W1.heap.size]? = some (.cells DG 9 (0, 0))) ∧ (w'.heap[w.heap.size]? = some (.cells #[.int .i64 (j : Int), .int .i64 (k : Int), .int .u64 m, .int .u64 v] 61 (0, 0))) ∧ (Below w.heap.size w w')) (fun _ h => h.2) ?_
   clear hK K hHeld hb
   have hHeld := Lib.hid hNew
   clear hNew
   try refine apS ?_
   refine wpAnyH_takeL 15 (v := ?_) rfl kR kR kR (fun _ _ _ h => h) hHeld.out (yieldsIf_of rfl ?_) ?_
   rotate_left
   · (intro w hSw; go_simp <;> with_reducible rfl)
   try refine apS ?_
   refine wpAnyH_takeL 16 rfl kR kR kR (fun _ _ _ h => h) hHeld.out (yieldsIf_cell rfl 9 (.tmp 18) rfl _ rfl (.string s) _ (fun _ h => (blk_cell h.1 k).trans hs.out) Try.underlying9 rfl) ?_
   try refine apS ?_
   refine wpAnyH_takeL 17 rfl kR kR kR (fun _ _ _ h => h) hHeld.out (yieldsIf_catR e5.out rfl (.tmp 14) (.tmp 19) _ rfl rfl rfl) ?_
   try refine apS ?_
   refine wpAnyH_takeL 18 rfl kR kR kR (fun _ _ _ h => h) hHeld.out (yieldsIf_catR e6.out rfl (.tmp 20) (.const (.string ⟨#[32]⟩)) _ rfl rfl rfl) ?_
   try refine apS ?_
   refine wpAnyH_one 21 _ kR rfl (fun _ h => h) (fun K hK => ?_)
   go_simp
   refine (TV.out _).mono ?_
   rintro _ v13 ⟨rfl, hb⟩
   refine hK.out _ _ ⟨blk_below (hHeld.out.1) hb, blk_below (hHeld.out.2.1) hb, blk_below (hHeld.out.2.2.1) hb, below_more (hHeld.out.2.2.2) (Nat.le_refl _) hb⟩ (fun hNew => ?_)
   clear hK K hHeld hb
   have hHeld := Lib.hid hNew
   clear hNew
   try refine apS ?_
   refine wpAnyH_takeL 22 rfl kR kR kR (fun _ _ _ h => h) hHeld.out (yieldsIf_catR e7.out rfl (.tmp 21) (.tmp 24) _ rfl rfl rfl) ?_
   try refine apS ?_
   refine wpAnyH_takeL 23 (v := ?_) rfl kR kR kR (fun _ _ _ h => h) hHeld.out (yieldsIf_of rfl ?_) ?_
   rotate_left
   · (intro w hSw; go_simp <;> with_reducible rfl)
   try refine apS ?_
   refine wpAnyH_done kR ?_ _
   have HFI := Lib.hid (hHeld.out.2.2.2)
   clear hHeld
   go_wp2_with fail
   go_ret
   exact ⟨rfl, HFI.out⟩
 · go_simp
   refine (TM.out _).mono ?_
   rintro _ v14 ⟨rfl, hb⟩
   refine hK.out _ _ ⟨blk_below (hHeld.out.1) hb, below_more (hHeld.out.2) (Nat.le_refl _) hb⟩ (fun hNew => ?_)
   clear hK K hHeld hb
   have hHeld := Lib.hid hNew
   clear hNew
   try refine apS ?_
   refine wpAnyH_ready (rs := [0, 12]) kR (by simp) (AllReadyH.cons rfl (fun K hK => ?_) (AllReadyH.cons rfl (fun K hK => ?_) (AllReadyH.nil)))
   · go_simp
     refine hK.out _ _ ⟨blk_alloc (hHeld.out.1) _, (hHeld.out.2).alloc (hHeld.out.2).size _⟩ (fun hNew => ?_)
     have hNew := And.intro (heap_alloc_new v14 (.cells DG 9)) hNew
     refine wpAnyH_stronger (fun w' => (w'.heap[v14.heap.size]? = some (.cells DG 9 (0, 0))) ∧ (w'.heap[w.heap.size]? = some (.cells #[.int .i64 (j : Int), .int .i64 (k : Int), .int .u64 m, .int .u64 v] 61 (0, 0))) ∧ (Below w.heap.size w w')) (fun _ h => h.2) ?_
     clear hK K hHeld
     have hHeld := Lib.hid hNew
     clear hNew
     try refine apS ?_
     refine wpAnyH_takeL 3 (v := ?_) rfl kR kR kR (fun _ _ _ h => h) hHeld.out (yieldsIf_of rfl ?_) ?_
     rotate_left
     · (intro w hSw; go_simp <;> with_reducible rfl)
     try refine apS ?_
     refine wpAnyH_takeL 4 rfl kR kR kR (fun _ _ _ h => h) hHeld.out (yieldsIf_cell rfl 9 (.tmp 6) rfl _ rfl (.string ch) _ (fun _ h => (blk_cell h.1 j).trans hch.out) Try.underlying9 rfl) ?_
     try refine apS ?_
     refine wpAnyH_takeL 5 rfl kR kR kR (fun _ _ _ h => h) hHeld.out (yieldsIf_catR e1.out rfl (.const (.string ⟨#[97]⟩)) (.tmp 7) _ rfl rfl rfl) ?_
     try refine apS ?_
     refine wpAnyH_takeL 6 rfl kR kR kR (fun _ _ _ h => h) hHeld.out (yieldsIf_catR e2.out rfl (.tmp 8) (.const (.string ⟨#[32]⟩)) _ rfl rfl rfl) ?_
     try refine apS ?_
     refine wpAnyH_takeL 10 rfl kR kR kR (fun _ _ _ h => h) hHeld.out (yieldsIf_catR e3.out rfl (.tmp 9) (.tmp 12) _ rfl rfl rfl) ?_
     try refine apS ?_
     refine wpAnyH_takeL 11 rfl kR kR kR (fun _ _ _ h => h) hHeld.out (yieldsIf_catR e4.out rfl (.tmp 13) (.const (.string ⟨#[32]⟩)) _ rfl rfl rfl) ?_
     try refine apS ?_
     refine wpAnyH_one 12 _ kR rfl (fun _ h => h) (fun K hK => ?_)
     go_simp
     refine (WS.out _).mono ?_
     rintro _ v17 ⟨g15, rfl, hg16, hb⟩
     refine hK.out _ _ ⟨blk_below (hHeld.out.1) hb, blk_below (hHeld.out.2.1) hb, below_more (hHeld.out.2.2) (Nat.le_refl _) hb⟩ (fun hNew => ?_)
     replace hNew : (v17.heap[g15]? = some (.cells WK 9 (0, 0))) ∧ (v17.heap[v14.heap.size]? = some (.cells DG 9 (0, 0))) ∧ (v17.heap[w.heap.size]? = some (.cells #[.int .i64 (j : Int), .int .i64 (k : Int), .int .u64 m, .int .u64 v] 61 (0, 0))) ∧ (Below w.heap.size w v17) := ⟨hg16, hNew⟩
     refine wpAnyH_stronger (fun w' => (w'.heap[g15]? = some (.cells WK 9 (0, 0))) ∧ (w'.heap[v14.heap.size]? = some (.cells DG 9 (0, 0))) ∧ (w'.heap[w.heap.size]? = some (.cells #[.int .i64 (j : Int), .int .i64 (k : Int), .int .u64 m, .int .u64 v] 61 (0, 0))) ∧ (Below w.heap.size w w')) (fun _ h => h.2) ?_
     clear hK K hHeld hb
     have hHeld := Lib.hid hNew
     clear hNew
     try refine apS ?_
     refine wpAnyH_takeL 15 (v := ?_) rfl kR kR kR (fun _ _ _ h => h) hHeld.out (yieldsIf_of rfl ?_) ?_
     rotate_left
     · (intro w hSw; go_simp <;> with_reducible rfl)
     try refine apS ?_
     refine wpAnyH_takeL 16 rfl kR kR kR (fun _ _ _ h => h) hHeld.out (yieldsIf_cell rfl 9 (.tmp 18) rfl _ rfl (.string s) _ (fun _ h => (blk_cell h.1 k).trans hs.out) Try.underlying9 rfl) ?_
     try refine apS ?_
     refine wpAnyH_takeL 17 rfl kR kR kR (fun _ _ _ h => h) hHeld.out (yieldsIf_catR e5.out rfl (.tmp 14) (.tmp 19) _ rfl rfl rfl) ?_
     try refine apS ?_
     refine wpAnyH_takeL 18 rfl kR kR kR (fun _ _ _ h => h) hHeld.out (yieldsIf_catR e6.out rfl (.tmp 20) (.const (.string ⟨#[32]⟩)) _ rfl rfl rfl) ?_
     try refine apS ?_
     refine wpAnyH_one 21 _ kR rfl (fun _ h => h) (fun K hK => ?_)
     go_simp
     refine (TV.out _).mono ?_
     rintro _ v18 ⟨rfl, hb⟩
     refine hK.out _ _ ⟨blk_below (hHeld.out.1) hb, blk_below (hHeld.out.2.1) hb, blk_below (hHeld.out.2.2.1) hb, below_more (hHeld.out.2.2.2) (Nat.le_refl _) hb⟩ (fun hNew => ?_)
     clear hK K hHeld hb
     have hHeld := Lib.hid hNew
     clear hNew
     try refine apS ?_
     refine wpAnyH_takeL 22 rfl kR kR kR (fun _ _ _ h => h) hHeld.out (yieldsIf_catR e7.out rfl (.tmp 21) (.tmp 24) _ rfl rfl rfl) ?_
     try refine apS ?_
     refine wpAnyH_takeL 23 (v := ?_) rfl kR kR kR (fun _ _ _ h => h) hHeld.out (yieldsIf_of rfl ?_) ?_
     rotate_left
     · (intro w hSw; go_simp <;> with_reducible rfl)
     try refine apS ?_
     refine wpAnyH_done kR ?_ _
     have HFI := Lib.hid (hHeld.out.2.2.2)
     clear hHeld
     go_wp2_with fail
     go_ret
     exact ⟨rfl, HFI.out⟩
   · go_simp
     refine (WS.out _).mono ?_
     rintro _ v21 ⟨g19, rfl, hg20, hb⟩
     refine hK.out _ _ ⟨blk_below (hHeld.out.1) hb, below_more (hHeld.out.2) (Nat.le_refl _) hb⟩ (fun hNew => ?_)
     replace hNew : (v21.heap[g19]? = some (.cells WK 9 (0, 0))) ∧ (v21.heap[w.heap.size]? = some (.cells #[.int .i64 (j : Int), .int .i64 (k : Int), .int .u64 m, .int .u64 v] 61 (0, 0))) ∧ (Below w.heap.size w v21) := ⟨hg20, hNew⟩
     refine wpAnyH_stronger (fun w' => (w'.heap[g19]? = some (.cells WK 9 (0, 0))) ∧ (w'.heap[w.heap.size]? = some (.cells #[.int .i64 (j : Int), .int .i64 (k : Int), .int .u64 m, .int .u64 v] 61 (0, 0))) ∧ (Below w.heap.size w w')) (fun _ h => h.2) ?_
     clear hK K hHeld hb
     have hHeld := Lib.hid hNew
     clear hNew
     try refine apS ?_
     refine wpAnyH_takeL 15 (v := ?_) rfl kR kR kR (fun _ _ _ h => h) hHeld.out (yieldsIf_of rfl ?_) ?_
     rotate_left
     · (intro w hSw; go_simp <;> with_reducible rfl)
     try refine apS ?_
     refine wpAnyH_takeL 16 rfl kR kR kR (fun _ _ _ h => h) hHeld.out (yieldsIf_cell rfl 9 (.tmp 18) rfl _ rfl (.string s) _ (fun _ h => (blk_cell h.1 k).trans hs.out) Try.underlying9 rfl) ?_
     try refine apS ?_
     refine wpAnyH_ready (rs := [0, 21]) kR (by simp) (AllReadyH.cons rfl (fun K hK => ?_) (AllReadyH.cons rfl (fun K hK => ?_) (AllReadyH.nil)))
     · go_simp
       refine hK.out _ _ ⟨blk_alloc (hHeld.out.1) _, blk_alloc (hHeld.out.2.1) _, (hHeld.out.2.2).alloc (hHeld.out.2.2).size _⟩ (fun hNew => ?_)
       have hNew := And.intro (heap_alloc_new v21 (.cells DG 9)) hNew
       refine wpAnyH_stronger (fun w' => (w'.heap[v21.heap.size]? = some (.cells DG 9 (0, 0))) ∧ (w'.heap[g19]? = some (.cells WK 9 (0, 0))) ∧ (w'.heap[w.heap.size]? = some (.cells #[.int .i64 (j : Int), .int .i64 (k : Int), .int .u64 m, .int .u64 v] 61 (0, 0))) ∧ (Below w.heap.size w w')) (fun _ h => h.2) ?_
       clear hK K hHeld
       have hHeld := Lib.hid hNew
       clear hNew
       try refine apS ?_
       refine wpAnyH_takeL 3 (v := ?_) rfl kR kR kR (fun _ _ _ h => h) hHeld.out (yieldsIf_of rfl ?_) ?_
       rotate_left
       · (intro w hSw; go_simp <;> with_reducible rfl)
       try refine apS ?_
       refine wpAnyH_takeL 4 rfl kR kR kR (fun _ _ _ h => h) hHeld.out (yieldsIf_cell rfl 9 (.tmp 6) rfl _ rfl (.string ch) _ (fun _ h => (blk_cell h.1 j).trans hch.out) Try.underlying9 rfl) ?_
       try refine apS ?_
       refine wpAnyH_takeL 5 rfl kR kR kR (fun _ _ _ h => h) hHeld.out (yieldsIf_catR e1.out rfl (.const (.string ⟨#[97]⟩)) (.tmp 7) _ rfl rfl rfl) ?_
       try refine apS ?_
       refine wpAnyH_takeL 6 rfl kR kR kR (fun _ _ _ h => h) hHeld.out (yieldsIf_catR e2.out rfl (.tmp 8) (.const (.string ⟨#[32]⟩)) _ rfl rfl rfl) ?_
       try refine apS ?_
       refine wpAnyH_takeL 10 rfl kR kR kR (fun _ _ _ h => h) hHeld.out (yieldsIf_catR e3.out rfl (.tmp 9) (.tmp 12) _ rfl rfl rfl) ?_
       try refine apS ?_
       refine wpAnyH_takeL 11 rfl kR kR kR (fun _ _ _ h => h) hHeld.out (yieldsIf_catR e4.out rfl (.tmp 13) (.const (.string ⟨#[32]⟩)) _ rfl rfl rfl) ?_
       try refine apS ?_
       refine wpAnyH_takeL 17 rfl kR kR kR (fun _ _ _ h => h) hHeld.out (yieldsIf_catR e5.out rfl (.tmp 14) (.tmp 19) _ rfl rfl rfl) ?_
       try refine apS ?_
       refine wpAnyH_takeL 18 rfl kR kR kR (fun _ _ _ h => h) hHeld.out (yieldsIf_catR e6.out rfl (.tmp 20) (.const (.string ⟨#[32]⟩)) _ rfl rfl rfl) ?_
       try refine apS ?_
       refine wpAnyH_one 21 _ kR rfl (fun _ h => h) (fun K hK => ?_)
       go_simp
       refine (TV.out _).mono ?_
       rintro _ v22 ⟨rfl, hb⟩
       refine hK.out _ _ ⟨blk_below (hHeld.out.1) hb, blk_below (hHeld.out.2.1) hb, blk_below (hHeld.out.2.2.1) hb, below_more (hHeld.out.2.2.2) (Nat.le_refl _) hb⟩ (fun hNew => ?_)
       clear hK K hHeld hb
       have hHeld := Lib.hid hNew
       clear hNew
       try refine apS ?_
       refine wpAnyH_takeL 22 rfl kR kR kR (fun _ _ _ h => h) hHeld.out (yieldsIf_catR e7.out rfl (.tmp 21) (.tmp 24) _ rfl rfl rfl) ?_
       try refine apS ?_
       refine wpAnyH_takeL 23 (v := ?_) rfl kR kR kR (fun _ _ _ h => h) hHeld.out (yieldsIf_of rfl ?_) ?_
       rotate_left
       · (intro w hSw; go_simp <;> with_reducible rfl)
       try refine apS ?_
       refine wpAnyH_done kR ?_ _
       have HFI := Lib.hid (hHeld.out.2.2.2)
       clear hHeld
       go_wp2_with fail
       go_ret
       exact ⟨rfl, HFI.out⟩
     · go_simp
       refine (TV.out _).mono ?_
       rintro _ v23 ⟨rfl, hb⟩
       refine hK.out _ _ ⟨blk_below (hHeld.out.1) hb, blk_below (hHeld.out.2.1) hb, below_more (hHeld.out.2.2) (Nat.le_refl _) hb⟩ (fun hNew => ?_)
       clear hK K hHeld hb
       have hHeld := Lib.hid hNew
       clear hNew
       try refine apS ?_
       refine wpAnyH_one 0 _ kR rfl (fun _ h => h) (fun K hK => ?_)
       go_simp
       refine hK.out _ _ ⟨blk_alloc (hHeld.out.1) _, blk_alloc (hHeld.out.2.1) _, (hHeld.out.2.2).alloc (hHeld.out.2.2).size _⟩ (fun hNew => ?_)
       have hNew := And.intro (heap_alloc_new v23 (.cells DG 9)) hNew
       refine wpAnyH_stronger (fun w' => (w'.heap[v23.heap.size]? = some (.cells DG 9 (0, 0))) ∧ (w'.heap[g19]? = some (.cells WK 9 (0, 0))) ∧ (w'.heap[w.heap.size]? = some (.cells #[.int .i64 (j : Int), .int .i64 (k : Int), .int .u64 m, .int .u64 v] 61 (0, 0))) ∧ (Below w.heap.size w w')) (fun _ h => h.2) ?_
       clear hK K hHeld
       have hHeld := Lib.hid hNew
       clear hNew
       try refine apS ?_
       refine wpAnyH_takeL 3 (v := ?_) rfl kR kR kR (fun _ _ _ h => h) hHeld.out (yieldsIf_of rfl ?_) ?_
       rotate_left
       · (intro w hSw; go_simp <;> with_reducible rfl)
       try refine apS ?_
       refine wpAnyH_takeL 4 rfl kR kR kR (fun _ _ _ h => h) hHeld.out (yieldsIf_cell rfl 9 (.tmp 6) rfl _ rfl (.string ch) _ (fun _ h => (blk_cell h.1 j).trans hch.out) Try.underlying9 rfl) ?_
       try refine apS ?_
       refine wpAnyH_takeL 5 rfl kR kR kR (fun _ _ _ h => h) hHeld.out (yieldsIf_catR e1.out rfl (.const (.string ⟨#[97]⟩)) (.tmp 7) _ rfl rfl rfl) ?_
       try refine apS ?_
       refine wpAnyH_takeL 6 rfl kR kR kR (fun _ _ _ h => h) hHeld.out (yieldsIf_catR e2.out rfl (.tmp 8) (.const (.string ⟨#[32]⟩)) _ rfl rfl rfl) ?_
       try refine apS ?_
       refine wpAnyH_takeL 10 rfl kR kR kR (fun _ _ _ h => h) hHeld.out (yieldsIf_catR e3.out rfl (.tmp 9) (.tmp 12) _ rfl rfl rfl) ?_
       try refine apS ?_
       refine wpAnyH_takeL 11 rfl kR kR kR (fun _ _ _ h => h) hHeld.out (yieldsIf_catR e4.out rfl (.tmp 13) (.const (.string ⟨#[32]⟩)) _ rfl rfl rfl) ?_
       try refine apS ?_
       refine wpAnyH_takeL 17 rfl kR kR kR (fun _ _ _ h => h) hHeld.out (yieldsIf_catR e5.out rfl (.tmp 14) (.tmp 19) _ rfl rfl rfl) ?_
       try refine apS ?_
       refine wpAnyH_takeL 18 rfl kR kR kR (fun _ _ _ h => h) hHeld.out (yieldsIf_catR e6.out rfl (.tmp 20) (.const (.string ⟨#[32]⟩)) _ rfl rfl rfl) ?_
       try refine apS ?_
       refine wpAnyH_takeL 22 rfl kR kR kR (fun _ _ _ h => h) hHeld.out (yieldsIf_catR e7.out rfl (.tmp 21) (.tmp 24) _ rfl rfl rfl) ?_
       try refine apS ?_
       refine wpAnyH_takeL 23 (v := ?_) rfl kR kR kR (fun _ _ _ h => h) hHeld.out (yieldsIf_of rfl ?_) ?_
       rotate_left
       · (intro w hSw; go_simp <;> with_reducible rfl)
       try refine apS ?_
       refine wpAnyH_done kR ?_ _
       have HFI := Lib.hid (hHeld.out.2.2.2)
       clear hHeld
       go_wp2_with fail
       go_ret
       exact ⟨rfl, HFI.out⟩
end Go.Proofs.Ytekpbgmmogpbdaa.H
set_option maxRecDepth 100000
namespace Go.Proofs.Ytekpbgmmogpbdaa.H
open Go.RowKit Go.Proofs.YtekpbgmmogpbdaaW.PrintWords
theorem RefText_walk (n : Int) (h : u64P n) : Gives Try.prog 54 #[.int .u64 n] (.string (textB n)) := by
 intro w
 obtain ⟨k, rfl⟩ := Int.eq_ofNat_of_zero_le h.1
 exact M.hurdleref01_Text.calls 16 (k : Int) _ w (ref_text k 16 (by unfold u64P at h; omega) (by omega))
theorem RefPrint_walk (arg cmp m v : Int) (hr : rightB arg cmp = true) (hm : u64P m) (hv : u64P v) : Gives Try.prog 58 #[CV arg cmp m v] (.string (condText arg.toNat cmp.toNat m v)) := by
 intro w
 obtain ⟨j, k, rfl, rfl, hj, hk⟩ := right_nats hr
 try simp only [Int.toNat_natCast]
 have s1 := textB_size m hm
 have s2 := textB_size v hv
 have s3 : (digB j).size = 1 := rfl
 have s4 := wordK_size k
 have z1 : (⟨#[97]⟩ : ByteArray).size = 1 := rfl
 have z2 : (⟨#[32]⟩ : ByteArray).size = 1 := rfl
 have q1 : ((⟨#[97]⟩ : ByteArray)).size + (digB j).size < 1000 := by (try simp only [ByteArray.size_append]); omega
 have q2 : (((⟨#[97]⟩ : ByteArray) ++ digB j)).size + ((⟨#[32]⟩ : ByteArray)).size < 1000 := by (try simp only [ByteArray.size_append]); omega
 have q3 : ((((⟨#[97]⟩ : ByteArray) ++ digB j) ++ (⟨#[32]⟩ : ByteArray))).size + (textB m).size < 1000 := by (try simp only [ByteArray.size_append]); omega
 have q4 : (((((⟨#[97]⟩ : ByteArray) ++ digB j) ++ (⟨#[32]⟩ : ByteArray)) ++ textB m)).size + ((⟨#[32]⟩ : ByteArray)).size < 1000 := by (try simp only [ByteArray.size_append]); omega
 have q5 : ((((((⟨#[97]⟩ : ByteArray) ++ digB j) ++ (⟨#[32]⟩ : ByteArray)) ++ textB m) ++ (⟨#[32]⟩ : ByteArray))).size + (wordK k).size < 1000 := by (try simp only [ByteArray.size_append]); omega
 have q6 : (((((((⟨#[97]⟩ : ByteArray) ++ digB j) ++ (⟨#[32]⟩ : ByteArray)) ++ textB m) ++ (⟨#[32]⟩ : ByteArray)) ++ wordK k)).size + ((⟨#[32]⟩ : ByteArray)).size < 1000 := by (try simp only [ByteArray.size_append]); omega
 have q7 : ((((((((⟨#[97]⟩ : ByteArray) ++ digB j) ++ (⟨#[32]⟩ : ByteArray)) ++ textB m) ++ (⟨#[32]⟩ : ByteArray)) ++ wordK k) ++ (⟨#[32]⟩ : ByteArray))).size + (textB v).size < 1000 := by (try simp only [ByteArray.size_append]); omega
 exact RefPrint_yes j k (by omega) (by omega) m v (digB j) (textB m) (textB v) (wordK k) (RefText_walk m hm) (RefText_walk v hv) (dg_at j hj) (wk_at k hk) _ _ _ _ _ _ _
  (cat_of _ _ q1) (cat_of _ _ q2) (cat_of _ _ q3) (cat_of _ _ q4) (cat_of _ _ q5) (cat_of _ _ q6) (cat_of _ _ q7) w
def hurdleref01_Text.f (a0 : Int) : Option ByteArray := if u64P a0 then some (textB a0) else none
theorem hurdleref01_Text.calls (a0 : Int) (r : ByteArray) (w : World) (h : hurdleref01_Text.f a0 = some r) :
 Calls Try.prog 54 #[.int .u64 a0] w fun e w' => e = .returned (.string r) ∧ Below w.heap.size w w' := by
 unfold hurdleref01_Text.f at h
 split at h
 · rename_i hh
   have := RefText_walk a0 hh w
   rw [Option.some.inj h] at this
   exact this
 · simp at h
def hurdleref01_Parse.f (a0 : ByteArray) : Option (Int × Bool) := some (match parseL a0.data.toList with | some n => ((n : Int), true) | none => (0, false))
theorem hurdleref01_Parse.calls (a0 : ByteArray) (r1 : Int) (r2 : Bool) (w : World) (h : hurdleref01_Parse.f a0 = some (r1, r2)) :
 Calls Try.prog 80 #[.string a0] w fun e w' => e = .returned (.tuple #[.int .u64 r1, .bool r2]) ∧ Below w.heap.size w w' :=
 M.hurdleref01_Parse.calls 60 a0 r1 r2 w ((ref_parse a0 60 (by omega)).trans h)
def hurdleref08_Print.f (a0_0 : Int) (a0_1 : Int) (a0_2 : Int) (a0_3 : Int) : Option ByteArray := if rightB a0_0 a0_1 = true ∧ u64P a0_2 ∧ u64P a0_3 then some (condText a0_0.toNat a0_1.toNat a0_2 a0_3) else none
theorem hurdleref08_Print.calls (a0_0 : Int) (a0_1 : Int) (a0_2 : Int) (a0_3 : Int) (r : ByteArray) (w : World) (h : hurdleref08_Print.f a0_0 a0_1 a0_2 a0_3 = some r) :
 Calls Try.prog 58 #[.agg #[.int .i64 a0_0, .int .i64 a0_1, .int .u64 a0_2, .int .u64 a0_3]] w fun e w' => e = .returned (.string r) ∧ Below w.heap.size w w' := by
 unfold hurdleref08_Print.f at h
 split at h
 · rename_i hh
   have := RefPrint_walk a0_0 a0_1 a0_2 a0_3 hh.1 hh.2.1 hh.2.2 w
   rw [Option.some.inj h] at this
   exact this
 · simp at h
end Go.Proofs.Ytekpbgmmogpbdaa.H
namespace Go.Proofs.Ytekpbgmmogpbdaa.P
open Go.RowKit Go.Proofs.Ytekpbgmmogpbdaa.H Go.Proofs.YtekpbgmmogpbdaaW.PrintWords Go.Proofs.YtekpbgmmogpbdaaW.PrintLast Go.Proofs.YtekpbgmmogpbdaaW.PrintMore
attribute [local go_sem] max2_int min2_int max_two min_two max_three min_three max_four min_four
def errW : Option Int → Value
 | none => .nilIface
 | some c => .iface 0 (.int .i64 c)
theorem errW_none : errW none = .nilIface := rfl
theorem errW_some (c : Int) : errW (some c) = .iface 0 (.int .i64 c) := rfl
theorem info9 : (Try.prog.info? 9).map (fun i => (i.zero, i.size, i.bytes)) = some (some (.string ⟨#[]⟩), 1, 16) := by kernel_rfl
theorem info23 : (Try.prog.info? 23).map (fun i => (i.zero, i.size, i.bytes)) = some (some (.int .u32 0), 1, 4) := by kernel_rfl
theorem info40 : (Try.prog.info? 40).map (fun i => (i.zero, i.size, i.bytes)) = some (some (.agg #[(.int .u32 0), (.int .u32 0), (.slice none 0 0), (.int .u32 0)]), 4, 40) := by kernel_rfl
theorem info61 : (Try.prog.info? 61).map (fun i => (i.zero, i.size, i.bytes)) = some (some (.agg #[(.int .i64 0), (.int .i64 0), (.int .u64 0), (.int .u64 0)]), 4, 32) := by kernel_rfl
structure S61 where
 f0 : Int
 f1 : Int
 f2 : Int
 f3 : Int
def z61 : S61 := ⟨(0 : Int), (0 : Int), (0 : Int), (0 : Int)⟩
def k61 : Kd S61 := Kd.iso (Kd.pair (Kd.int .i64) (Kd.pair (Kd.int .i64) (Kd.pair (Kd.int .u64) (Kd.int .u64)))) (fun x : S61 => (x.f0, x.f1, x.f2, x.f3))
theorem k61_open {w : World} {x : S61} {cs : List Value} (h : k61.K w x cs) : cs = [.int .i64 x.f0, .int .i64 x.f1, .int .u64 x.f2, .int .u64 x.f3] := by
 obtain ⟨_, _, rfl, rfl, ⟨_, _, rfl, rfl, ⟨_, _, rfl, rfl, rfl⟩⟩⟩ := h
 exact rfl
theorem k61_mkM (w : World) (base : Nat) (ok : Nat → Prop) (x : S61)  : k61.M w base ok x [.int .i64 x.f0, .int .i64 x.f1, .int .u64 x.f2, .int .u64 x.f3] := ⟨[.int .i64 x.f0], [.int .i64 x.f1, .int .u64 x.f2, .int .u64 x.f3], rfl, rfl, ⟨[.int .i64 x.f1], [.int .u64 x.f2, .int .u64 x.f3], rfl, rfl, ⟨[.int .u64 x.f2], [.int .u64 x.f3], rfl, rfl, rfl⟩⟩⟩
def rd_T61 (xs : List S61) (i : Int) : S61 := xs.getD i.toNat z61
theorem at_T61 {w : World} {A : Option Addr} {n : Nat} {xs : List S61} (h : Kd.C k61 w A n xs) (i : Int) (h0 : 0 ≤ i) (h1 : i < n) : ∃ ad , A = some ad ∧ w.cell? (ad.add (i.toNat * 4)) = some (.int .i64 (rd_T61 xs i).f0) ∧ w.cell? ⟨(ad.add (i.toNat * 4)).block, (ad.add (i.toNat * 4)).off + 1, none⟩ = some (.int .i64 (rd_T61 xs i).f1) ∧ w.cell? ⟨(ad.add (i.toNat * 4)).block, (ad.add (i.toNat * 4)).off + 2, none⟩ = some (.int .u64 (rd_T61 xs i).f2) ∧ w.cell? ⟨(ad.add (i.toNat * 4)).block, (ad.add (i.toNat * 4)).off + 3, none⟩ = some (.int .u64 (rd_T61 xs i).f3) := by
 obtain ⟨ad, c, e, _, hK, hc0⟩ := Kd.C_get h z61 i h0 h1
 have hc : ∀ j u, c[j]? = some u → w.cell? (ad.add (i.toNat * 4 + j)) = some u := hc0
 obtain rfl := k61_open hK
 exact ⟨ad, e, hc 0 _ rfl, by rw [← add_field _ _ 1 (by omega)]; exact hc 1 _ rfl, by rw [← add_field _ _ 2 (by omega)]; exact hc 2 _ rfl, by rw [← add_field _ _ 3 (by omega)]; exact hc 3 _ rfl⟩
structure S40 where
 f0 : Int
 f1 : Int
 f2 : (List S61)
 f3 : Int
def z40 : S40 := ⟨(0 : Int), (0 : Int), ([] : List S61), (0 : Int)⟩
def k40 : Kd S40 := Kd.iso (Kd.pair (Kd.int .u32) (Kd.pair (Kd.int .u32) (Kd.pair (Kd.slice 61 k61) (Kd.int .u32)))) (fun x : S40 => (x.f0, x.f1, x.f2, x.f3))
theorem k40_open {w : World} {x : S40} {cs : List Value} (h : k40.K w x cs) : ∃ A2 c2, cs = [.int .u32 x.f0, .int .u32 x.f1, .slice A2 x.f2.length c2, .int .u32 x.f3] ∧ x.f2.length ≤ c2 ∧ k61.C w A2 x.f2.length x.f2 := by
 obtain ⟨_, _, rfl, rfl, ⟨_, _, rfl, rfl, ⟨_, _, rfl, ⟨A2, c2, rfl, l2, g2⟩, rfl⟩⟩⟩ := h
 exact ⟨A2, c2, rfl, l2, g2⟩
theorem k40_openM {w : World} {base : Nat} {ok : Nat → Prop} {x : S40} {cs : List Value} (h : k40.M w base ok x cs) : ∃ v2, cs = [.int .u32 x.f0, .int .u32 x.f1, v2, .int .u32 x.f3] ∧ k61.R 61 w base ok v2 x.f2 := by
 obtain ⟨_, _, rfl, rfl, ⟨_, _, rfl, rfl, ⟨_, _, rfl, ⟨v2, rfl, g2⟩, rfl⟩⟩⟩ := h
 exact ⟨v2, rfl, g2⟩
theorem k40_mkM (w : World) (base : Nat) (ok : Nat → Prop) (x : S40) {v2 : Value} (g2 : k61.R 61 w base ok v2 x.f2) : k40.M w base ok x [.int .u32 x.f0, .int .u32 x.f1, v2, .int .u32 x.f3] := ⟨[.int .u32 x.f0], [.int .u32 x.f1, v2, .int .u32 x.f3], rfl, rfl, ⟨[.int .u32 x.f1], [v2, .int .u32 x.f3], rfl, rfl, ⟨[v2], [.int .u32 x.f3], rfl, ⟨v2, rfl, g2⟩, rfl⟩⟩⟩
def rd_T40 (xs : List S40) (i : Int) : S40 := xs.getD i.toNat z40
theorem at_T40 {w : World} {A : Option Addr} {n : Nat} {xs : List S40} (h : Kd.C k40 w A n xs) (i : Int) (h0 : 0 ≤ i) (h1 : i < n) : ∃ ad A2 c2, A = some ad ∧ w.cell? (ad.add (i.toNat * 4)) = some (.int .u32 (rd_T40 xs i).f0) ∧ w.cell? ⟨(ad.add (i.toNat * 4)).block, (ad.add (i.toNat * 4)).off + 1, none⟩ = some (.int .u32 (rd_T40 xs i).f1) ∧ w.cell? ⟨(ad.add (i.toNat * 4)).block, (ad.add (i.toNat * 4)).off + 2, none⟩ = some (.slice A2 (rd_T40 xs i).f2.length c2) ∧ w.cell? ⟨(ad.add (i.toNat * 4)).block, (ad.add (i.toNat * 4)).off + 3, none⟩ = some (.int .u32 (rd_T40 xs i).f3) ∧ (rd_T40 xs i).f2.length ≤ c2 ∧ k61.C w A2 (rd_T40 xs i).f2.length (rd_T40 xs i).f2 := by
 obtain ⟨ad, c, e, _, hK, hc0⟩ := Kd.C_get h z40 i h0 h1
 have hc : ∀ j u, c[j]? = some u → w.cell? (ad.add (i.toNat * 4 + j)) = some u := hc0
 obtain ⟨A2, c2, rfl, l2, g2⟩ := k40_open hK
 exact ⟨ad, A2, c2, e, hc 0 _ rfl, by rw [← add_field _ _ 1 (by omega)]; exact hc 1 _ rfl, by rw [← add_field _ _ 2 (by omega)]; exact hc 2 _ rfl, by rw [← add_field _ _ 3 (by omega)]; exact hc 3 _ rfl, l2, g2⟩
def rd_L8 (xs : List (List Int)) (i : Int) : (List Int) := xs.getD i.toNat ([] : List Int)
theorem at_L8 {w : World} {A : Option Addr} {n : Nat} {xs : List (List Int)} (h : Kd.C (Kd.slice 23 (Kd.int .u32)) w A n xs) (i : Int) (h0 : 0 ≤ i) (h1 : i < n) : ∃ ad A0 c0, A = some ad ∧ w.cell? (ad.add i.toNat) = some (.slice A0 (rd_L8 xs i).length c0) ∧ (rd_L8 xs i).length ≤ c0 ∧ (Kd.int .u32).C w A0 (rd_L8 xs i).length (rd_L8 xs i) := by
 obtain ⟨ad, c, e, _, hK, hc0⟩ := Kd.C_get h ([] : List Int) i h0 h1
 have hc : ∀ j u, c[j]? = some u → w.cell? (ad.add (i.toNat * 1 + j)) = some u := hc0
 obtain ⟨A0, c0, rfl, l0, g0⟩ := hK
 exact ⟨ad, A0, c0, e, by have hq := hc 0 _ rfl; rwa [Nat.mul_one, Nat.add_zero] at hq, l0, g0⟩
end Go.Proofs.Ytekpbgmmogpbdaa.P
namespace Go.Proofs.Ytekpbgmmogpbdaa.P
open Go.RowKit Go.Proofs.Ytekpbgmmogpbdaa.H Go.Proofs.YtekpbgmmogpbdaaW.PrintWords Go.Proofs.YtekpbgmmogpbdaaW.PrintLast Go.Proofs.YtekpbgmmogpbdaaW.PrintMore
attribute [local go_sem] max2_int min2_int max_two min_two max_three min_three max_four min_four
def cond_Right.f (a0_0 : Int) (a0_1 : Int) (a0_2 : Int) (a0_3 : Int) : Option (Bool) := if a0_0 ≥ 0 then (if a0_0 < 6 then (if a0_1 ≥ 0 then (some (decide (a0_1 ≤ 5))) else (some false)) else (some false)) else (some false)
set_option maxHeartbeats 8000000 in
set_option maxRecDepth 100000 in
theorem cond_Right.calls (a0_0 : Int) (a0_1 : Int) (a0_2 : Int) (a0_3 : Int) (r : Bool) (w : World) (h : cond_Right.f a0_0 a0_1 a0_2 a0_3 = some r) :
 Calls Try.prog 55 #[.agg #[.int .i64 a0_0, .int .i64 a0_1, .int .u64 a0_2, .int .u64 a0_3]] w fun e w' => e = .returned (.bool r) ∧ Below w.heap.size w w' := by
 have hu61 := Try.underlying61
 have HB := aM (Below.refl w.heap.size w)
 have H : (if a0_0 ≥ 0 then (if a0_0 < 6 then (if a0_1 ≥ 0 then (some (decide (a0_1 ≤ 5))) else (some false)) else (some false)) else (some false)) = some r := h
 clear h
 by_cases c2 : a0_0 ≥ 0
 rotate_left
 · rw [if_neg c2] at H
   have c2b0 : decide (0 ≤ a0_0) = false := decide_eq_false c2
   clear c2
   obtain rfl := Option.some.inj H
   go_enter Try.func55, Try.ntmps55
   go_wp2_with (first | ((with_reducible refine gate_dst (N := 1) rfl ?_); refine box_event ?hg (N := 1) ?hd (cs := #[.int .i64 a0_0, .int .i64 a0_1, .int .u64 a0_2, .int .u64 a0_3]) (t := 61) ?hr ?_; (case hd => rfl); (case hg => rfl); (case hr => first | (go_simp; done) | (go_simp; rfl)); intro gb103 hg w11 hbox hb; have n0_ := aM (below_step bl0 hb); have n1_ := aM (hbox); have n2_ := aM ((by rw [hg]; exact (below_size bl0) : w.heap.size ≤ gb103)); have n3_ := aM ((by rw [hg]; exact (below_size bl0) : w.heap.size ≤ gb103)); clear HB; have HB := n0_; have BK103 := n1_; have GW103 := n2_; have GE103 := n3_; clear n0_ n1_ n2_ n3_; clear hb hbox hg; have hcz12_0 : w11.cell? ⟨gb103, 0, none⟩ = some (.int .i64 a0_0) := (blk_cell BK103.out 0).trans rfl; have hcz12_1 : w11.cell? ⟨gb103, 1, none⟩ = some (.int .i64 a0_1) := (blk_cell BK103.out 1).trans rfl; have hcz12_2 : w11.cell? ⟨gb103, 2, none⟩ = some (.int .u64 a0_2) := (blk_cell BK103.out 2).trans rfl; have hcz12_3 : w11.cell? ⟨gb103, 3, none⟩ = some (.int .u64 a0_3) := (blk_cell BK103.out 3).trans rfl; have hfz12_0 := blk_frozen BK103.out 0; have hfz12_1 := blk_frozen BK103.out 1; have hfz12_2 := blk_frozen BK103.out 2; have hfz12_3 := blk_frozen BK103.out 3))
   go_ret
   exact ⟨erA, bl1 GE103.out⟩
 rw [if_pos c2] at H
 have c2b0 : decide (0 ≤ a0_0) = true := decide_eq_true c2
 clear c2
 by_cases c3 : a0_0 < 6
 rotate_left
 · rw [if_neg c3] at H
   have c3b0 : decide (a0_0 < 6) = false := decide_eq_false c3
   clear c3
   obtain rfl := Option.some.inj H
   go_enter Try.func55, Try.ntmps55
   go_wp2_with (first | ((with_reducible refine gate_dst (N := 1) rfl ?_); refine box_event ?hg (N := 1) ?hd (cs := #[.int .i64 a0_0, .int .i64 a0_1, .int .u64 a0_2, .int .u64 a0_3]) (t := 61) ?hr ?_; (case hd => rfl); (case hg => rfl); (case hr => first | (go_simp; done) | (go_simp; rfl)); intro gb103 hg w9 hbox hb; have n0_ := aM (below_step bl0 hb); have n1_ := aM (hbox); have n2_ := aM ((by rw [hg]; exact (below_size bl0) : w.heap.size ≤ gb103)); have n3_ := aM ((by rw [hg]; exact (below_size bl0) : w.heap.size ≤ gb103)); clear HB; have HB := n0_; have BK103 := n1_; have GW103 := n2_; have GE103 := n3_; clear n0_ n1_ n2_ n3_; clear hb hbox hg; have hcz10_0 : w9.cell? ⟨gb103, 0, none⟩ = some (.int .i64 a0_0) := (blk_cell BK103.out 0).trans rfl; have hcz10_1 : w9.cell? ⟨gb103, 1, none⟩ = some (.int .i64 a0_1) := (blk_cell BK103.out 1).trans rfl; have hcz10_2 : w9.cell? ⟨gb103, 2, none⟩ = some (.int .u64 a0_2) := (blk_cell BK103.out 2).trans rfl; have hcz10_3 : w9.cell? ⟨gb103, 3, none⟩ = some (.int .u64 a0_3) := (blk_cell BK103.out 3).trans rfl; have hfz10_0 := blk_frozen BK103.out 0; have hfz10_1 := blk_frozen BK103.out 1; have hfz10_2 := blk_frozen BK103.out 2; have hfz10_3 := blk_frozen BK103.out 3))
   go_ret
   exact ⟨erA, bl1 GE103.out⟩
 rw [if_pos c3] at H
 have c3b0 : decide (a0_0 < 6) = true := decide_eq_true c3
 clear c3
 by_cases c4 : a0_1 ≥ 0
 · rw [if_pos c4] at H
   have c4b0 : decide (0 ≤ a0_1) = true := decide_eq_true c4
   clear c4
   obtain rfl := Option.some.inj H
   go_enter Try.func55, Try.ntmps55
   go_wp2_with (first | ((with_reducible refine gate_dst (N := 1) rfl ?_); refine box_event ?hg (N := 1) ?hd (cs := #[.int .i64 a0_0, .int .i64 a0_1, .int .u64 a0_2, .int .u64 a0_3]) (t := 61) ?hr ?_; (case hd => rfl); (case hg => rfl); (case hr => first | (go_simp; done) | (go_simp; rfl)); intro gb103 hg w5 hbox hb; have n0_ := aM (below_step bl0 hb); have n1_ := aM (hbox); have n2_ := aM ((by rw [hg]; exact (below_size bl0) : w.heap.size ≤ gb103)); have n3_ := aM ((by rw [hg]; exact (below_size bl0) : w.heap.size ≤ gb103)); clear HB; have HB := n0_; have BK103 := n1_; have GW103 := n2_; have GE103 := n3_; clear n0_ n1_ n2_ n3_; clear hb hbox hg; have hcz6_0 : w5.cell? ⟨gb103, 0, none⟩ = some (.int .i64 a0_0) := (blk_cell BK103.out 0).trans rfl; have hcz6_1 : w5.cell? ⟨gb103, 1, none⟩ = some (.int .i64 a0_1) := (blk_cell BK103.out 1).trans rfl; have hcz6_2 : w5.cell? ⟨gb103, 2, none⟩ = some (.int .u64 a0_2) := (blk_cell BK103.out 2).trans rfl; have hcz6_3 : w5.cell? ⟨gb103, 3, none⟩ = some (.int .u64 a0_3) := (blk_cell BK103.out 3).trans rfl; have hfz6_0 := blk_frozen BK103.out 0; have hfz6_1 := blk_frozen BK103.out 1; have hfz6_2 := blk_frozen BK103.out 2; have hfz6_3 := blk_frozen BK103.out 3))
   go_ret
   exact ⟨erA, bl1 GE103.out⟩
 rw [if_neg c4] at H
 have c4b0 : decide (0 ≤ a0_1) = false := decide_eq_false c4
 clear c4
 obtain rfl := Option.some.inj H
 go_enter Try.func55, Try.ntmps55
 go_wp2_with (first | ((with_reducible refine gate_dst (N := 1) rfl ?_); refine box_event ?hg (N := 1) ?hd (cs := #[.int .i64 a0_0, .int .i64 a0_1, .int .u64 a0_2, .int .u64 a0_3]) (t := 61) ?hr ?_; (case hd => rfl); (case hg => rfl); (case hr => first | (go_simp; done) | (go_simp; rfl)); intro gb103 hg w7 hbox hb; have n0_ := aM (below_step bl0 hb); have n1_ := aM (hbox); have n2_ := aM ((by rw [hg]; exact (below_size bl0) : w.heap.size ≤ gb103)); have n3_ := aM ((by rw [hg]; exact (below_size bl0) : w.heap.size ≤ gb103)); clear HB; have HB := n0_; have BK103 := n1_; have GW103 := n2_; have GE103 := n3_; clear n0_ n1_ n2_ n3_; clear hb hbox hg; have hcz8_0 : w7.cell? ⟨gb103, 0, none⟩ = some (.int .i64 a0_0) := (blk_cell BK103.out 0).trans rfl; have hcz8_1 : w7.cell? ⟨gb103, 1, none⟩ = some (.int .i64 a0_1) := (blk_cell BK103.out 1).trans rfl; have hcz8_2 : w7.cell? ⟨gb103, 2, none⟩ = some (.int .u64 a0_2) := (blk_cell BK103.out 2).trans rfl; have hcz8_3 : w7.cell? ⟨gb103, 3, none⟩ = some (.int .u64 a0_3) := (blk_cell BK103.out 3).trans rfl; have hfz8_0 := blk_frozen BK103.out 0; have hfz8_1 := blk_frozen BK103.out 1; have hfz8_2 := blk_frozen BK103.out 2; have hfz8_3 := blk_frozen BK103.out 3))
 go_ret
 exact ⟨erA, bl1 GE103.out⟩
def policy_may.l0 : Nat → List (S61) → Int → Int → Int → Int → List (S61) → Int → Option (Bool)
 | 0, _, _, _, _, _, _, _ => none
 | k + 1, x8, x9, x10, x105000, x105001, x105002, x105003 => if x10 < x9 then (if 0 ≤ x10 then (if x10 < (x8.length : Int) then ((cond_Right.f ((rd_T61 x8 x10).f0) ((rd_T61 x8 x10).f1) ((rd_T61 x8 x10).f2) ((rd_T61 x8 x10).f3)).bind fun t107 => (if t107 = true then (policy_may.l0 k x8 x9 (wrap64 (x10 + 1)) x105000 x105001 x105002 x105003) else (some false))) else (none)) else (none)) else ((names_Action.f x105003).bind fun bt108 => (if bt108.2 = 0 then (some (decide ((x105002.length : Int) ≤ 4))) else (some false)))
def policy_may.f (k : Nat) (a0_0 : Int) (a0_1 : Int) (l0_2 : List (S61)) (a0_3 : Int) : Option (Bool) := policy_may.l0 k l0_2 (l0_2.length : Int) 0 a0_0 a0_1 l0_2 a0_3
set_option maxHeartbeats 8000000 in
set_option maxRecDepth 100000 in
theorem policy_may.calls (k : Nat) (a0_0 : Int) (a0_1 : Int) (A0_2 : Option Addr) (c0_2 : Nat) (l0_2 : List (S61)) (a0_3 : Int) (r : Bool) (w : World) (hr0_2 : Kd.C k61 w A0_2 l0_2.length l0_2) (hc0_2 : l0_2.length ≤ c0_2) (h : policy_may.f k a0_0 a0_1 l0_2 a0_3 = some r) :
 Calls Try.prog 35 #[.agg #[.int .u32 a0_0, .int .u32 a0_1, .slice A0_2 l0_2.length c0_2, .int .u32 a0_3]] w fun e w' => e = .returned (.bool r) ∧ Below w.heap.size w w' := by
 have hu40 := Try.underlying40
 have hu61 := Try.underlying61
 have HR0_2 := aM hr0_2
 have HC0_2 := aM hc0_2
 clear hr0_2 hc0_2
 have HB := aM (Below.refl w.heap.size w)
 have H : (policy_may.l0 k l0_2 (l0_2.length : Int) 0 a0_0 a0_1 l0_2 a0_3) = some r := h
 clear h
 have H' := aM H
 clear H
 go_enter Try.func35, Try.ntmps35
 go_wp2_with (first | ((with_reducible refine gate_dst (N := 1) rfl ?_); (try (refine gate_guard (by rfl) ?_; dsimp only)); refine box_event ?hg (N := 1) ?hd (cs := #[.int .u32 a0_0, .int .u32 a0_1, .slice A0_2 l0_2.length c0_2, .int .u32 a0_3]) (t := 40) ?hr ?_; (case hd => rfl); (case hg => rfl); (case hr => first | (go_simp; done) | (go_simp; rfl)); intro gb104 hg w2 hbox hb; have n0_ := aM (below_step bl0 hb); have n1_ := aM (hbox); have n2_ := aM ((by rw [hg]; exact (below_size bl0) : w.heap.size ≤ gb104)); have n3_ := aM ((by rw [hg]; exact (below_size bl0) : w.heap.size ≤ gb104)); clear HB; have HB := n0_; have BK104 := n1_; have GW104 := n2_; have GE104 := n3_; clear n0_ n1_ n2_ n3_; clear hb hbox hg; have hcz3_0 : w2.cell? ⟨gb104, 0, none⟩ = some (.int .u32 a0_0) := (blk_cell BK104.out 0).trans rfl; have hcz3_1 : w2.cell? ⟨gb104, 1, none⟩ = some (.int .u32 a0_1) := (blk_cell BK104.out 1).trans rfl; have hcz3_2 : w2.cell? ⟨gb104, 2, none⟩ = some (.slice A0_2 l0_2.length c0_2) := (blk_cell BK104.out 2).trans rfl; have hcz3_3 : w2.cell? ⟨gb104, 3, none⟩ = some (.int .u32 a0_3) := (blk_cell BK104.out 3).trans rfl; have hfz3_0 := blk_frozen BK104.out 0; have hfz3_1 := blk_frozen BK104.out 1; have hfz3_2 := blk_frozen BK104.out 2; have hfz3_3 := blk_frozen BK104.out 3))
 go_loopg [10] k (fun kq v10 w' => ∃ (x10_1 : Int), v10 = .int .i64 x10_1 ∧ Aside0 (policy_may.l0 kq l0_2 (l0_2.length : Int) x10_1 a0_0 a0_1 l0_2 a0_3 = some r) ∧ Aside0 (kq ≤ k) ∧ Aside0 (w'.heap[gb104]? = some (.cells #[.int .u32 a0_0, .int .u32 a0_1, (.slice A0_2 l0_2.length c0_2), .int .u32 a0_3] 40 (0, 0))) ∧ Aside0 (Below w.heap.size w w'))
 case atStart => exact ⟨(0), (by first | rfl | (simp; done) | (simp [*]; done)), H', ⟨Nat.le_refl _⟩, ⟨by refine bkS ?_; exact BK104.out⟩, ⟨bl1 GE104.out⟩⟩
 case round =>
  clear H'
  try clear p2
  try clear c3
  try clear hcz3_0
  try clear hcz3_1
  try clear hcz3_2
  try clear hcz3_3
  try clear hfz3_0
  try clear hfz3_1
  try clear hfz3_2
  try clear hfz3_3
  obtain ⟨x10_1, rfl, HA, HK1, BK104, HB⟩ := hrel
  cases gk with
  | zero => exact absurd HA.out (by simp [policy_may.l0])
  | succ k1 =>
   have H := HA.out
   clear HA
   simp only [policy_may.l0] at H
   by_cases c4 : x10_1 < (l0_2.length : Int)
   rotate_left
   · rw [if_neg c4] at H
     have c4b0 : decide (x10_1 < (l0_2.length : Int)) = false := decide_eq_false c4
     clear c4
     replace H := Option.bind_eq_some_iff.mp H
     obtain ⟨⟨t108, t109⟩, A170, H⟩ := H
     replace H : (if t109 = 0 then (some (decide ((l0_2.length : Int) ≤ 4))) else (some false)) = some r := H
     have A17 := aM A170
     clear A170
     by_cases c18 : t109 = 0
     rotate_left
     · rw [if_neg c18] at H
       have c18b0 : (t109 == 0) = false := beq_eq_false_iff_ne.mpr c18
       have c18b1 : (t109 != 0) = true := bne_iff_ne.mpr c18
       obtain rfl := Option.some.inj H
       have hcz22_0 : wr.cell? ⟨gb104, 0, none⟩ = some (.int .u32 a0_0) := (blk_cell BK104.out 0).trans rfl
       have hcz22_1 : wr.cell? ⟨gb104, 1, none⟩ = some (.int .u32 a0_1) := (blk_cell BK104.out 1).trans rfl
       have hcz22_2 : wr.cell? ⟨gb104, 2, none⟩ = some (.slice A0_2 l0_2.length c0_2) := (blk_cell BK104.out 2).trans rfl
       have hcz22_3 : wr.cell? ⟨gb104, 3, none⟩ = some (.int .u32 a0_3) := (blk_cell BK104.out 3).trans rfl
       have hfz22_0 := blk_frozen BK104.out 0
       have hfz22_1 := blk_frozen BK104.out 1
       have hfz22_2 := blk_frozen BK104.out 2
       have hfz22_3 := blk_frozen BK104.out 3
       go_wp2_with (first | ((with_reducible refine gate_callee (f := 32) rfl ?_); refine goesL_ (some 21) rfl rfl Try.func32 kR rfl #[.int .u32 a0_3] rfl mpA ?_; (with_reducible refine (names_Action.calls a0_3 t108 t109 _ A17.out).mono ?_); rintro e w23 ⟨rfl, hb⟩; refine ⟨_, rfl, ?_⟩; have n0_ := aM (blk_below (g := gb104) (o := .cells #[.int .u32 a0_0, .int .u32 a0_1, .slice A0_2 l0_2.length c0_2, .int .u32 a0_3] 40 (0, 0)) (bkS BK104.out) hb); have n1_ := aM (below_step (bl1 GE104.out) hb); clear BK104; clear HB; have BK104 := n0_; have HB := n1_; clear n0_ n1_; (try clear hb); (try clear hb2); (try clear hk); (try clear hi)))
       go_ret
       exact ⟨erA, bl1 GE104.out⟩
     rw [if_pos c18] at H
     have c18b0 : (t109 == 0) = true := beq_iff_eq.mpr c18
     have c18b1 : (t109 != 0) = false := bne_eq_false_iff_eq.mpr c18
     clear c18
     obtain rfl := Option.some.inj H
     have hcz19_0 : wr.cell? ⟨gb104, 0, none⟩ = some (.int .u32 a0_0) := (blk_cell BK104.out 0).trans rfl
     have hcz19_1 : wr.cell? ⟨gb104, 1, none⟩ = some (.int .u32 a0_1) := (blk_cell BK104.out 1).trans rfl
     have hcz19_2 : wr.cell? ⟨gb104, 2, none⟩ = some (.slice A0_2 l0_2.length c0_2) := (blk_cell BK104.out 2).trans rfl
     have hcz19_3 : wr.cell? ⟨gb104, 3, none⟩ = some (.int .u32 a0_3) := (blk_cell BK104.out 3).trans rfl
     have hfz19_0 := blk_frozen BK104.out 0
     have hfz19_1 := blk_frozen BK104.out 1
     have hfz19_2 := blk_frozen BK104.out 2
     have hfz19_3 := blk_frozen BK104.out 3
     go_wp2_with (first | ((with_reducible refine gate_callee (f := 32) rfl ?_); refine goesL_ (some 21) rfl rfl Try.func32 kR rfl #[.int .u32 a0_3] rfl mpA ?_; (with_reducible refine (names_Action.calls a0_3 t108 t109 _ A17.out).mono ?_); rintro e w20 ⟨rfl, hb⟩; refine ⟨_, rfl, ?_⟩; have n0_ := aM (blk_below (g := gb104) (o := .cells #[.int .u32 a0_0, .int .u32 a0_1, .slice A0_2 l0_2.length c0_2, .int .u32 a0_3] 40 (0, 0)) (bkS BK104.out) hb); have n1_ := aM (below_step (bl1 GE104.out) hb); clear BK104; clear HB; have BK104 := n0_; have HB := n1_; clear n0_ n1_; (try clear hb); (try clear hb2); (try clear hk); (try clear hi); have hcz21_0 : w20.cell? ⟨gb104, 0, none⟩ = some (.int .u32 a0_0) := (blk_cell BK104.out 0).trans rfl; have hcz21_1 : w20.cell? ⟨gb104, 1, none⟩ = some (.int .u32 a0_1) := (blk_cell BK104.out 1).trans rfl; have hcz21_2 : w20.cell? ⟨gb104, 2, none⟩ = some (.slice A0_2 l0_2.length c0_2) := (blk_cell BK104.out 2).trans rfl; have hcz21_3 : w20.cell? ⟨gb104, 3, none⟩ = some (.int .u32 a0_3) := (blk_cell BK104.out 3).trans rfl; have hfz21_0 := blk_frozen BK104.out 0; have hfz21_1 := blk_frozen BK104.out 1; have hfz21_2 := blk_frozen BK104.out 2; have hfz21_3 := blk_frozen BK104.out 3))
     go_ret
     exact ⟨erA, bl1 GE104.out⟩
   rw [if_pos c4] at H
   have c4b0 : decide (x10_1 < (l0_2.length : Int)) = true := decide_eq_true c4
   clear c4
   by_cases c5 : 0 ≤ x10_1
   rotate_left
   · rw [if_neg c5] at H
     exact absurd H (by simp)
   rw [if_pos c5] at H
   have c5b0 : decide (0 ≤ x10_1) = true := decide_eq_true c5
   clear c5
   by_cases c6 : x10_1 < (l0_2.length : Int)
   rotate_left
   · rw [if_neg c6] at H
     exact absurd H (by simp)
   rw [if_pos c6] at H
   have c6b0 : decide (x10_1 < (l0_2.length : Int)) = true := decide_eq_true c6
   clear c6
   replace H := Option.bind_eq_some_iff.mp H
   obtain ⟨t107, A70, H⟩ := H
   replace H : (if t107 = true then (policy_may.l0 k1 l0_2 (l0_2.length : Int) (wrap64 (x10_1 + 1)) a0_0 a0_1 l0_2 a0_3) else (some false)) = some r := H
   have A7 := aM A70
   clear A70
   by_cases c8 : t107 = true
   rotate_left
   · replace c8 := Bool.eq_false_iff.mpr c8
     subst c8
     have H1 : (some false) = some r := by rw [if_neg (show ¬ (false = true) by decide)] at H; exact H
     clear H
     have H := H1
     clear H1
     obtain rfl := Option.some.inj H
     have p105 : 0 ≤ (x10_1 : Int) := of_decide_eq_true as_
     have q105 : x10_1 < (l0_2.length : Int) := of_decide_eq_true as_
     obtain ⟨ad105, e105, hx105_0, hx105_1, hx105_2, hx105_3⟩ := at_T61 HR0_2.out x10_1 p105 q105
     cases e105
     replace hx105_0 := (HB.out.cell (World.block_lt_of_cell? w _ hx105_0)).trans hx105_0
     replace hx105_1 := (HB.out.cell (World.block_lt_of_cell? w _ hx105_1)).trans hx105_1
     replace hx105_2 := (HB.out.cell (World.block_lt_of_cell? w _ hx105_2)).trans hx105_2
     replace hx105_3 := (HB.out.cell (World.block_lt_of_cell? w _ hx105_3)).trans hx105_3
     replace p105 := eq_true p105
     replace q105 := eq_true q105
     go_wp2_with (first | ((with_reducible refine gate_dst (N := 4) rfl ?_); (try (refine gate_guard (by rfl) ?_; dsimp only)); refine box_event ?hg (N := 4) ?hd (cs := #[.int .i64 0, .int .i64 0, .int .u64 0, .int .u64 0]) (t := 61) ?hr ?_; (case hd => rfl); (case hg => rfl); (case hr => first | (go_simp; done) | (go_simp; rfl)); intro gb106 hg w13 hbox hb; have n0_ := aM (blk_below (g := gb104) (o := .cells #[.int .u32 a0_0, .int .u32 a0_1, .slice (some ad105) l0_2.length c0_2, .int .u32 a0_3] 40 (0, 0)) (bkS BK104.out) hb); have n1_ := aM (below_step (bl1 GE104.out) hb); have n2_ := aM (hbox); have n3_ := aM ((by rw [hg]; exact (below_size (bl1 GE104.out)) : w.heap.size ≤ gb106)); have n4_ := aM ((by rw [hg]; exact (below_size (bl1 GE104.out)) : w.heap.size ≤ gb106)); have n5_ := aM ((by rw [hg]; exact Nat.ne_of_lt (blk_lt (g := gb104) (o := .cells #[.int .u32 a0_0, .int .u32 a0_1, .slice (some ad105) l0_2.length c0_2, .int .u32 a0_3] 40 (0, 0)) (bkS BK104.out)) : gb104 ≠ gb106)); have n6_ := aM ((by rw [hg]; exact Nat.ne_of_gt (blk_lt (g := gb104) (o := .cells #[.int .u32 a0_0, .int .u32 a0_1, .slice (some ad105) l0_2.length c0_2, .int .u32 a0_3] 40 (0, 0)) (bkS BK104.out)) : gb106 ≠ gb104)); clear BK104; clear HB; have BK104 := n0_; have HB := n1_; have BK106 := n2_; have GW106 := n3_; have GE106 := n4_; have NB104_106 := n5_; have NB106_104 := n6_; clear n0_ n1_ n2_ n3_ n4_ n5_ n6_; clear hb hbox hg; have hnb14 := NB106_104.out; have hnc14 := NB104_106.out; have hcz15_0 : w13.cell? ⟨gb106, 0, none⟩ = some (.int .i64 0) := (blk_cell BK106.out 0).trans rfl; have hcz15_1 : w13.cell? ⟨gb106, 1, none⟩ = some (.int .i64 0) := (blk_cell BK106.out 1).trans rfl; have hcz15_2 : w13.cell? ⟨gb106, 2, none⟩ = some (.int .u64 0) := (blk_cell BK106.out 2).trans rfl; have hcz15_3 : w13.cell? ⟨gb106, 3, none⟩ = some (.int .u64 0) := (blk_cell BK106.out 3).trans rfl; have hfz15_0 := blk_frozen BK106.out 0; have hfz15_1 := blk_frozen BK106.out 1; have hfz15_2 := blk_frozen BK106.out 2; have hfz15_3 := blk_frozen BK106.out 3) | ((with_reducible refine gate_callee (f := 55) rfl ?_); refine goesL_ (some 15) rfl rfl Try.func55 kR rfl #[.agg #[.int .i64 ((rd_T61 l0_2 x10_1).f0), .int .i64 ((rd_T61 l0_2 x10_1).f1), .int .u64 ((rd_T61 l0_2 x10_1).f2), .int .u64 ((rd_T61 l0_2 x10_1).f3)]] rfl mpA ?_; (with_reducible refine (cond_Right.calls ((rd_T61 l0_2 x10_1).f0) ((rd_T61 l0_2 x10_1).f1) ((rd_T61 l0_2 x10_1).f2) ((rd_T61 l0_2 x10_1).f3) false _ A7.out).mono ?_); rintro e w16 ⟨rfl, hb⟩; refine ⟨_, rfl, ?_⟩; have n0_ := aM (blk_below (g := gb104) (o := .cells #[.int .u32 a0_0, .int .u32 a0_1, .slice (some ad105) l0_2.length c0_2, .int .u32 a0_3] 40 (0, 0)) (by refine bkS ?_; refine blk_far ?_ NB104_106.out _; refine bkS ?_; refine blk_far ?_ NB104_106.out _; refine bkS ?_; refine blk_far ?_ NB104_106.out _; refine bkS ?_; refine blk_far ?_ NB104_106.out _; refine bkS ?_; exact BK104.out) hb); have n1_ := aM (blk_below (g := gb106) (o := .cells #[.int .i64 ((rd_T61 l0_2 x10_1).f0), .int .i64 ((rd_T61 l0_2 x10_1).f1), .int .u64 ((rd_T61 l0_2 x10_1).f2), .int .u64 ((rd_T61 l0_2 x10_1).f3)] 61 (0, 0)) (by refine bkS ?_; refine blk_put (cs := #[.int .i64 ((rd_T61 l0_2 x10_1).f0), .int .i64 ((rd_T61 l0_2 x10_1).f1), .int .u64 ((rd_T61 l0_2 x10_1).f2), .int .u64 0]) ?_ 3 _ rfl; refine bkS ?_; refine blk_put (cs := #[.int .i64 ((rd_T61 l0_2 x10_1).f0), .int .i64 ((rd_T61 l0_2 x10_1).f1), .int .u64 0, .int .u64 0]) ?_ 2 _ rfl; refine bkS ?_; refine blk_put (cs := #[.int .i64 ((rd_T61 l0_2 x10_1).f0), .int .i64 0, .int .u64 0, .int .u64 0]) ?_ 1 _ rfl; refine bkS ?_; refine blk_put (cs := #[.int .i64 0, .int .i64 0, .int .u64 0, .int .u64 0]) ?_ 0 _ rfl; refine bkS ?_; exact BK106.out) hb); have n2_ := aM (below_step (bl2 GE104.out GE106.out) hb); clear BK104; clear BK106; clear HB; have BK104 := n0_; have BK106 := n1_; have HB := n2_; clear n0_ n1_ n2_; (try clear hb); (try clear hb2); (try clear hk); (try clear hi)))
     go_ret
     exact ⟨erA, bl2 GE104.out GE106.out⟩
   subst c8
   have H1 : (policy_may.l0 k1 l0_2 (l0_2.length : Int) (wrap64 (x10_1 + 1)) a0_0 a0_1 l0_2 a0_3) = some r := by rw [if_pos rfl] at H; exact H
   clear H
   have H := H1
   clear H1
   have H' := aM H
   clear H
   have p105 : 0 ≤ (x10_1 : Int) := of_decide_eq_true as_
   have q105 : x10_1 < (l0_2.length : Int) := of_decide_eq_true as_
   obtain ⟨ad105, e105, hx105_0, hx105_1, hx105_2, hx105_3⟩ := at_T61 HR0_2.out x10_1 p105 q105
   cases e105
   replace hx105_0 := (HB.out.cell (World.block_lt_of_cell? w _ hx105_0)).trans hx105_0
   replace hx105_1 := (HB.out.cell (World.block_lt_of_cell? w _ hx105_1)).trans hx105_1
   replace hx105_2 := (HB.out.cell (World.block_lt_of_cell? w _ hx105_2)).trans hx105_2
   replace hx105_3 := (HB.out.cell (World.block_lt_of_cell? w _ hx105_3)).trans hx105_3
   replace p105 := eq_true p105
   replace q105 := eq_true q105
   go_wp2_with (first | ((with_reducible refine gate_dst (N := 4) rfl ?_); (try (refine gate_guard (by rfl) ?_; dsimp only)); refine box_event ?hg (N := 4) ?hd (cs := #[.int .i64 0, .int .i64 0, .int .u64 0, .int .u64 0]) (t := 61) ?hr ?_; (case hd => rfl); (case hg => rfl); (case hr => first | (go_simp; done) | (go_simp; rfl)); intro gb106 hg w9 hbox hb; have n0_ := aM (blk_below (g := gb104) (o := .cells #[.int .u32 a0_0, .int .u32 a0_1, .slice (some ad105) l0_2.length c0_2, .int .u32 a0_3] 40 (0, 0)) (bkS BK104.out) hb); have n1_ := aM (below_step (bl1 GE104.out) hb); have n2_ := aM (hbox); have n3_ := aM ((by rw [hg]; exact (below_size (bl1 GE104.out)) : w.heap.size ≤ gb106)); have n4_ := aM ((by rw [hg]; exact (below_size (bl1 GE104.out)) : w.heap.size ≤ gb106)); have n5_ := aM ((by rw [hg]; exact Nat.ne_of_lt (blk_lt (g := gb104) (o := .cells #[.int .u32 a0_0, .int .u32 a0_1, .slice (some ad105) l0_2.length c0_2, .int .u32 a0_3] 40 (0, 0)) (bkS BK104.out)) : gb104 ≠ gb106)); have n6_ := aM ((by rw [hg]; exact Nat.ne_of_gt (blk_lt (g := gb104) (o := .cells #[.int .u32 a0_0, .int .u32 a0_1, .slice (some ad105) l0_2.length c0_2, .int .u32 a0_3] 40 (0, 0)) (bkS BK104.out)) : gb106 ≠ gb104)); clear BK104; clear HB; have BK104 := n0_; have HB := n1_; have BK106 := n2_; have GW106 := n3_; have GE106 := n4_; have NB104_106 := n5_; have NB106_104 := n6_; clear n0_ n1_ n2_ n3_ n4_ n5_ n6_; clear hb hbox hg; have hnb10 := NB106_104.out; have hnc10 := NB104_106.out; have hcz11_0 : w9.cell? ⟨gb106, 0, none⟩ = some (.int .i64 0) := (blk_cell BK106.out 0).trans rfl; have hcz11_1 : w9.cell? ⟨gb106, 1, none⟩ = some (.int .i64 0) := (blk_cell BK106.out 1).trans rfl; have hcz11_2 : w9.cell? ⟨gb106, 2, none⟩ = some (.int .u64 0) := (blk_cell BK106.out 2).trans rfl; have hcz11_3 : w9.cell? ⟨gb106, 3, none⟩ = some (.int .u64 0) := (blk_cell BK106.out 3).trans rfl; have hfz11_0 := blk_frozen BK106.out 0; have hfz11_1 := blk_frozen BK106.out 1; have hfz11_2 := blk_frozen BK106.out 2; have hfz11_3 := blk_frozen BK106.out 3) | ((with_reducible refine gate_callee (f := 55) rfl ?_); refine goesL_ (some 15) rfl rfl Try.func55 kR rfl #[.agg #[.int .i64 ((rd_T61 l0_2 x10_1).f0), .int .i64 ((rd_T61 l0_2 x10_1).f1), .int .u64 ((rd_T61 l0_2 x10_1).f2), .int .u64 ((rd_T61 l0_2 x10_1).f3)]] rfl mpA ?_; (with_reducible refine (cond_Right.calls ((rd_T61 l0_2 x10_1).f0) ((rd_T61 l0_2 x10_1).f1) ((rd_T61 l0_2 x10_1).f2) ((rd_T61 l0_2 x10_1).f3) true _ A7.out).mono ?_); rintro e w12 ⟨rfl, hb⟩; refine ⟨_, rfl, ?_⟩; have n0_ := aM (blk_below (g := gb104) (o := .cells #[.int .u32 a0_0, .int .u32 a0_1, .slice (some ad105) l0_2.length c0_2, .int .u32 a0_3] 40 (0, 0)) (by refine bkS ?_; refine blk_far ?_ NB104_106.out _; refine bkS ?_; refine blk_far ?_ NB104_106.out _; refine bkS ?_; refine blk_far ?_ NB104_106.out _; refine bkS ?_; refine blk_far ?_ NB104_106.out _; refine bkS ?_; exact BK104.out) hb); have n1_ := aM (blk_below (g := gb106) (o := .cells #[.int .i64 ((rd_T61 l0_2 x10_1).f0), .int .i64 ((rd_T61 l0_2 x10_1).f1), .int .u64 ((rd_T61 l0_2 x10_1).f2), .int .u64 ((rd_T61 l0_2 x10_1).f3)] 61 (0, 0)) (by refine bkS ?_; refine blk_put (cs := #[.int .i64 ((rd_T61 l0_2 x10_1).f0), .int .i64 ((rd_T61 l0_2 x10_1).f1), .int .u64 ((rd_T61 l0_2 x10_1).f2), .int .u64 0]) ?_ 3 _ rfl; refine bkS ?_; refine blk_put (cs := #[.int .i64 ((rd_T61 l0_2 x10_1).f0), .int .i64 ((rd_T61 l0_2 x10_1).f1), .int .u64 0, .int .u64 0]) ?_ 2 _ rfl; refine bkS ?_; refine blk_put (cs := #[.int .i64 ((rd_T61 l0_2 x10_1).f0), .int .i64 0, .int .u64 0, .int .u64 0]) ?_ 1 _ rfl; refine bkS ?_; refine blk_put (cs := #[.int .i64 0, .int .i64 0, .int .u64 0, .int .u64 0]) ?_ 0 _ rfl; refine bkS ?_; exact BK106.out) hb); have n2_ := aM (below_step (bl2 GE104.out GE106.out) hb); clear BK104; clear BK106; clear HB; have BK104 := n0_; have BK106 := n1_; have HB := n2_; clear n0_ n1_ n2_; (try clear hb); (try clear hb2); (try clear hk); (try clear hi)))
   go_roundg k1
   case measure => have := HK1.out; omega
   case rel => exact ⟨(wrap64 (x10_1 + 1)), (by first | rfl | (simp; done) | (simp [*]; done)), H', ⟨by have := HK1.out; omega⟩, ⟨by refine bkS ?_; exact BK104.out⟩, ⟨bl2 GE104.out GE106.out⟩⟩
def policy_Right.l0 : Nat → List (S40) → Int → Int → List (S40) → Int → Option (Bool)
 | 0, _, _, _, _, _ => none
 | k + 1, x8, x9, x10, x111000, x111001 => if x10 < x9 then (if 0 ≤ x10 then (if x10 < (x8.length : Int) then ((policy_may.f k ((rd_T40 x8 x10).f0) ((rd_T40 x8 x10).f1) ((rd_T40 x8 x10).f2) ((rd_T40 x8 x10).f3)).bind fun t113 => (if t113 = true then (policy_Right.l0 k x8 x9 (wrap64 (x10 + 1)) x111000 x111001) else (some false))) else (none)) else (none)) else ((names_Action.f x111001).bind fun bt114 => (if bt114.2 = 0 then (some (decide ((x111000.length : Int) ≤ 64))) else (some false)))
def policy_Right.f (k : Nat) (l0_0 : List (S40)) (a0_1 : Int) : Option (Bool) := policy_Right.l0 k l0_0 (l0_0.length : Int) 0 l0_0 a0_1
set_option maxHeartbeats 8000000 in
set_option maxRecDepth 100000 in
theorem policy_Right.calls (k : Nat) (A0_0 : Option Addr) (c0_0 : Nat) (l0_0 : List (S40)) (a0_1 : Int) (r : Bool) (w : World) (hr0_0 : Kd.C k40 w A0_0 l0_0.length l0_0) (hc0_0 : l0_0.length ≤ c0_0) (h : policy_Right.f k l0_0 a0_1 = some r) :
 Calls Try.prog 18 #[.agg #[.slice A0_0 l0_0.length c0_0, .int .u32 a0_1]] w fun e w' => e = .returned (.bool r) ∧ Below w.heap.size w w' := by
 have hu25 := Try.underlying25
 have hu40 := Try.underlying40
 have HR0_0 := aM hr0_0
 have HC0_0 := aM hc0_0
 clear hr0_0 hc0_0
 have HB := aM (Below.refl w.heap.size w)
 have H : (policy_Right.l0 k l0_0 (l0_0.length : Int) 0 l0_0 a0_1) = some r := h
 clear h
 have H' := aM H
 clear H
 go_enter Try.func18, Try.ntmps18
 go_wp2_with (first | ((with_reducible refine gate_dst (N := 1) rfl ?_); (try (refine gate_guard (by rfl) ?_; dsimp only)); refine box_event ?hg (N := 1) ?hd (cs := #[.slice A0_0 l0_0.length c0_0, .int .u32 a0_1]) (t := 25) ?hr ?_; (case hd => rfl); (case hg => rfl); (case hr => first | (go_simp; done) | (go_simp; rfl)); intro gb110 hg w2 hbox hb; have n0_ := aM (below_step bl0 hb); have n1_ := aM (hbox); have n2_ := aM ((by rw [hg]; exact (below_size bl0) : w.heap.size ≤ gb110)); have n3_ := aM ((by rw [hg]; exact (below_size bl0) : w.heap.size ≤ gb110)); clear HB; have HB := n0_; have BK110 := n1_; have GW110 := n2_; have GE110 := n3_; clear n0_ n1_ n2_ n3_; clear hb hbox hg; have hcz3_0 : w2.cell? ⟨gb110, 0, none⟩ = some (.slice A0_0 l0_0.length c0_0) := (blk_cell BK110.out 0).trans rfl; have hcz3_1 : w2.cell? ⟨gb110, 1, none⟩ = some (.int .u32 a0_1) := (blk_cell BK110.out 1).trans rfl; have hfz3_0 := blk_frozen BK110.out 0; have hfz3_1 := blk_frozen BK110.out 1))
 go_loopg [10] k (fun kq v10 w' => ∃ (x10_1 : Int), v10 = .int .i64 x10_1 ∧ Aside0 (policy_Right.l0 kq l0_0 (l0_0.length : Int) x10_1 l0_0 a0_1 = some r) ∧ Aside0 (kq ≤ k) ∧ Aside0 (w'.heap[gb110]? = some (.cells #[(.slice A0_0 l0_0.length c0_0), .int .u32 a0_1] 25 (0, 0))) ∧ Aside0 (Below w.heap.size w w'))
 case atStart => exact ⟨(0), (by first | rfl | (simp; done) | (simp [*]; done)), H', ⟨Nat.le_refl _⟩, ⟨by refine bkS ?_; exact BK110.out⟩, ⟨bl1 GE110.out⟩⟩
 case round =>
  clear H'
  try clear c1
  try clear p2
  try clear hcz3_0
  try clear hcz3_1
  try clear hfz3_0
  try clear hfz3_1
  obtain ⟨x10_1, rfl, HA, HK1, BK110, HB⟩ := hrel
  cases gk with
  | zero => exact absurd HA.out (by simp [policy_Right.l0])
  | succ k1 =>
   have H := HA.out
   clear HA
   simp only [policy_Right.l0] at H
   by_cases c4 : x10_1 < (l0_0.length : Int)
   rotate_left
   · rw [if_neg c4] at H
     have c4b0 : decide (x10_1 < (l0_0.length : Int)) = false := decide_eq_false c4
     clear c4
     replace H := Option.bind_eq_some_iff.mp H
     obtain ⟨⟨t114, t115⟩, A170, H⟩ := H
     replace H : (if t115 = 0 then (some (decide ((l0_0.length : Int) ≤ 64))) else (some false)) = some r := H
     have A17 := aM A170
     clear A170
     by_cases c18 : t115 = 0
     rotate_left
     · rw [if_neg c18] at H
       have c18b0 : (t115 == 0) = false := beq_eq_false_iff_ne.mpr c18
       have c18b1 : (t115 != 0) = true := bne_iff_ne.mpr c18
       obtain rfl := Option.some.inj H
       have hcz22_0 : wr.cell? ⟨gb110, 0, none⟩ = some (.slice A0_0 l0_0.length c0_0) := (blk_cell BK110.out 0).trans rfl
       have hcz22_1 : wr.cell? ⟨gb110, 1, none⟩ = some (.int .u32 a0_1) := (blk_cell BK110.out 1).trans rfl
       have hfz22_0 := blk_frozen BK110.out 0
       have hfz22_1 := blk_frozen BK110.out 1
       go_wp2_with (first | ((with_reducible refine gate_callee (f := 32) rfl ?_); refine goesL_ (some 21) rfl rfl Try.func32 kR rfl #[.int .u32 a0_1] rfl mpA ?_; (with_reducible refine (names_Action.calls a0_1 t114 t115 _ A17.out).mono ?_); rintro e w23 ⟨rfl, hb⟩; refine ⟨_, rfl, ?_⟩; have n0_ := aM (blk_below (g := gb110) (o := .cells #[.slice A0_0 l0_0.length c0_0, .int .u32 a0_1] 25 (0, 0)) (bkS BK110.out) hb); have n1_ := aM (below_step (bl1 GE110.out) hb); clear BK110; clear HB; have BK110 := n0_; have HB := n1_; clear n0_ n1_; (try clear hb); (try clear hb2); (try clear hk); (try clear hi)))
       go_ret
       exact ⟨erA, bl1 GE110.out⟩
     rw [if_pos c18] at H
     have c18b0 : (t115 == 0) = true := beq_iff_eq.mpr c18
     have c18b1 : (t115 != 0) = false := bne_eq_false_iff_eq.mpr c18
     clear c18
     obtain rfl := Option.some.inj H
     have hcz19_0 : wr.cell? ⟨gb110, 0, none⟩ = some (.slice A0_0 l0_0.length c0_0) := (blk_cell BK110.out 0).trans rfl
     have hcz19_1 : wr.cell? ⟨gb110, 1, none⟩ = some (.int .u32 a0_1) := (blk_cell BK110.out 1).trans rfl
     have hfz19_0 := blk_frozen BK110.out 0
     have hfz19_1 := blk_frozen BK110.out 1
     go_wp2_with (first | ((with_reducible refine gate_callee (f := 32) rfl ?_); refine goesL_ (some 21) rfl rfl Try.func32 kR rfl #[.int .u32 a0_1] rfl mpA ?_; (with_reducible refine (names_Action.calls a0_1 t114 t115 _ A17.out).mono ?_); rintro e w20 ⟨rfl, hb⟩; refine ⟨_, rfl, ?_⟩; have n0_ := aM (blk_below (g := gb110) (o := .cells #[.slice A0_0 l0_0.length c0_0, .int .u32 a0_1] 25 (0, 0)) (bkS BK110.out) hb); have n1_ := aM (below_step (bl1 GE110.out) hb); clear BK110; clear HB; have BK110 := n0_; have HB := n1_; clear n0_ n1_; (try clear hb); (try clear hb2); (try clear hk); (try clear hi); have hcz21_0 : w20.cell? ⟨gb110, 0, none⟩ = some (.slice A0_0 l0_0.length c0_0) := (blk_cell BK110.out 0).trans rfl; have hcz21_1 : w20.cell? ⟨gb110, 1, none⟩ = some (.int .u32 a0_1) := (blk_cell BK110.out 1).trans rfl; have hfz21_0 := blk_frozen BK110.out 0; have hfz21_1 := blk_frozen BK110.out 1))
     go_ret
     exact ⟨erA, bl1 GE110.out⟩
   rw [if_pos c4] at H
   have c4b0 : decide (x10_1 < (l0_0.length : Int)) = true := decide_eq_true c4
   clear c4
   by_cases c5 : 0 ≤ x10_1
   rotate_left
   · rw [if_neg c5] at H
     exact absurd H (by simp)
   rw [if_pos c5] at H
   have c5b0 : decide (0 ≤ x10_1) = true := decide_eq_true c5
   clear c5
   by_cases c6 : x10_1 < (l0_0.length : Int)
   rotate_left
   · rw [if_neg c6] at H
     exact absurd H (by simp)
   rw [if_pos c6] at H
   have c6b0 : decide (x10_1 < (l0_0.length : Int)) = true := decide_eq_true c6
   clear c6
   replace H := Option.bind_eq_some_iff.mp H
   obtain ⟨t113, A70, H⟩ := H
   replace H : (if t113 = true then (policy_Right.l0 k1 l0_0 (l0_0.length : Int) (wrap64 (x10_1 + 1)) l0_0 a0_1) else (some false)) = some r := H
   have A7 := aM A70
   clear A70
   by_cases c8 : t113 = true
   rotate_left
   · replace c8 := Bool.eq_false_iff.mpr c8
     subst c8
     have H1 : (some false) = some r := by rw [if_neg (show ¬ (false = true) by decide)] at H; exact H
     clear H
     have H := H1
     clear H1
     obtain rfl := Option.some.inj H
     have p111 : 0 ≤ (x10_1 : Int) := of_decide_eq_true as_
     have q111 : x10_1 < (l0_0.length : Int) := of_decide_eq_true as_
     obtain ⟨ad111, A111_2, c111_2, e111, hx111_0, hx111_1, hx111_2, hx111_3, hl111_2, hi111_2⟩ := at_T40 HR0_0.out x10_1 p111 q111
     cases e111
     replace hx111_0 := (HB.out.cell (World.block_lt_of_cell? w _ hx111_0)).trans hx111_0
     replace hx111_1 := (HB.out.cell (World.block_lt_of_cell? w _ hx111_1)).trans hx111_1
     replace hx111_2 := (HB.out.cell (World.block_lt_of_cell? w _ hx111_2)).trans hx111_2
     replace hx111_3 := (HB.out.cell (World.block_lt_of_cell? w _ hx111_3)).trans hx111_3
     have HR111_2 := aM hi111_2
     have HC111_2 := aM hl111_2
     clear hi111_2 hl111_2
     replace p111 := eq_true p111
     replace q111 := eq_true q111
     go_wp2_with (first | ((with_reducible refine gate_dst (N := 4) rfl ?_); (try (refine gate_guard (by rfl) ?_; dsimp only)); refine box_event ?hg (N := 4) ?hd (cs := #[.int .u32 0, .int .u32 0, .slice none 0 0, .int .u32 0]) (t := 40) ?hr ?_; (case hd => rfl); (case hg => rfl); (case hr => first | (go_simp; done) | (go_simp; rfl)); intro gb112 hg w13 hbox hb; have n0_ := aM (blk_below (g := gb110) (o := .cells #[.slice (some ad111) l0_0.length c0_0, .int .u32 a0_1] 25 (0, 0)) (bkS BK110.out) hb); have n1_ := aM (below_step (bl1 GE110.out) hb); have n2_ := aM (hbox); have n3_ := aM ((by rw [hg]; exact (below_size (bl1 GE110.out)) : w.heap.size ≤ gb112)); have n4_ := aM ((by rw [hg]; exact (below_size (bl1 GE110.out)) : w.heap.size ≤ gb112)); have n5_ := aM ((by rw [hg]; exact Nat.ne_of_lt (blk_lt (g := gb110) (o := .cells #[.slice (some ad111) l0_0.length c0_0, .int .u32 a0_1] 25 (0, 0)) (bkS BK110.out)) : gb110 ≠ gb112)); have n6_ := aM ((by rw [hg]; exact Nat.ne_of_gt (blk_lt (g := gb110) (o := .cells #[.slice (some ad111) l0_0.length c0_0, .int .u32 a0_1] 25 (0, 0)) (bkS BK110.out)) : gb112 ≠ gb110)); clear BK110; clear HB; have BK110 := n0_; have HB := n1_; have BK112 := n2_; have GW112 := n3_; have GE112 := n4_; have NB110_112 := n5_; have NB112_110 := n6_; clear n0_ n1_ n2_ n3_ n4_ n5_ n6_; clear hb hbox hg; have hnb14 := NB112_110.out; have hnc14 := NB110_112.out; have hcz15_0 : w13.cell? ⟨gb112, 0, none⟩ = some (.int .u32 0) := (blk_cell BK112.out 0).trans rfl; have hcz15_1 : w13.cell? ⟨gb112, 1, none⟩ = some (.int .u32 0) := (blk_cell BK112.out 1).trans rfl; have hcz15_2 : w13.cell? ⟨gb112, 2, none⟩ = some (.slice none 0 0) := (blk_cell BK112.out 2).trans rfl; have hcz15_3 : w13.cell? ⟨gb112, 3, none⟩ = some (.int .u32 0) := (blk_cell BK112.out 3).trans rfl; have hfz15_0 := blk_frozen BK112.out 0; have hfz15_1 := blk_frozen BK112.out 1; have hfz15_2 := blk_frozen BK112.out 2; have hfz15_3 := blk_frozen BK112.out 3) | ((with_reducible refine gate_callee (f := 35) rfl ?_); refine goesL_ (some 15) rfl rfl Try.func35 kR rfl #[.agg #[.int .u32 ((rd_T40 l0_0 x10_1).f0), .int .u32 ((rd_T40 l0_0 x10_1).f1), .slice A111_2 ((rd_T40 l0_0 x10_1).f2).length c111_2, .int .u32 ((rd_T40 l0_0 x10_1).f3)]] rfl mpA ?_; (with_reducible refine (policy_may.calls k1 ((rd_T40 l0_0 x10_1).f0) ((rd_T40 l0_0 x10_1).f1) _ _ ((rd_T40 l0_0 x10_1).f2) ((rd_T40 l0_0 x10_1).f3) false _ ?side1 ?side2 A7.out).mono ?_); (case side1 => exact Kd.C_below HR111_2.out (bl2 GE110.out GE112.out)); (case side2 => exact HC111_2.out); rintro e w16 ⟨rfl, hb⟩; refine ⟨_, rfl, ?_⟩; have n0_ := aM (blk_below (g := gb110) (o := .cells #[.slice (some ad111) l0_0.length c0_0, .int .u32 a0_1] 25 (0, 0)) (by refine bkS ?_; refine blk_far ?_ NB110_112.out _; refine bkS ?_; refine blk_far ?_ NB110_112.out _; refine bkS ?_; refine blk_far ?_ NB110_112.out _; refine bkS ?_; refine blk_far ?_ NB110_112.out _; refine bkS ?_; exact BK110.out) hb); have n1_ := aM (blk_below (g := gb112) (o := .cells #[.int .u32 ((rd_T40 l0_0 x10_1).f0), .int .u32 ((rd_T40 l0_0 x10_1).f1), .slice A111_2 ((rd_T40 l0_0 x10_1).f2).length c111_2, .int .u32 ((rd_T40 l0_0 x10_1).f3)] 40 (0, 0)) (by refine bkS ?_; refine blk_put (cs := #[.int .u32 ((rd_T40 l0_0 x10_1).f0), .int .u32 ((rd_T40 l0_0 x10_1).f1), .slice A111_2 ((rd_T40 l0_0 x10_1).f2).length c111_2, .int .u32 0]) ?_ 3 _ rfl; refine bkS ?_; refine blk_put (cs := #[.int .u32 ((rd_T40 l0_0 x10_1).f0), .int .u32 ((rd_T40 l0_0 x10_1).f1), .slice none 0 0, .int .u32 0]) ?_ 2 _ rfl; refine bkS ?_; refine blk_put (cs := #[.int .u32 ((rd_T40 l0_0 x10_1).f0), .int .u32 0, .slice none 0 0, .int .u32 0]) ?_ 1 _ rfl; refine bkS ?_; refine blk_put (cs := #[.int .u32 0, .int .u32 0, .slice none 0 0, .int .u32 0]) ?_ 0 _ rfl; refine bkS ?_; exact BK112.out) hb); have n2_ := aM (below_step (bl2 GE110.out GE112.out) hb); clear BK110; clear BK112; clear HB; have BK110 := n0_; have BK112 := n1_; have HB := n2_; clear n0_ n1_ n2_; (try clear hb); (try clear hb2); (try clear hk); (try clear hi)))
     go_ret
     exact ⟨erA, bl2 GE110.out GE112.out⟩
   subst c8
   have H1 : (policy_Right.l0 k1 l0_0 (l0_0.length : Int) (wrap64 (x10_1 + 1)) l0_0 a0_1) = some r := by rw [if_pos rfl] at H; exact H
   clear H
   have H := H1
   clear H1
   have H' := aM H
   clear H
   have p111 : 0 ≤ (x10_1 : Int) := of_decide_eq_true as_
   have q111 : x10_1 < (l0_0.length : Int) := of_decide_eq_true as_
   obtain ⟨ad111, A111_2, c111_2, e111, hx111_0, hx111_1, hx111_2, hx111_3, hl111_2, hi111_2⟩ := at_T40 HR0_0.out x10_1 p111 q111
   cases e111
   replace hx111_0 := (HB.out.cell (World.block_lt_of_cell? w _ hx111_0)).trans hx111_0
   replace hx111_1 := (HB.out.cell (World.block_lt_of_cell? w _ hx111_1)).trans hx111_1
   replace hx111_2 := (HB.out.cell (World.block_lt_of_cell? w _ hx111_2)).trans hx111_2
   replace hx111_3 := (HB.out.cell (World.block_lt_of_cell? w _ hx111_3)).trans hx111_3
   have HR111_2 := aM hi111_2
   have HC111_2 := aM hl111_2
   clear hi111_2 hl111_2
   replace p111 := eq_true p111
   replace q111 := eq_true q111
   go_wp2_with (first | ((with_reducible refine gate_dst (N := 4) rfl ?_); (try (refine gate_guard (by rfl) ?_; dsimp only)); refine box_event ?hg (N := 4) ?hd (cs := #[.int .u32 0, .int .u32 0, .slice none 0 0, .int .u32 0]) (t := 40) ?hr ?_; (case hd => rfl); (case hg => rfl); (case hr => first | (go_simp; done) | (go_simp; rfl)); intro gb112 hg w9 hbox hb; have n0_ := aM (blk_below (g := gb110) (o := .cells #[.slice (some ad111) l0_0.length c0_0, .int .u32 a0_1] 25 (0, 0)) (bkS BK110.out) hb); have n1_ := aM (below_step (bl1 GE110.out) hb); have n2_ := aM (hbox); have n3_ := aM ((by rw [hg]; exact (below_size (bl1 GE110.out)) : w.heap.size ≤ gb112)); have n4_ := aM ((by rw [hg]; exact (below_size (bl1 GE110.out)) : w.heap.size ≤ gb112)); have n5_ := aM ((by rw [hg]; exact Nat.ne_of_lt (blk_lt (g := gb110) (o := .cells #[.slice (some ad111) l0_0.length c0_0, .int .u32 a0_1] 25 (0, 0)) (bkS BK110.out)) : gb110 ≠ gb112)); have n6_ := aM ((by rw [hg]; exact Nat.ne_of_gt (blk_lt (g := gb110) (o := .cells #[.slice (some ad111) l0_0.length c0_0, .int .u32 a0_1] 25 (0, 0)) (bkS BK110.out)) : gb112 ≠ gb110)); clear BK110; clear HB; have BK110 := n0_; have HB := n1_; have BK112 := n2_; have GW112 := n3_; have GE112 := n4_; have NB110_112 := n5_; have NB112_110 := n6_; clear n0_ n1_ n2_ n3_ n4_ n5_ n6_; clear hb hbox hg; have hnb10 := NB112_110.out; have hnc10 := NB110_112.out; have hcz11_0 : w9.cell? ⟨gb112, 0, none⟩ = some (.int .u32 0) := (blk_cell BK112.out 0).trans rfl; have hcz11_1 : w9.cell? ⟨gb112, 1, none⟩ = some (.int .u32 0) := (blk_cell BK112.out 1).trans rfl; have hcz11_2 : w9.cell? ⟨gb112, 2, none⟩ = some (.slice none 0 0) := (blk_cell BK112.out 2).trans rfl; have hcz11_3 : w9.cell? ⟨gb112, 3, none⟩ = some (.int .u32 0) := (blk_cell BK112.out 3).trans rfl; have hfz11_0 := blk_frozen BK112.out 0; have hfz11_1 := blk_frozen BK112.out 1; have hfz11_2 := blk_frozen BK112.out 2; have hfz11_3 := blk_frozen BK112.out 3) | ((with_reducible refine gate_callee (f := 35) rfl ?_); refine goesL_ (some 15) rfl rfl Try.func35 kR rfl #[.agg #[.int .u32 ((rd_T40 l0_0 x10_1).f0), .int .u32 ((rd_T40 l0_0 x10_1).f1), .slice A111_2 ((rd_T40 l0_0 x10_1).f2).length c111_2, .int .u32 ((rd_T40 l0_0 x10_1).f3)]] rfl mpA ?_; (with_reducible refine (policy_may.calls k1 ((rd_T40 l0_0 x10_1).f0) ((rd_T40 l0_0 x10_1).f1) _ _ ((rd_T40 l0_0 x10_1).f2) ((rd_T40 l0_0 x10_1).f3) true _ ?side1 ?side2 A7.out).mono ?_); (case side1 => exact Kd.C_below HR111_2.out (bl2 GE110.out GE112.out)); (case side2 => exact HC111_2.out); rintro e w12 ⟨rfl, hb⟩; refine ⟨_, rfl, ?_⟩; have n0_ := aM (blk_below (g := gb110) (o := .cells #[.slice (some ad111) l0_0.length c0_0, .int .u32 a0_1] 25 (0, 0)) (by refine bkS ?_; refine blk_far ?_ NB110_112.out _; refine bkS ?_; refine blk_far ?_ NB110_112.out _; refine bkS ?_; refine blk_far ?_ NB110_112.out _; refine bkS ?_; refine blk_far ?_ NB110_112.out _; refine bkS ?_; exact BK110.out) hb); have n1_ := aM (blk_below (g := gb112) (o := .cells #[.int .u32 ((rd_T40 l0_0 x10_1).f0), .int .u32 ((rd_T40 l0_0 x10_1).f1), .slice A111_2 ((rd_T40 l0_0 x10_1).f2).length c111_2, .int .u32 ((rd_T40 l0_0 x10_1).f3)] 40 (0, 0)) (by refine bkS ?_; refine blk_put (cs := #[.int .u32 ((rd_T40 l0_0 x10_1).f0), .int .u32 ((rd_T40 l0_0 x10_1).f1), .slice A111_2 ((rd_T40 l0_0 x10_1).f2).length c111_2, .int .u32 0]) ?_ 3 _ rfl; refine bkS ?_; refine blk_put (cs := #[.int .u32 ((rd_T40 l0_0 x10_1).f0), .int .u32 ((rd_T40 l0_0 x10_1).f1), .slice none 0 0, .int .u32 0]) ?_ 2 _ rfl; refine bkS ?_; refine blk_put (cs := #[.int .u32 ((rd_T40 l0_0 x10_1).f0), .int .u32 0, .slice none 0 0, .int .u32 0]) ?_ 1 _ rfl; refine bkS ?_; refine blk_put (cs := #[.int .u32 0, .int .u32 0, .slice none 0 0, .int .u32 0]) ?_ 0 _ rfl; refine bkS ?_; exact BK112.out) hb); have n2_ := aM (below_step (bl2 GE110.out GE112.out) hb); clear BK110; clear BK112; clear HB; have BK110 := n0_; have BK112 := n1_; have HB := n2_; clear n0_ n1_ n2_; (try clear hb); (try clear hb2); (try clear hk); (try clear hi)))
   go_roundg k1
   case measure => have := HK1.out; omega
   case rel => exact ⟨(wrap64 (x10_1 + 1)), (by first | rfl | (simp; done) | (simp [*]; done)), H', ⟨by have := HK1.out; omega⟩, ⟨by refine bkS ?_; exact BK110.out⟩, ⟨bl2 GE110.out GE112.out⟩⟩
end Go.Proofs.Ytekpbgmmogpbdaa.P
