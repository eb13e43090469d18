/-
Package data: Bytes, the walk.
-/
import Derived.Test.YtgfmeiddicodoaaProg
import Derived.WalkKit
import Derived.WalkSpells
import Derived.WalkLawsBesides
import Derived.Handy
import Derived.Lib.Hide
import Derived.Deep.QuietTactic
import Derived.BigQuiet
import Derived.Test.YtgfmeiddicodoaaHData2
set_option linter.unusedVariables false
set_option linter.unusedSimpArgs false
namespace Go.Proofs.Ytgfmeiddicodoaa.H
open Go.RowKit Go.Proofs.YtgfmeiddicodoaaW.PrintWords

theorem Try.info8d : (Try.prog.info? 5).map (fun i => (i.zero, i.size, i.bytes)) = some (some (.int .u8 0), 1, 1) := by kernel_rfl
/-- 'out = append(out, x0, x1, ..)' of bytes that lie somewhere. -/
theorem wpList_nappend {ops : Array Oper} {rest : List Oper} {o : Oper} {a : Act} {w : World} {Q : Exit → Act → World → Prop} (hg : o.guard = none) (s x : Operand)
    (ho : o.op = .call { callee := .builtin .append, args := #[s, x], argTypes := #[49, 49] })
    (B : Nat) (v : Value) (xs bs : List Int) (m : Nat) (hs : a.eval s = v) (hr : w.ownsRow B 5 1 v xs.length (nums .u8 xs)) (hB : B ≤ w.heap.size) (hl : xs.length + m ≤ 140737488355328) (ad : Addr) (c : Nat)
    (hm : bs.length = m) (hx : a.eval x = .slice (some ad) m c) (hnew : ∀ j u, (nums .u8 bs)[j]? = some u → w.cell? (ad.add j) = some u)
    (h : ∀ v' w', w'.ownsRow B 5 1 v' (xs ++ bs).length (nums .u8 (xs ++ bs)) → Below B w w' → wpList Try.prog ops Q rest (a.put o.dst v') w') :
    wpList Try.prog ops Q (o :: rest) a w := by
  obtain ⟨i0, hi, hzz⟩ := Option.map_eq_some_iff.1 Try.info8d
  simp only [Prod.mk.injEq] at hzz
  obtain ⟨hz0, hz1, hz2⟩ := hzz
  refine wpList_append_own _ hg s x 49 ho B 5 i0 (.int .u8 0) 1 1 Try.underlying49 hi hz0 hz1 hz2 rfl (by decide) v _ _ hs hr ad m c (nums .u8 bs) hx (by simp [nums, hm]) hnew
    (by intro u hu; simp only [nums, List.mem_map] at hu; obtain ⟨q, _, rfl⟩ := hu; rfl) (by unfold maxLen; omega) (by omega) hB ?_
  intro v' w' o1 g1 _
  have e1 : (xs ++ bs).length = xs.length + m := by simp [hm]
  have e2 : nums .u8 (xs ++ bs) = nums .u8 xs ++ nums .u8 bs := by simp [nums]
  rw [← e1, ← e2] at o1
  exact h v' w' o1 ((Below.refl _ _).grown g1 hB (own_base hr))

def b4 (x : Int) : List Int := [x % 256, x / 256 % 256, x / 65536 % 256, x / 16777216]
def b4s : List Int → List Int
  | [] => []
  | x :: xs => b4 x ++ b4s xs
theorem b4s_append (xs ys : List Int) : b4s (xs ++ ys) = b4s xs ++ b4s ys := by
  induction xs with
  | nil => rfl
  | cons x xs ih => simp [b4s, ih]
theorem b4s_length (xs : List Int) : (b4s xs).length = 4 * xs.length := by
  induction xs with
  | nil => rfl
  | cons x xs ih => simp [b4s, ih, b4]; omega
theorem b4s_take (ws : List Int) (k : Nat) (h : k < ws.length) : b4s (ws.take (k + 1)) = b4s (ws.take k) ++ b4 (ws.getD k 0) := by
  rw [List.take_add_one, b4s_append, List.getElem?_eq_getElem h]
  simp [b4s, List.getD_eq_getElem?_getD, List.getElem?_eq_getElem h]

theorem idx16 (ws : List Int) (hl : ws.length = 16) (k : Nat) (hk : k < 16) (w : World) :
    (Instr.index 55 (.agg (nums .u32 ws).toArray) (.int .i64 (k : Int))).run Try.prog w = .ok (.int .u32 (ws.getD k 0)) w :=
  run_index_arr Try.underlying55 Try.underlying22 (by kernel_rfl) _ k hk _ (by simp [nums, List.getElem?_eq_getElem (show k < ws.length by omega), List.getD_eq_getElem?_getD]) w

/-- A record that can be. -/
structure IsD (nr ar ip : Int) (ags : List Int) : Prop where
  len : ags.length = 6
  nr : 0 ≤ nr ∧ nr < 4294967296
  ar : 0 ≤ ar ∧ ar < 4294967296
  ip : 0 ≤ ip ∧ ip < 18446744073709551616
  ags : ∀ k, k < 6 → 0 ≤ ags.getD k 0 ∧ ags.getD k 0 < 18446744073709551616

theorem IsD.words {nr ar ip : Int} {ags : List Int} (h : IsD nr ar ip ags) (i : Nat) : 0 ≤ (wordsL nr ar ip ags).getD i 0 ∧ (wordsL nr ar ip ags).getD i 0 < 4294967296 := by
  have h0 := h.nr
  have h1 := h.ar
  have h2 := h.ip
  have a0 := h.ags 0 (by omega)
  have a1 := h.ags 1 (by omega)
  have a2 := h.ags 2 (by omega)
  have a3 := h.ags 3 (by omega)
  have a4 := h.ags 4 (by omega)
  have a5 := h.ags 5 (by omega)
  unfold wordsL
  generalize ags.getD 0 0 = x0 at *
  generalize ags.getD 1 0 = x1 at *
  generalize ags.getD 2 0 = x2 at *
  generalize ags.getD 3 0 = x3 at *
  generalize ags.getD 4 0 = x4 at *
  generalize ags.getD 5 0 = x5 at *
  by_cases hi : i < 16
  · rcases (by omega : i = 0 ∨ i = 1 ∨ i = 2 ∨ i = 3 ∨ i = 4 ∨ i = 5 ∨ i = 6 ∨ i = 7 ∨ i = 8 ∨ i = 9 ∨ i = 10 ∨ i = 11 ∨ i = 12 ∨ i = 13 ∨ i = 14 ∨ i = 15) with rfl | rfl | rfl | rfl | rfl | rfl | rfl | rfl | rfl | rfl | rfl | rfl | rfl | rfl | rfl | rfl <;> simp only [List.getD_cons_zero, List.getD_cons_succ] <;> omega
  · rw [List.getD_eq_getElem?_getD, List.getElem?_eq_none (by simp; omega)]
    simp

set_option maxHeartbeats 2000000 in
theorem Bytes_walk (nr ar ip a0 a1 a2 a3 a4 a5 : Int) (hd : IsD nr ar ip [a0, a1, a2, a3, a4, a5]) (w : World) :
    Calls Try.prog 33 #[.agg #[.int .u32 nr, .int .u32 ar, .int .u64 ip, .int .u64 a0, .int .u64 a1, .int .u64 a2, .int .u64 a3, .int .u64 a4, .int .u64 a5]] w fun e w' => ∃ v, e = .returned v ∧
      w'.ownsRow w.heap.size 5 1 v 64 (nums .u8 (b4s (wordsL nr ar ip [a0, a1, a2, a3, a4, a5]))) ∧ Below w.heap.size w w' := by
  have HD := Lib.hid hd
  have HW := Lib.hid hd.words
  clear hd
  go_enter Try.func33, Try.ntmps33
  go_wp2_with fail
  refine (words_walk nr ar ip [a0, a1, a2, a3, a4, a5] HD.out.len _ HD.out.nr HD.out.ar HD.out.ip HD.out.ags).mono ?_
  rintro e w1 ⟨rfl, hb⟩
  have HB := Lib.hid (show Below w.heap.size w w1 from ((Below.refl _ _).alloc (Nat.le_refl _) _).trans (hb.mono (by simp)))
  clear hb
  generalize hws : wordsL nr ar ip [a0, a1, a2, a3, a4, a5] = ws at *
  have hl : ws.length = 16 := by rw [← hws]; rfl
  have HIX := Lib.hid (idx16 ws hl)
  have HL := Lib.hid hl
  have HWS := Lib.hid hws
  clear hws hl
  go_wp2_with fail
  have HN := Lib.hid (World.ownsRow_nil w1 w.heap.size 5 1)
  go_loopw [3, 8] (fun v i wr => ∃ k : Nat, k ≤ 16 ∧ i = .int .i64 (k : Int) ∧ wr.ownsRow w.heap.size 5 1 v (b4s (ws.take k)).length (nums .u8 (b4s (ws.take k))) ∧ Below w.heap.size w wr) (fun _ i _ => 16 - (intOf i).toNat)
  case atStart => exact ⟨0, by omega, rfl, HN.out, HB.out⟩
  case round =>
    obtain ⟨k, hk, rfl, ho, hb⟩ := hrel
    have HO := Lib.hid ho
    have HBW := Lib.hid hb
    clear ho hb
    by_cases hlt : k < 16
    · have hix := HIX.out k hlt
      have hx := HW.out k
      have hlen := b4s_length (ws.take k)
      have hll := HL.out
      rw [List.length_take] at hlen
      have htk := b4s_take ws k (by omega)
      have HT := Lib.hid htk
      have HLE := Lib.hid (show (b4s (ws.take k)).length ≤ 64 by omega)
      clear htk hlen hll
      generalize hxx : ws.getD k 0 = x at *
      have HX := Lib.hid hxx
      clear hxx
      go_wp2_with (at_builtin; go_must (refine wpList_nappend rfl (.tmp 11) (.tmp 23) rfl w.heap.size _ (b4s (ws.take k)) (b4 x) 4 rfl (pw_own_below HO.out (Below.alloc (Below.refl _ _) (Nat.le_refl _) _)) (by have := HBW.out.size; simp; omega) (by have := HLE.out; omega) ⟨wr.heap.size, 0, none⟩ 4 rfl rfl (World.news_of_block (cs := (nums .u8 (b4 x)).toArray) (t := 5) (fr := (0, 0)) (heap_alloc_new _ _)) ?_); intro v' w2 ho hb1; have HO2 := Lib.hid ho; have HB1 := Lib.hid hb1; clear ho hb1)
      refine ⟨⟨k + 1, by omega, by go_num, by rw [HT.out]; exact HO2.out, HBW.out.trans ((Below.alloc (Below.refl _ _) HBW.out.size _).trans HB1.out)⟩, ?_⟩
      simp [intOf]; omega
    · obtain rfl : k = 16 := by omega
      have hl16 : b4s (ws.take 16) = b4s ws := by rw [List.take_of_length_le (by have := HL.out; omega)]
      have hlen : (b4s ws).length = 64 := by rw [b4s_length, HL.out]
      have ho := HO.out
      rw [hl16, hlen] at ho
      have HO6 := Lib.hid ho
      clear ho hl16 hlen
      go_wp2
      go_ret
      exact ⟨u3, rfl, by rw [HWS.out]; exact HO6.out, HBW.out⟩
end Go.Proofs.Ytgfmeiddicodoaa.H
