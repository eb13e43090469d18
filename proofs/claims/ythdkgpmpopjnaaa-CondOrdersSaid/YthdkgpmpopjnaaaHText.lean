/-
The contract of word.Text: the walk through its code.
-/
import Derived.Test.YthdkgpmpopjnaaaProg
import Derived.WalkKit
import Derived.WalkSpells
import Derived.WalkLawsBesides
import Derived.Handy
import Derived.Lib.Hide
import Derived.Lib.SlBytesConst
import Derived.ArgAppend
import Derived.Test.YthdkgpmpopjnaaaHMath
import Derived.Test.YthdkgpmpopjnaaaWWords
set_option linter.unusedVariables false
set_option linter.unusedSimpArgs false
namespace Go.Proofs.Ythdkgpmpopjnaaa.H
open Go.RowKit Go.Proofs.YthdkgpmpopjnaaaW.PrintWords

def hexc (d : Nat) : Nat := if d < 10 then 48 + d else 87 + d

theorem dig_0 (w : World) : (Instr.index 9 (.string ⟨#[48, 49, 50, 51, 52, 53, 54, 55, 56, 57, 97, 98, 99, 100, 101, 102]⟩) (.int .u64 ((0 : Nat) : Int))).run Try.prog w = .ok (.int .u8 ((hexc 0 : Nat) : Int)) w := by kernel_rfl
theorem dig_1 (w : World) : (Instr.index 9 (.string ⟨#[48, 49, 50, 51, 52, 53, 54, 55, 56, 57, 97, 98, 99, 100, 101, 102]⟩) (.int .u64 ((1 : Nat) : Int))).run Try.prog w = .ok (.int .u8 ((hexc 1 : Nat) : Int)) w := by kernel_rfl
theorem dig_2 (w : World) : (Instr.index 9 (.string ⟨#[48, 49, 50, 51, 52, 53, 54, 55, 56, 57, 97, 98, 99, 100, 101, 102]⟩) (.int .u64 ((2 : Nat) : Int))).run Try.prog w = .ok (.int .u8 ((hexc 2 : Nat) : Int)) w := by kernel_rfl
theorem dig_3 (w : World) : (Instr.index 9 (.string ⟨#[48, 49, 50, 51, 52, 53, 54, 55, 56, 57, 97, 98, 99, 100, 101, 102]⟩) (.int .u64 ((3 : Nat) : Int))).run Try.prog w = .ok (.int .u8 ((hexc 3 : Nat) : Int)) w := by kernel_rfl
theorem dig_4 (w : World) : (Instr.index 9 (.string ⟨#[48, 49, 50, 51, 52, 53, 54, 55, 56, 57, 97, 98, 99, 100, 101, 102]⟩) (.int .u64 ((4 : Nat) : Int))).run Try.prog w = .ok (.int .u8 ((hexc 4 : Nat) : Int)) w := by kernel_rfl
theorem dig_5 (w : World) : (Instr.index 9 (.string ⟨#[48, 49, 50, 51, 52, 53, 54, 55, 56, 57, 97, 98, 99, 100, 101, 102]⟩) (.int .u64 ((5 : Nat) : Int))).run Try.prog w = .ok (.int .u8 ((hexc 5 : Nat) : Int)) w := by kernel_rfl
theorem dig_6 (w : World) : (Instr.index 9 (.string ⟨#[48, 49, 50, 51, 52, 53, 54, 55, 56, 57, 97, 98, 99, 100, 101, 102]⟩) (.int .u64 ((6 : Nat) : Int))).run Try.prog w = .ok (.int .u8 ((hexc 6 : Nat) : Int)) w := by kernel_rfl
theorem dig_7 (w : World) : (Instr.index 9 (.string ⟨#[48, 49, 50, 51, 52, 53, 54, 55, 56, 57, 97, 98, 99, 100, 101, 102]⟩) (.int .u64 ((7 : Nat) : Int))).run Try.prog w = .ok (.int .u8 ((hexc 7 : Nat) : Int)) w := by kernel_rfl
theorem dig_8 (w : World) : (Instr.index 9 (.string ⟨#[48, 49, 50, 51, 52, 53, 54, 55, 56, 57, 97, 98, 99, 100, 101, 102]⟩) (.int .u64 ((8 : Nat) : Int))).run Try.prog w = .ok (.int .u8 ((hexc 8 : Nat) : Int)) w := by kernel_rfl
theorem dig_9 (w : World) : (Instr.index 9 (.string ⟨#[48, 49, 50, 51, 52, 53, 54, 55, 56, 57, 97, 98, 99, 100, 101, 102]⟩) (.int .u64 ((9 : Nat) : Int))).run Try.prog w = .ok (.int .u8 ((hexc 9 : Nat) : Int)) w := by kernel_rfl
theorem dig_10 (w : World) : (Instr.index 9 (.string ⟨#[48, 49, 50, 51, 52, 53, 54, 55, 56, 57, 97, 98, 99, 100, 101, 102]⟩) (.int .u64 ((10 : Nat) : Int))).run Try.prog w = .ok (.int .u8 ((hexc 10 : Nat) : Int)) w := by kernel_rfl
theorem dig_11 (w : World) : (Instr.index 9 (.string ⟨#[48, 49, 50, 51, 52, 53, 54, 55, 56, 57, 97, 98, 99, 100, 101, 102]⟩) (.int .u64 ((11 : Nat) : Int))).run Try.prog w = .ok (.int .u8 ((hexc 11 : Nat) : Int)) w := by kernel_rfl
theorem dig_12 (w : World) : (Instr.index 9 (.string ⟨#[48, 49, 50, 51, 52, 53, 54, 55, 56, 57, 97, 98, 99, 100, 101, 102]⟩) (.int .u64 ((12 : Nat) : Int))).run Try.prog w = .ok (.int .u8 ((hexc 12 : Nat) : Int)) w := by kernel_rfl
theorem dig_13 (w : World) : (Instr.index 9 (.string ⟨#[48, 49, 50, 51, 52, 53, 54, 55, 56, 57, 97, 98, 99, 100, 101, 102]⟩) (.int .u64 ((13 : Nat) : Int))).run Try.prog w = .ok (.int .u8 ((hexc 13 : Nat) : Int)) w := by kernel_rfl
theorem dig_14 (w : World) : (Instr.index 9 (.string ⟨#[48, 49, 50, 51, 52, 53, 54, 55, 56, 57, 97, 98, 99, 100, 101, 102]⟩) (.int .u64 ((14 : Nat) : Int))).run Try.prog w = .ok (.int .u8 ((hexc 14 : Nat) : Int)) w := by kernel_rfl
theorem dig_15 (w : World) : (Instr.index 9 (.string ⟨#[48, 49, 50, 51, 52, 53, 54, 55, 56, 57, 97, 98, 99, 100, 101, 102]⟩) (.int .u64 ((15 : Nat) : Int))).run Try.prog w = .ok (.int .u8 ((hexc 15 : Nat) : Int)) w := by kernel_rfl
theorem dig_index (d : Nat) (h : d < 16) (w : World) :
    (Instr.index 9 (.string ⟨#[48, 49, 50, 51, 52, 53, 54, 55, 56, 57, 97, 98, 99, 100, 101, 102]⟩) (.int .u64 (d : Int))).run Try.prog w = .ok (.int .u8 ((hexc d : Nat) : Int)) w := by
  have hd : d = 0 ∨ d = 1 ∨ d = 2 ∨ d = 3 ∨ d = 4 ∨ d = 5 ∨ d = 6 ∨ d = 7 ∨ d = 8 ∨ d = 9 ∨ d = 10 ∨ d = 11 ∨ d = 12 ∨ d = 13 ∨ d = 14 ∨ d = 15 := by omega
  rcases hd with rfl | rfl | rfl | rfl | rfl | rfl | rfl | rfl | rfl | rfl | rfl | rfl | rfl | rfl | rfl | rfl
  · exact dig_0 w
  · exact dig_1 w
  · exact dig_2 w
  · exact dig_3 w
  · exact dig_4 w
  · exact dig_5 w
  · exact dig_6 w
  · exact dig_7 w
  · exact dig_8 w
  · exact dig_9 w
  · exact dig_10 w
  · exact dig_11 w
  · exact dig_12 w
  · exact dig_13 w
  · exact dig_14 w
  · exact dig_15 w

/-- A row of bytes that can be appended to: the call's own, or a literal that is full. -/
def TRow (B : Nat) (w : World) (v : Value) (xs : List Int) : Prop :=
  w.ownsRow B 5 1 v xs.length (nums .u8 xs) ∨
    ∃ g, B ≤ g ∧ g < w.heap.size ∧ xs.length ≤ 9223372036854775807 ∧ v = .slice (some ⟨g, 0, none⟩) xs.length xs.length ∧ ∀ j u, (nums .u8 xs)[j]? = some u → w.cell? ((⟨g, 0, none⟩ : Addr).add j) = some u

theorem TRow.below {B : Nat} {w w' : World} {v : Value} {xs : List Int} (h : TRow B w v xs) (hb : Below w.heap.size w w') : TRow B w' v xs := by
  rcases h with h | ⟨g, h1, h2, hm, h3, h4⟩
  · exact .inl (own_move h fun k hk => hb.block k (own_lt h k hk))
  · exact .inr ⟨g, h1, by have := hb.size; omega, hm, h3, fun j u hu => pw_cell_below hb (h4 j u hu)⟩

theorem Try.info8 : (Try.prog.info? 5).map (fun i => (i.zero, i.size, i.bytes)) = some (some (.int .u8 0), 1, 1) := by kernel_rfl

/-- 'out = append(out, x)' of one byte. -/
theorem wpList_tappend {ops : Array Oper} {rest : List Oper} {o : Oper} {a : Act} {w : World} {Q : Exit → Act → World → Prop} (hg : o.guard = none) (s x : Operand)
    (ho : o.op = .call { callee := .builtin .append, args := #[s, x], argTypes := #[84, 84] })
    (B : Nat) (v : Value) (xs : List Int) (hs : a.eval s = v) (hr : TRow B w v xs) (hB : B ≤ w.heap.size) (hl : xs.length < 140737488355328) (ad : Addr) (c : Nat) (b : Int)
    (hx : a.eval x = .slice (some ad) 1 c) (hnew : ∀ j u, ([.int .u8 b] : List Value)[j]? = some u → w.cell? (ad.add j) = some u)
    (h : ∀ v' w', w'.ownsRow B 5 1 v' (xs ++ [b]).length (nums .u8 (xs ++ [b])) → Below B w w' → wpList Try.prog ops Q rest (a.put o.dst v') w') :
    wpList Try.prog ops Q (o :: rest) a w := by
  obtain ⟨i0, hi, hz0, hz1, hz2⟩ := info_parts Try.info8
  have e1 : (xs ++ [b]).length = xs.length + 1 := by simp
  have e2 : nums .u8 (xs ++ [b]) = nums .u8 xs ++ [.int .u8 b] := by simp [nums]
  rcases hr with hr | ⟨g, h1, h2, hm, h3, h4⟩
  · refine wpList_append_own _ hg s x 84 ho B 5 i0 (.int .u8 0) 1 1 Try.underlying84 hi hz0 hz1 hz2 rfl (by decide) v _ _ hs hr ad 1 c [.int .u8 b] hx rfl hnew (by simp [Value.oneCell']) (by unfold maxLen; omega) (by omega) hB ?_
    intro v' w' o1 g1 _
    rw [← e1, ← e2] at o1
    exact h v' w' o1 ((Below.refl _ _).grown g1 hB (own_base hr))
  · subst h3
    refine wpList_append_grows _ hg s x 84 ho 5 i0 (.int .u8 0) 1 1 Try.underlying84 hi hz0 hz1 hz2 rfl (by decide) (some ⟨g, 0, none⟩) _ _ (nums .u8 xs) hs (by simp) (by simp [nums]) (fun b' hb' => by cases hb'; exact h4) ad 1 c [.int .u8 b] hx rfl hnew (by simp [Value.oneCell']) (by omega) (by unfold maxLen; omega) (by omega) ?_
    intro v' w' o1 g1
    rw [← e1, ← e2] at o1
    exact h v' w' (own_weaken o1 hB) ((Below.refl _ _).grown g1 hB (by simp))


def textGo (n : Nat) : Nat → Bool → List Int → List Int
  | 0, _, acc => acc
  | j + 1, b, acc => if (b || decide (0 < n / 16 ^ j % 16) || decide (j = 0)) = true then textGo n j true (acc ++ [((hexc (n / 16 ^ j % 16) : Nat) : Int)]) else textGo n j false acc

def TRel (w : World) (n : Nat) (L : List Int) (v3 v4 v5 : Value) (wr : World) : Prop :=
  ∃ (k : Nat) (m : Int) (b : Bool) (xs : List Int), TRow w.heap.size wr v3 xs ∧ v4 = .bool b ∧ v5 = .int .i64 m ∧ m = 4 * (k : Int) - 4 ∧ k ≤ 16 ∧ xs.length + k ≤ 18 ∧ textGo n k b xs = L ∧ Below w.heap.size w wr

theorem pow16 (j : Nat) : 2 ^ (4 * j) = 16 ^ j := by rw [Nat.pow_mul]

theorem nib (n j : Nat) (hn : n < 18446744073709551616) (hj : j ≤ 15) (m : Int) (hm : m = 4 * (j : Int)) :
    bits .and .u64 ((n : Int) / 2 ^ m.toNat) 15 = ((n / 16 ^ j % 16 : Nat) : Int) := by
  have e : m.toNat = 4 * j := by omega
  have h2 : ((n : Int) / 2 ^ m.toNat) = ((n / 16 ^ j : Nat) : Int) := by
    rw [e, ← pow16, Int.natCast_ediv]
    congr 1
  have hle : n / 16 ^ j ≤ n := Nat.div_le_self _ _
  rw [h2, show (15 : Int) = ((15 : Nat) : Int) from rfl, u64_and_nat _ _ (by omega) (by omega), nat_mask4]

theorem go_add {n j d : Nat} {b : Bool} {xs L : List Int} (h : textGo n (j + 1) b xs = L) (hd : n / 16 ^ j % 16 = d) (hc : b = true ∨ 0 < d ∨ j = 0) :
    textGo n j true (xs ++ [((hexc d : Nat) : Int)]) = L := by
  simp only [textGo, hd] at h
  rw [if_pos (by simp; rcases hc with hc | hc | hc <;> simp [hc])] at h
  exact h
theorem go_pass {n j d : Nat} {b : Bool} {xs L : List Int} (h : textGo n (j + 1) b xs = L) (hd : n / 16 ^ j % 16 = d) (hb : b = false) (h0 : d = 0) (hj : ¬ j = 0) :
    textGo n j false xs = L := by
  simp only [textGo, hd] at h
  rw [if_neg (by simp [hb, h0, hj])] at h
  exact h

theorem TRow.string {B : Nat} {w : World} {v : Value} {xs : List Int} (h : TRow B w v xs) : (convert 84 9 v).run Try.prog w = .ok (.string (strOfNums xs)) w := by
  rcases h with h | ⟨g, h1, h2, hm, h3, h4⟩
  · exact own_string Try.underlying84 Try.underlying5 Try.underlying9 h
  · subst h3
    refine string_of_reads Try.underlying84 Try.underlying5 Try.underlying9 ⟨rfl, hm, fun hp => ⟨_, rfl, fun j hj => h4 j _ ?_⟩⟩
    simp [nums, List.getElem?_eq_getElem hj, List.getD_eq_getElem?_getD]

set_option maxHeartbeats 1000000 in
theorem text_walk (n : Nat) (hn : n < 18446744073709551616) (w : World) :
    Calls Try.prog 39 #[.int .u64 n] w fun e w' => e = .returned (.string (strOfNums (textGo n 16 false [48, 120]))) ∧ Below w.heap.size w w' := by
  have kc := fun (w : World) (C : Array Value) (n c : Nat) => Lib.run_convert_bytes_const (P := Try.prog) w 84 5 C n c Try.underlying84 Try.underlying5
  obtain ⟨L, hL⟩ : ∃ L, textGo n 16 false [48, 120] = L := ⟨_, rfl⟩
  rw [hL]
  have HL := Lib.hid hL
  clear hL
  go_enter Try.func39, Try.ntmps39
  go_wp2
  clear kc
  go_loopw [3, 4, 5] (fun v3 v4 v5 wr => TRel w n L v3 v4 v5 wr) (fun _ _ i _ => (intOf i + 4).toNat)
  case atStart =>
    refine ⟨16, 60, false, [48, 120], .inr ⟨w.heap.size, Nat.le_refl _, by simp, by simp, rfl, ?_⟩, rfl, rfl, by omega, by omega, by simp, HL.out, (Below.refl _ _).alloc (Nat.le_refl _) _⟩
    intro j u hu
    match j, hu with
    | 0, hu => simp [nums] at hu; subst hu; exact World.cell?_alloc_mark _ _ _ _ 0
    | 1, hu => simp [nums] at hu; subst hu; exact World.cell?_alloc_mark _ _ _ _ 1
    | j + 2, hu => simp [nums] at hu
  case round =>
    obtain ⟨k, m, b, xs, hrow, rfl, rfl, hm, hk, hlen, hgo, hb⟩ := hrel
    have HBW := Lib.hid hb
    clear hb
    by_cases h0 : 0 ≤ m
    · have h60 : m ≤ 60 := by omega
      obtain ⟨j, rfl⟩ : ∃ j, k = j + 1 := ⟨k - 1, by omega⟩
      have hj : j ≤ 15 := by omega
      have hd := nib n j hn hj m (by omega)
      obtain ⟨d, hde⟩ : ∃ d, n / 16 ^ j % 16 = d := ⟨_, rfl⟩
      have hd16 : d < 16 := by omega
      rw [hde] at hd
      have hix := fun w => dig_index d hd16 w
      have HD := Lib.hid hde
      have HM := Lib.hid hm
      have HG := Lib.hid hgo
      have HR := Lib.hid hrow
      have HH := Lib.hid hlen
      clear hm hgo hrow hde hlen hk
      cases b with
      | true =>
        go_wp2_with (at_builtin; go_must (refine wpList_tappend rfl (.tmp 27) (.tmp 30) rfl w.heap.size _ xs rfl (HR.out.below (Below.alloc (Below.refl _ _) (Nat.le_refl _) _)) (by have := HBW.out.size; simp; omega) (by have := HH.out; omega) ⟨wr.heap.size, 0, none⟩ 1 ((hexc d : Nat) : Int) rfl (cell_one_new _ _ _) ?_); intro v' w1 ho hb1; have HO := Lib.hid ho; have HB1 := Lib.hid hb1; clear ho hb1)
        go_roundw
        case rel => exact ⟨j, m - 4, true, _, .inl HO.out, rfl, rfl, by have := HM.out; omega, by omega, by have := HH.out; simp; omega, go_add HG.out HD.out (.inl rfl), HBW.out.trans ((Below.alloc (Below.refl _ _) HBW.out.size _).trans HB1.out)⟩
        case measure => simp [intOf]; omega
      | false =>
        by_cases hd0 : 0 < d
        · go_wp2_with (at_builtin; go_must (refine wpList_tappend rfl (.tmp 27) (.tmp 30) rfl w.heap.size _ xs rfl (HR.out.below (Below.alloc (Below.refl _ _) (Nat.le_refl _) _)) (by have := HBW.out.size; simp; omega) (by have := HH.out; omega) ⟨wr.heap.size, 0, none⟩ 1 ((hexc d : Nat) : Int) rfl (cell_one_new _ _ _) ?_); intro v' w1 ho hb1; have HO := Lib.hid ho; have HB1 := Lib.hid hb1; clear ho hb1)
          go_roundw
          case rel => exact ⟨j, m - 4, true, _, .inl HO.out, rfl, rfl, by have := HM.out; omega, by omega, by have := HH.out; simp; omega, go_add HG.out HD.out (.inr (.inl hd0)), HBW.out.trans ((Below.alloc (Below.refl _ _) HBW.out.size _).trans HB1.out)⟩
          case measure => simp [intOf]; omega
        · obtain rfl : d = 0 := by omega
          clear hd0 hd16
          replace hd : bits .and .u64 ((n : Int) / 2 ^ m.toNat) 15 = 0 := hd
          replace hix : ∀ w, (Instr.index 9 (.string ⟨#[48, 49, 50, 51, 52, 53, 54, 55, 56, 57, 97, 98, 99, 100, 101, 102]⟩) (.int .u64 0)).run Try.prog w = .ok (.int .u8 ((hexc 0 : Nat) : Int)) w := hix
          by_cases hm0 : m = 0
          · have hm1 : (m == 0) = true := by simpa using hm0
            have HM0 := Lib.hid hm0
            clear hm0
            go_wp2_with (at_builtin; go_must (refine wpList_tappend rfl (.tmp 27) (.tmp 30) rfl w.heap.size _ xs rfl (HR.out.below (Below.alloc (Below.refl _ _) (Nat.le_refl _) _)) (by have := HBW.out.size; simp; omega) (by have := HH.out; omega) ⟨wr.heap.size, 0, none⟩ 1 ((hexc 0 : Nat) : Int) rfl (cell_one_new _ _ _) ?_); intro v' w1 ho hb1; have HO := Lib.hid ho; have HB1 := Lib.hid hb1; clear ho hb1)
            go_roundw
            case rel => exact ⟨j, m - 4, true, _, .inl HO.out, rfl, rfl, by have := HM.out; omega, by omega, by have := HH.out; simp; omega, go_add HG.out HD.out (.inr (.inr (by have := HM.out; have := HM0.out; omega))), HBW.out.trans ((Below.alloc (Below.refl _ _) HBW.out.size _).trans HB1.out)⟩
            case measure => simp [intOf]; omega
          · have hm1 : (m == 0) = false := by simpa using hm0
            go_wp2
            go_roundw
            case rel => exact ⟨j, m - 4, false, xs, HR.out, rfl, rfl, by have := HM.out; omega, by omega, by have := HH.out; omega, go_pass HG.out HD.out rfl rfl (by have := HM.out; omega), HBW.out⟩
            case measure => simp [intOf]; omega
    · obtain rfl : k = 0 := by omega
      have hst := hrow.string
      have HG := Lib.hid hgo
      clear hgo hrow hm
      go_wp2
      go_ret
      exact ⟨by rw [← HG.out]; rfl, HBW.out⟩

/-- What word.Text answers. -/
def word_Text.f (a0 : Int) : Option ByteArray := if 0 ≤ a0 ∧ a0 < 18446744073709551616 then some (strOfNums (textGo a0.toNat 16 false [48, 120])) else none

theorem word_Text.calls (a0 : Int) (r : ByteArray) (w : World) (h : word_Text.f a0 = some r) :
    Calls Try.prog 39 #[.int .u64 a0] w fun e w' => e = .returned (.string r) ∧ Below w.heap.size w w' := by
  unfold word_Text.f at h
  split at h
  · rename_i hh
    obtain ⟨n, rfl⟩ := Int.eq_ofNat_of_zero_le hh.1
    have hr := Option.some.inj h
    subst hr
    exact text_walk n (by omega) w
  · simp at h
end Go.Proofs.Ythdkgpmpopjnaaa.H
