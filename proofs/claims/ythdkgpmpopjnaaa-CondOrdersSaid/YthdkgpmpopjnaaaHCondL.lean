/-
The reference's Parse of a condition answers as cond.Parse does; the laws CondTexts and CondBack.
-/
import Derived.Test.YthdkgpmpopjnaaaHCondM
import Derived.Test.YthdkgpmpopjnaaaCx3
set_option linter.unusedVariables false
set_option linter.unusedSimpArgs false
namespace Go.Proofs.Ythdkgpmpopjnaaa.H
open Go.RowKit Go.Proofs.Ythdkgpmpopjnaaa.C Go.Proofs.YthdkgpmpopjnaaaW.PrintWords

theorem list_size (s : ByteArray) : s.data.toList.length = s.size := by simp
theorem extract_list (s : ByteArray) (i j : Nat) (A R : List UInt8) (h : s.data.toList.drop i = A ++ R) (hj : j = i + A.length) : (s.extract i j).data.toList = A := by
  subst hj
  rw [ByteArray.data_extract, Array.toList_extract]
  simp only [List.extract_eq_take_drop]
  rw [h]
  simp
theorem w64 (n : Nat) (h : n ≤ 100000) : wrap64 ((n : Int) + 1) = ((n + 1 : Nat) : Int) := by unfold wrap64; omega
/-- part, from a place within the text on. -/
theorem part_l0 (s : ByteArray) (hs : s.size ≤ 1000) (i : Nat) (hi : i < s.size) (A R : List UInt8) (hA : (32 : UInt8) ∉ A) (hR : R = [] ∨ ∃ Q, R = 32 :: Q) :
    ∀ (k t : Nat), i ≤ t → s.data.toList.drop t = A ++ R → t + A.length ≤ s.size → A.length < k → hurdleref08_part.l0 k s (i : Int) (t : Int) = some (s.extract i (t + A.length), ((t + A.length + 1 : Nat) : Int)) := by
  induction A with
  | nil =>
    intro k t hit hd ht hk
    obtain ⟨k, rfl⟩ : ∃ m, k = m + 1 := ⟨k - 1, by omega⟩
    simp only [hurdleref08_part.l0]
    simp only [List.length_nil, Nat.add_zero, List.nil_append] at hd ht ⊢
    have fin : (if (i : Int) ≥ (s.size : Int) then some ((⟨#[]⟩ : ByteArray), (i : Int)) else (if 0 ≤ (i : Int) then (if (i : Int) ≤ (t : Int) then (if (t : Int) ≤ (s.size : Int) then (some (s.extract (i : Int).toNat (t : Int).toNat, wrap64 ((t : Int) + 1))) else (none)) else (none)) else (none))) = some (s.extract i t, ((t + 1 : Nat) : Int)) := by
      rw [if_neg (by omega), if_pos (by omega), if_pos (by omega), if_pos (by omega), w64 t (by omega)]
      rfl
    by_cases hlt : (t : Int) < (s.size : Int)
    · obtain ⟨c, hc, hd2⟩ := bt_drop s t (by omega)
      rw [if_pos hlt, if_pos (by omega)]
      rw [hd] at hd2
      rcases hR with rfl | ⟨Q, rfl⟩
      · simp at hd2
      · have : c = 32 := by injection hd2 with e _; exact e.symm
        subst this
        rw [if_pos (by rw [hc]; rfl)]
        exact fin
    · rw [if_neg hlt]
      exact fin
  | cons a A ih =>
    intro k t hit hd ht hk
    obtain ⟨k, rfl⟩ : ∃ m, k = m + 1 := ⟨k - 1, by omega⟩
    simp only [hurdleref08_part.l0]
    simp only [List.length_cons] at ht hk
    obtain ⟨c, hc, hd2⟩ := bt_drop s t (by omega)
    rw [hd, List.cons_append] at hd2
    injection hd2 with e1 e2
    subst e1
    rw [if_pos (by omega), if_pos (by omega), if_neg, w64 t (by omega), ih (fun hm => hA (List.mem_cons_of_mem _ hm)) k (t + 1) (by omega) e2.symm (by omega) (by omega)]
    · simp only [List.length_cons]
      rw [show t + 1 + A.length = t + (A.length + 1) by omega]
    · rw [hc]
      intro e
      exact hA (by
        have : a = 32 := UInt8.toNat_inj.1 (by show a.toNat = 32; omega)
        subst this
        exact List.mem_cons_self)
theorem part_word (s : ByteArray) (hs : s.size ≤ 1000) (i : Nat) (A R : List UInt8) (hA : (32 : UInt8) ∉ A) (hR : R = [] ∨ ∃ Q, R = 32 :: Q) (hd : s.data.toList.drop i = A ++ R) (hne : A ++ R ≠ []) (k : Nat) (hk : 1000 < k) :
    ∃ p, hurdleref08_part.f k s (i : Int) = some (p, ((i + A.length + 1 : Nat) : Int)) ∧ p.data.toList = A ∧ i + A.length ≤ s.size := by
  have hl := congrArg List.length hd
  have hi : i < s.size := by
    rw [← list_size]
    by_cases h : i < s.data.toList.length
    · exact h
    · rw [List.drop_eq_nil_of_le (by omega)] at hd; exact absurd hd.symm hne
  rw [List.length_drop, List.length_append, list_size] at hl
  exact ⟨_, part_l0 s hs i hi A R hA hR k i (by omega) hd (by omega) (by omega), extract_list s _ _ A R hd rfl, by omega⟩
/-- part answers, wherever it begins. -/
theorem part_total (s : ByteArray) (hs : s.size ≤ 1000) (i : Nat) (hi : i ≤ s.size + 1) (k : Nat) (hk : 1000 < k) :
    ∃ p, ∃ j : Nat, hurdleref08_part.f k s (i : Int) = some (p, (j : Int)) ∧ j ≤ s.size + 1 := by
  by_cases h : i < s.size
  · have hne : s.data.toList.drop i ≠ [] := by
      intro e; have := congrArg List.length e; rw [List.length_drop, list_size] at this; simp at this; omega
    rcases cut_parts (s.data.toList.drop i) with ⟨h1, _⟩ | ⟨A, R, h1, h2, _⟩
    · obtain ⟨p, hp, _, hb⟩ := part_word s hs i _ [] h1 (.inl rfl) (List.append_nil _).symm (by simpa using hne) k hk
      exact ⟨p, _, hp, by omega⟩
    · obtain ⟨p, hp, _, hb⟩ := part_word s hs i A _ h2 (.inr ⟨R, rfl⟩) h1 (by simp) k hk
      exact ⟨p, _, hp, by omega⟩
  · obtain ⟨k, rfl⟩ : ∃ m, k = m + 1 := ⟨k - 1, by omega⟩
    refine ⟨⟨#[]⟩, i, ?_, hi⟩
    unfold hurdleref08_part.f
    simp only [hurdleref08_part.l0]
    rw [if_neg (by omega), if_pos (by omega)]

def WLs : List ByteArray := [(⟨#[101, 113]⟩ : ByteArray), (⟨#[110, 101]⟩ : ByteArray), (⟨#[108, 116]⟩ : ByteArray), (⟨#[108, 101]⟩ : ByteArray), (⟨#[103, 116]⟩ : ByteArray), (⟨#[103, 101]⟩ : ByteArray)]
theorem rd_words (c : Nat) (hc : c < 6) : rdOf ByteArray.empty WLs (c : Int) = wordK c := by
  rcases (by omega : c = 0 ∨ c = 1 ∨ c = 2 ∨ c = 3 ∨ c = 4 ∨ c = 5) with rfl | rfl | rfl | rfl | rfl | rfl <;> rfl
def goodB (s p : ByteArray) (m v a c : Nat) : Bool := decide (p.data.toList = WL c) && decide (CT a c m v = s.data.toList)
theorem right_nat (a c : Nat) (ha : a < 6) (hc : c < 6) : rightB (a : Int) (c : Int) = true := by rw [rightB_iff]; omega
theorem print_at (a c m v : Nat) (ha : a < 6) (hc : c < 6) (hm : m < 18446744073709551616) (hv : v < 18446744073709551616) : H.hurdleref08_Print.f (a : Int) (c : Int) (m : Int) (v : Int) = some (condText a c (m : Int) (v : Int)) := by
  unfold H.hurdleref08_Print.f
  rw [if_pos ⟨right_nat a c ha hc, by unfold u64P; omega, by unfold u64P; omega⟩]
  try rfl
theorem l1_step (s p : ByteArray) (m v a c n : Nat) (ha : a < 6) (hc : c < 6) (hm : m < 18446744073709551616) (hv : v < 18446744073709551616) :
    hurdleref08_Parse.l1 (n + 1) s p (m : Int) (v : Int) (a : Int) (c : Int) = if goodB s p m v a c = true then some ((a : Int), (c : Int), (m : Int), (v : Int), true) else hurdleref08_Parse.l1 n s p (m : Int) (v : Int) (a : Int) ((c + 1 : Nat) : Int) := by
  simp only [hurdleref08_Parse.l1]
  rw [if_pos (by omega), show hurdleref08_Words.f = some WLs from rfl, Option.bind_some, if_pos (by omega), if_pos (by rw [show WLs.length = 6 from rfl]; omega), rd_words c hc, print_at a c m v ha hc hm hv, Option.bind_some, w64 c (by omega)]
  unfold goodB
  rw [ByteArray.toList_eq, ByteArray.toList_eq, ByteArray.toList_eq, ByteArray.toList_eq, condText_list]
  by_cases h1 : p.data.toList = (wordK c).data.toList
  · rw [if_pos h1]
    by_cases h2 : CT a c m v = s.data.toList
    · rw [if_pos h2, if_pos (by rw [Bool.and_eq_true]; exact ⟨decide_eq_true h1, decide_eq_true h2⟩)]
    · rw [if_neg h2, if_neg (by rw [Bool.and_eq_true]; exact fun h => h2 (of_decide_eq_true h.2))]
  · rw [if_neg h1, if_neg (by rw [Bool.and_eq_true]; exact fun h => h1 (of_decide_eq_true h.1))]
theorem l1_none (s p : ByteArray) (m v a : Nat) (ha : a < 6) (hm : m < 18446744073709551616) (hv : v < 18446744073709551616) (hg : ∀ c, c < 6 → goodB s p m v a c = false) :
    ∀ (d n c : Nat), c + d = 6 → hurdleref08_Parse.l1 (n + d + 1) s p (m : Int) (v : Int) (a : Int) (c : Int) = hurdleref08_Parse.l0 n s p (m : Int) (v : Int) ((a + 1 : Nat) : Int) := by
  intro d
  induction d with
  | zero =>
    intro n c hc
    simp only [hurdleref08_Parse.l1]
    rw [if_neg (by omega), w64 a (by omega)]
    try rfl
  | succ d ih =>
    intro n c hc
    rw [l1_step s p m v a c _ ha (by omega) hm hv, hg c (by omega), if_neg (by decide), show n + (d + 1) = n + d + 1 by omega]
    exact ih n (c + 1) (by omega)
theorem l1_found (s p : ByteArray) (m v a c0 : Nat) (ha : a < 6) (hc0 : c0 < 6) (hm : m < 18446744073709551616) (hv : v < 18446744073709551616) (hg : goodB s p m v a c0 = true) (hu : ∀ c, c < 6 → goodB s p m v a c = true → c = c0) :
    ∀ (d n c : Nat), c + d = c0 → hurdleref08_Parse.l1 (n + d + 1) s p (m : Int) (v : Int) (a : Int) (c : Int) = some ((a : Int), (c0 : Int), (m : Int), (v : Int), true) := by
  intro d
  induction d with
  | zero =>
    intro n c hc
    obtain rfl : c = c0 := by omega
    rw [l1_step s p m v a c _ ha hc0 hm hv, hg, if_pos rfl]
  | succ d ih =>
    intro n c hc
    have hn : ¬ goodB s p m v a c = true := fun h => by have := hu c (by omega) h; omega
    rw [l1_step s p m v a c _ ha (by omega) hm hv, if_neg hn, show n + (d + 1) = n + d + 1 by omega]
    exact ih n (c + 1) (by omega)
theorem l0_none (s p : ByteArray) (m v : Nat) (hm : m < 18446744073709551616) (hv : v < 18446744073709551616) (hg : ∀ a c, a < 6 → c < 6 → goodB s p m v a c = false) :
    ∀ (d n a : Nat), a + d = 6 → hurdleref08_Parse.l0 (n + 8 * d + 1) s p (m : Int) (v : Int) (a : Int) = some (0, 0, 0, 0, false) := by
  intro d
  induction d with
  | zero =>
    intro n a ha
    simp only [hurdleref08_Parse.l0]
    rw [if_neg (by omega)]
  | succ d ih =>
    intro n a ha
    simp only [hurdleref08_Parse.l0]
    rw [if_pos (by omega), show n + 8 * (d + 1) = (n + 8 * d + 1) + 6 + 1 by omega]
    exact (l1_none s p m v a (by omega) hm hv (fun c hc => hg a c (by omega) hc) 6 _ 0 (by omega)).trans (ih n (a + 1) (by omega))
theorem l0_found (s p : ByteArray) (m v a0 c0 : Nat) (ha0 : a0 < 6) (hc0 : c0 < 6) (hm : m < 18446744073709551616) (hv : v < 18446744073709551616) (hg : goodB s p m v a0 c0 = true) (hu : ∀ a c, a < 6 → c < 6 → goodB s p m v a c = true → a = a0 ∧ c = c0) :
    ∀ (d n a : Nat), a + d = a0 → hurdleref08_Parse.l0 (n + 8 * d + 8) s p (m : Int) (v : Int) (a : Int) = some ((a0 : Int), (c0 : Int), (m : Int), (v : Int), true) := by
  intro d
  induction d with
  | zero =>
    intro n a ha
    obtain rfl : a = a0 := by omega
    simp only [hurdleref08_Parse.l0]
    rw [if_pos (by omega), show n + 8 * 0 + 7 = (n + (6 - c0)) + c0 + 1 by omega]
    exact l1_found s p m v a c0 ha0 hc0 hm hv hg (fun c hc h => (hu a c ha0 hc h).2) c0 _ 0 (by omega)
  | succ d ih =>
    intro n a ha
    simp only [hurdleref08_Parse.l0]
    have hn : ∀ c, c < 6 → goodB s p m v a c = false := fun c hc => Bool.eq_false_iff.2 (fun h => by have := (hu a c (by omega) hc h).1; omega)
    rw [if_pos (by omega), show n + 8 * (d + 1) + 7 = (n + 8 * d + 8) + 6 + 1 by omega]
    exact (l1_none s p m v a (by omega) hm hv hn 6 _ 0 (by omega)).trans (ih n (a + 1) (by omega))
def refParseI : Option (Nat × Nat × Nat × Nat) → Int × Int × Int × Int × Bool
  | some (a, k, m, v) => ((a : Int), (k : Int), (m : Int), (v : Int), true)
  | none => (0, 0, 0, 0, false)
theorem parse_num (p : ByteArray) : ∃ n : Nat, ∃ b, n < 18446744073709551616 ∧ H.hurdleref01_Parse.f p = some ((n : Int), b) := by
  unfold H.hurdleref01_Parse.f
  cases h : parseL p.data.toList with
  | none => exact ⟨0, false, by omega, rfl⟩
  | some n => exact ⟨n, true, parseL_lt h, rfl⟩
theorem drop_step {l A Q : List UInt8} {i : Nat} (h : l.drop i = A ++ 32 :: Q) : l.drop (i + A.length + 1) = Q := by
  rw [show i + A.length + 1 = i + (A.length + 1) by omega, ← List.drop_drop, h]
  simp
theorem good_none {s p : ByteArray} {m v : Nat} (hm : m < 18446744073709551616) (hv : v < 18446744073709551616) (h : condParse s.data.toList = none) (a c : Nat) (ha : a < 6) (hc : c < 6) : goodB s p m v a c = false := by
  refine Bool.eq_false_iff.2 (fun hg => ?_)
  unfold goodB at hg
  rw [Bool.and_eq_true] at hg
  rw [← of_decide_eq_true hg.2, condParse_text a c m v ha hc hm hv] at h
  simp at h
theorem refParse_eq (s : ByteArray) (hs : s.size ≤ 1000) (k : Nat) (hk : 1000 < k) : hurdleref08_Parse.f k s = some (refParseI (condParse s.data.toList)) := by
  unfold hurdleref08_Parse.f
  cases hp : condParse s.data.toList with
  | none =>
    obtain ⟨p1, i1, e1, b1⟩ := part_total s hs 0 (by omega) k hk
    obtain ⟨p2, i2, e2, b2⟩ := part_total s hs i1 b1 k hk
    obtain ⟨p3, i3, e3, b3⟩ := part_total s hs i2 b2 k hk
    obtain ⟨p4, i4, e4, b4⟩ := part_total s hs i3 b3 k hk
    obtain ⟨m, b, hm, e5⟩ := parse_num p2
    obtain ⟨v, b', hv, e6⟩ := parse_num p4
    rw [show (0 : Int) = ((0 : Nat) : Int) from rfl, e1, Option.bind_some, e2, Option.bind_some, e3, Option.bind_some, e4, Option.bind_some, e5, Option.bind_some, e6, Option.bind_some]
    obtain ⟨n, rfl⟩ : ∃ n, k = n + 8 * 6 + 1 := ⟨k - 49, by omega⟩
    exact l0_none s p3 m v hm hv (fun a c ha hc => good_none hm hv hp a c ha hc) 6 n 0 (by omega)
  | some x =>
    obtain ⟨a, c, m, v⟩ := x
    obtain ⟨hl, ha, hc, hm, hv⟩ := text_condParse hp
    have d0 : s.data.toList.drop 0 = [97, UInt8.ofNat (48 + a)] ++ 32 :: (TL m ++ 32 :: (WL c ++ 32 :: TL v)) := by rw [hl]; rfl
    obtain ⟨p1, e1, _, _⟩ := part_word s hs 0 _ _ (arg_no32 a ha) (.inr ⟨_, rfl⟩) d0 (by simp) k hk
    have d1 := drop_step d0
    obtain ⟨p2, e2, l2, _⟩ := part_word s hs _ _ _ (TL_no32 m hm) (.inr ⟨_, rfl⟩) d1 (by simp) k hk
    have d2 := drop_step d1
    obtain ⟨p3, e3, l3, _⟩ := part_word s hs _ _ _ (WL_no32 c hc) (.inr ⟨_, rfl⟩) d2 (by simp) k hk
    have d3 := drop_step d2
    obtain ⟨p4, e4, l4, _⟩ := part_word s hs _ (TL v) [] (TL_no32 v hv) (.inl rfl) (d3.trans (List.append_nil _).symm) (by simp [TL, textL, u8s]) k hk
    have e5 : H.hurdleref01_Parse.f p2 = some ((m : Int), true) := by
      unfold H.hurdleref01_Parse.f
      rw [l2]; unfold TL; rw [parse_text m hm]
    have e6 : H.hurdleref01_Parse.f p4 = some ((v : Int), true) := by
      unfold H.hurdleref01_Parse.f
      rw [l4]; unfold TL; rw [parse_text v hv]
    rw [show (0 : Int) = ((0 : Nat) : Int) from rfl, e1, Option.bind_some, e2, Option.bind_some, e3, Option.bind_some, e4, Option.bind_some, e5, Option.bind_some, e6, Option.bind_some]
    obtain ⟨n, rfl⟩ : ∃ n, k = n + 8 * a + 8 := ⟨k - 8 * a - 8, by omega⟩
    refine l0_found s p3 m v a c ha hc hm hv ?_ ?_ a n 0 (by omega)
    · unfold goodB
      rw [Bool.and_eq_true]
      exact ⟨decide_eq_true l3, decide_eq_true hl.symm⟩
    · intro a' c' ha' hc' hg
      unfold goodB at hg
      rw [Bool.and_eq_true] at hg
      have h2 := of_decide_eq_true hg.2
      rw [← h2, condParse_text a' c' m v ha' hc' hm hv] at hp
      have := Option.some.inj hp
      simp only [Prod.mk.injEq] at this
      exact ⟨this.1, this.2.1⟩
theorem knows_some : H.hurdlelaw08_knows.f = some true := rfl
theorem textB_nat (a c m v : Nat) (hm : m < 18446744073709551616) (hv : v < 18446744073709551616) : (condText a c (m : Int) (v : Int)).size ≤ 1000 := by
  rw [← list_size, condText_list]
  have h1 := textB_size (m : Int) (by unfold u64P; omega)
  have h2 := textB_size (v : Int) (by unfold u64P; omega)
  have e1 : (TL m).length = (textB (m : Int)).size := by
    rw [← list_size]; unfold textB TL; rw [strOfNums_data]; rfl
  have e2 : (TL v).length = (textB (v : Int)).size := by
    rw [← list_size]; unfold textB TL; rw [strOfNums_data]; rfl
  have h3 : (WL c).length = 2 := by have := wordK_size c; rw [← list_size] at this; exact this
  unfold CT
  simp only [List.length_append, List.length_cons, List.length_nil]
  omega
theorem condParse_eq (s : ByteArray) (hs : s.size ≤ 1000) : H.cond_Parse.f s = some (parseI (condParse s.data.toList)) := by
  unfold H.cond_Parse.f
  rw [if_pos (by omega)]
theorem CondTexts_true (a c m v : Int) (s : ByteArray) (hm : u64P m) (hv : u64P v) : hurdlelaw08_CondTexts.f 1100 a c m v s = some true := by
  unfold hurdlelaw08_CondTexts.f
  by_cases hs : (s.size : Int) > 1000
  · rw [if_pos hs, knows_some]; rfl
  · rw [if_neg hs, condParse_eq s (by omega), refParse_eq s (by omega) 1100 (by omega)]
    have e1 : H.cond_Print.f a c m v = some (printR a c m v) := by unfold H.cond_Print.f; rw [if_pos ⟨hm, hv⟩]
    rw [e1]
    have fin : hurdlelaw08_CondTexts.j0 1100 (printR a c m v).1 (printR a c m v).2 false a c m v = some true := by
      simp only [hurdlelaw08_CondTexts.j0]
      have e2 : hurdleref08_Right.f a c m v = some (rightB a c) := by
        unfold hurdleref08_Right.f
        have := rightB_iff a c
        cases h : rightB a c with
        | true =>
          rw [h] at this
          obtain ⟨h1, h2⟩ := this.1 rfl
          rw [if_pos (by omega), if_pos (by omega), if_pos (by omega)]
          exact congrArg some (decide_eq_true (by omega))
        | false =>
          rw [h] at this
          have hn : ¬ ((0 ≤ a ∧ a < 6) ∧ 0 ≤ c ∧ c ≤ 5) := fun hh => by have := this.2 hh; simp at this
          by_cases g1 : a ≥ 0
          · rw [if_pos g1]
            by_cases g2 : a ≤ 5
            · rw [if_pos g2]
              by_cases g3 : c ≥ 0
              · rw [if_pos g3]
                exact congrArg some (decide_eq_false (by omega))
              · rw [if_neg g3]
            · rw [if_neg g2]
          · rw [if_neg g1]
      rw [e2, if_neg (by decide), Option.bind_some]
      unfold printR
      cases h : rightB a c with
      | true =>
        have e3 : H.hurdleref08_Print.f a c m v = some (condText a.toNat c.toNat m v) := by unfold H.hurdleref08_Print.f; rw [if_pos ⟨h, hm, hv⟩]
        simp [e3, knows_some]
      | false =>
        simp [knows_some, ByteArray.toList_eq]
    cases hp : condParse s.data.toList with
    | none => simpa [parseI, refParseI] using fin
    | some x =>
      obtain ⟨a', c', m', v'⟩ := x
      simpa [parseI, refParseI] using fin
theorem CondBack_true (a c m v : Int) (s : ByteArray) (hm : u64P m) (hv : u64P v) : hurdlelaw08_CondBack.f 1100 a c m v s = some true := by
  unfold hurdlelaw08_CondBack.f
  by_cases hs : (s.size : Int) > 1000
  · rw [if_pos hs, knows_some]; rfl
  · have e1 : H.cond_Print.f a c m v = some (printR a c m v) := by unfold H.cond_Print.f; rw [if_pos ⟨hm, hv⟩]
    rw [if_neg hs, e1, Option.bind_some]
    have fin : hurdlelaw08_CondBack.j0 1100 s = some true := by
      simp only [hurdlelaw08_CondBack.j0]
      rw [condParse_eq s (by omega), Option.bind_some]
      cases hp : condParse s.data.toList with
      | none => simp [parseI, knows_some]
      | some x =>
        obtain ⟨a', c', m', v'⟩ := x
        obtain ⟨hl, ha, hc, hm', hv'⟩ := text_condParse hp
        have hr := right_nat a' c' ha hc
        have e2 : H.cond_Print.f (a' : Int) (c' : Int) (m' : Int) (v' : Int) = some (condText a' c' (m' : Int) (v' : Int), 0) := by
          unfold H.cond_Print.f
          rw [if_pos ⟨by unfold u64P; omega, by unfold u64P; omega⟩]
          unfold printR
          rw [if_pos hr]
          rfl
        have e3 : (condText a' c' (m' : Int) (v' : Int)).toList = s.toList := by rw [ByteArray.toList_eq, ByteArray.toList_eq, condText_list, hl]
        have e4 : cond_Right.f (a' : Int) (c' : Int) (m' : Int) (v' : Int) = some true := by
          unfold cond_Right.f
          rw [if_pos (by omega), if_pos (by omega), if_pos (by omega)]
          exact congrArg some (decide_eq_true (by omega))
        simp [parseI, e2, e3, e4, knows_some]
    unfold printR
    cases h : rightB a c with
    | false => simpa using fin
    | true =>
      obtain ⟨j, k, rfl, rfl, hj, hk⟩ := right_nats h
      obtain ⟨m, rfl⟩ := Int.eq_ofNat_of_zero_le hm.1
      obtain ⟨v, rfl⟩ := Int.eq_ofNat_of_zero_le hv.1
      have hm' : m < 18446744073709551616 := by unfold u64P at hm; omega
      have hv' : v < 18446744073709551616 := by unfold u64P at hv; omega
      have e2 : H.cond_Parse.f (condText j k (m : Int) (v : Int)) = some ((j : Int), (k : Int), (m : Int), (v : Int), 0) := by
        rw [condParse_eq _ (textB_nat j k m v hm' hv'), condText_list, condParse_text j k m v hj hk hm' hv']
        rfl
      simpa [e2] using fin
end Go.Proofs.Ythdkgpmpopjnaaa.H
