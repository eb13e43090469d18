/-
What the reference's names answer (hurdleref09): the same texts, and the same numbers of texts.
-/
import Derived.Test.YthdkgpmpopjnaaaRx2
import Derived.Test.YthdkgpmpopjnaaaHNamesMath
import Derived.Test.YthdkgpmpopjnaaaHRefText
set_option linter.unusedVariables false
set_option linter.unusedSimpArgs false
namespace Go.Proofs.Ythdkgpmpopjnaaa.H
open Go.RowKit Go.Proofs.Ythdkgpmpopjnaaa.R Go.Proofs.YthdkgpmpopjnaaaW.PrintWords Go.Proofs.YthdkgpmpopjnaaaW.PrintMore

def fsts (l : NL) : List ByteArray := l.map (·.1)
def snds (l : NL) : List Int := l.map (·.2)

theorem rd_snds (l : NL) (i : Nat) (p : ByteArray × Int) (h : l[i]? = some p) : rd (snds l) (i : Int) = p.2 := by
  unfold rd snds
  rw [Int.toNat_natCast, List.getD_eq_getElem?_getD, List.getElem?_map, h]
  rfl
theorem rd_fsts (l : NL) (i : Nat) (p : ByteArray × Int) (h : l[i]? = some p) : rdOf ByteArray.empty (fsts l) (i : Int) = p.1 := by
  unfold rdOf fsts
  rw [Int.toNat_natCast, List.getD_eq_getElem?_getD, List.getElem?_map, h]
  rfl
theorem wr1 (i : Nat) (h : i < 1000) : wrap64 ((i : Int) + 1) = ((i + 1 : Nat) : Int) := by unfold wrap64; omega

theorem ref_text_l0 (l : NL) (hl : l.length < 900) (n : Nat) (hn : n < 4294967296) (d : Nat) : ∀ (k i : Nat), i + d = l.length → d + 20 < k →
    hurdleref09_text.l0 k (fsts l) (snds l) (n : Int) (i : Int) = some (match (l.drop i).find? (fun p => p.2 == (n : Int)) with | some p => p.1 | none => strOfNums (textL n)) := by
  induction d with
  | zero =>
    intro k i hi hk
    obtain ⟨k, rfl⟩ : ∃ m, k = m + 1 := ⟨k - 1, by omega⟩
    simp only [hurdleref09_text.l0]
    rw [if_neg (by simp [fsts]; omega), List.drop_eq_nil_of_le (by omega), IntWalk.u64_in _ (by omega), ref_text n k (by omega) (by omega)]
    rfl
  | succ d ih =>
    intro k i hi hk
    obtain ⟨k, rfl⟩ : ∃ m, k = m + 1 := ⟨k - 1, by omega⟩
    have hlt : i < l.length := by omega
    have hg : l[i]? = some l[i] := List.getElem?_eq_getElem hlt
    simp only [hurdleref09_text.l0]
    rw [if_pos (by simp [fsts]; omega), if_pos (by omega), if_pos (by simp [snds]; omega), rd_snds l i _ hg, rd_fsts l i _ hg, List.drop_eq_getElem_cons hlt, List.find?_cons]
    by_cases he : l[i].2 = (n : Int)
    · rw [if_pos he, beq_iff_eq.2 he]
    · rw [if_neg he, beq_eq_false_iff_ne.2 he, wr1 i (by omega)]
      exact ih k (i + 1) (by omega) (by omega)

theorem ref_text_f (l : NL) (g : NGood l) (hl : l.length < 900) (n : Nat) (hn : n < 4294967296) (k : Nat) (hk : l.length + 20 < k) :
    hurdleref09_text.f k (fsts l) (snds l) (n : Int) = some (textOf l n) := by
  have h := ref_text_l0 l hl n hn l.length k 0 (by omega) hk
  have e : hurdleref09_text.f k (fsts l) (snds l) (n : Int) = hurdleref09_text.l0 k (fsts l) (snds l) (n : Int) ((0 : Nat) : Int) := rfl
  rw [e, h, List.drop_zero]
  unfold textOf nameOf
  cases hf : l.find? (fun p => p.2 == (n : Int)) with
  | none => simp only []; rw [if_pos empty_isEmpty]
  | some p => simp only []; rw [if_neg (by rw [nonempty_of (g.some_ p (List.mem_of_find?_eq_some hf))]; decide)]

theorem numOf_drop (l : NL) (s : ByteArray) : (match l.find? (fun p => s == p.1) with | some p => some p.2 | none => none) = numOf l s := rfl

theorem ref_read_l0 (l : NL) (g : NGood l) (hl : l.length < 900) (s : ByteArray) (d : Nat) : ∀ (k i : Nat), i + d = l.length → d + l.length + 70 < k → (∀ p ∈ l.take i, p.1 ≠ s) →
    hurdleref09_read.l0 k (fsts l) (snds l) s (i : Int) = some ((readOf l s).1, ((readOf l s).2 == 0)) := by
  induction d with
  | zero =>
    intro k i hi hk hno
    obtain ⟨k, rfl⟩ : ∃ m, k = m + 1 := ⟨k - 1, by omega⟩
    have hno' : ∀ p ∈ l, p.1 ≠ s := by rw [List.take_of_length_le (by omega)] at hno; exact hno
    simp only [hurdleref09_read.l0]
    rw [if_neg (by simp [fsts]; omega), ref_parse s k (by omega)]
    unfold readOf
    rw [numOf_none hno']
    cases hp : parseL s.data.toList with
    | none => simp
    | some n =>
      have hn := parseL_lt hp
      simp only [Option.bind_some, if_true]
      by_cases hb : 4294967296 ≤ n
      · rw [if_pos (by omega), if_pos (.inl hb)]; rfl
      · have e : (n : Int) % 4294967296 = (n : Int) := by omega
        rw [if_neg (by omega), e, ref_text_f l g hl n (by omega) k (by omega)]
        simp only [Option.bind_some]
        rcases name_cases g (n : Int) with ⟨p, hp', h2, h3, h4⟩ | ⟨h1, h2⟩
        · have ht : textOf l n = p.1 := by unfold textOf; rw [if_neg (by rw [h4]; decide), h3]
          rw [ht, if_neg (fun h => hno' p hp' (ba_ext' h)), if_pos (.inr h4)]
          rfl
        · have ht : textOf l n = strOfNums (textL n) := by unfold textOf; rw [h2, if_pos empty_isEmpty]
          rw [ht, if_pos (by rw [str_toList, text_parse _ _ hp, ByteArray.toList_eq]), if_neg]
          · rfl
          · rintro (h | h)
            · exact hb h
            · rw [h2, empty_isEmpty] at h; cases h
  | succ d ih =>
    intro k i hi hk hno
    obtain ⟨k, rfl⟩ : ∃ m, k = m + 1 := ⟨k - 1, by omega⟩
    have hlt : i < l.length := by omega
    have hg : l[i]? = some l[i] := List.getElem?_eq_getElem hlt
    simp only [hurdleref09_read.l0]
    rw [if_pos (by simp [fsts]; omega), if_pos (by omega), rd_fsts l i _ hg]
    by_cases he : l[i].1 = s
    · rw [if_pos (by rw [he]), if_pos (by simp [snds]; omega), rd_snds l i _ hg]
      unfold readOf
      have := numOf_hit g (List.getElem_mem hlt)
      rw [he] at this
      rw [this]
      rfl
    · rw [if_neg (fun h => he (ba_ext' h)), wr1 i (by omega)]
      refine ih k (i + 1) (by omega) (by omega) ?_
      intro p hp
      rw [List.take_succ_eq_append_getElem hlt, List.mem_append] at hp
      rcases hp with hp | hp
      · exact hno p hp
      · simp at hp; subst hp; exact he

theorem ref_read_f (l : NL) (g : NGood l) (hl : l.length < 900) (s : ByteArray) (k : Nat) (hk : 2 * l.length + 70 < k) :
    hurdleref09_read.f k (fsts l) (snds l) s = some ((readOf l s).1, ((readOf l s).2 == 0)) := by
  have h := ref_read_l0 l g hl s l.length k 0 (by omega) (by omega) (by simp)
  exact h

theorem ref_machines : hurdleref09_Machines.f = some (fsts ML, snds ML) := rfl

theorem ref_machine (n : Nat) (hn : n < 4294967296) : hurdleref09_Machine.f 200 (n : Int) = some (textOf ML n) := by
  unfold hurdleref09_Machine.f
  rw [ref_machines]
  simp only [Option.bind_some]
  rw [ref_text_f ML good_ML (by decide) n hn 200 (by decide)]
  rfl
theorem ref_readMachine (s : ByteArray) (k : Nat) (hk : 200 ≤ k) : hurdleref09_ReadMachine.f k s = some ((readOf ML s).1, ((readOf ML s).2 == 0)) := by
  unfold hurdleref09_ReadMachine.f
  rw [ref_machines]
  simp only [Option.bind_some]
  rw [ref_read_f ML good_ML (by decide) s k (by have : ML.length = 4 := rfl
                                                omega)]
  rfl

/-! ### The calls of a machine -/
def callNames : List ByteArray := [⟨#[114, 101, 97, 100]⟩, ⟨#[119, 114, 105, 116, 101]⟩, ⟨#[111, 112, 101, 110]⟩, ⟨#[99, 108, 111, 115, 101]⟩, ⟨#[101, 120, 105, 116]⟩, ⟨#[102, 111, 114, 107]⟩, ⟨#[107, 105, 108, 108]⟩, ⟨#[109, 109, 97, 112]⟩]
def callRows : List (List Int) := [[0, 1, 2, 3, 60, 57, 62, 9], [3, 4, 5, 6, 1, 2, 37, 90], [63, 64, 1000000, 57, 93, 1000000, 129, 222], [3, 4, 5, 6, 1, 2, 37, 1000000]]

theorem calls_l1_miss (a : Int) (x9 : List ByteArray) (x10 : List Int) (i : Nat) (hi : i < 4) (ha : rd (snds ML) (i : Int) ≠ a) (d : Nat) : ∀ (k j : Nat), j + d = 8 → d < k →
    hurdleref09_Calls.l1 k a callNames 1000000 callRows (snds ML) x9 x10 (i : Int) (j : Int) = hurdleref09_Calls.l0 (k - d - 1) a callNames 1000000 callRows (snds ML) x9 x10 ((i + 1 : Nat) : Int) := by
  induction d with
  | zero =>
    intro k j hj hk
    obtain ⟨k, rfl⟩ : ∃ m, k = m + 1 := ⟨k - 1, by omega⟩
    simp only [hurdleref09_Calls.l1]
    rw [if_neg (by omega), wr1 i (by omega)]
    rfl
  | succ d ih =>
    intro k j hj hk
    obtain ⟨k, rfl⟩ : ∃ m, k = m + 1 := ⟨k - 1, by omega⟩
    simp only [hurdleref09_Calls.l1]
    have h4 : (snds ML).length = 4 := rfl
    rw [if_pos (by omega), if_pos (by omega), if_pos (by rw [h4]; omega), if_neg ha, wr1 j (by omega), ih k (j + 1) (by omega) (by omega)]
    rw [show k + 1 - (d + 1) - 1 = k - d - 1 by omega]

theorem calls_l0_miss (a : Int) (x9 : List ByteArray) (x10 : List Int) (i k : Nat) (hi : i < 4) (hk : 10 ≤ k) (ha : rd (snds ML) (i : Int) ≠ a) :
    hurdleref09_Calls.l0 k a callNames 1000000 callRows (snds ML) x9 x10 (i : Int) = hurdleref09_Calls.l0 (k - 10) a callNames 1000000 callRows (snds ML) x9 x10 ((i + 1 : Nat) : Int) := by
  obtain ⟨k, rfl⟩ : ∃ m, k = m + 1 := ⟨k - 1, by omega⟩
  conv => lhs; simp only [hurdleref09_Calls.l0]
  rw [if_pos (by omega)]
  have := calls_l1_miss a x9 x10 i hi ha 8 k 0 (by omega) (by omega)
  rw [show ((0 : Nat) : Int) = 0 from rfl] at this
  rw [this, show k - 8 - 1 = k + 1 - 10 by omega]

theorem calls_f_eq (a : Int) (k : Nat) : hurdleref09_Calls.f k a = hurdleref09_Calls.l0 k a callNames 1000000 callRows (snds ML) [] [] ((0 : Nat) : Int) := by
  unfold hurdleref09_Calls.f
  rw [ref_machines]
  rfl
theorem rd0 : rd (snds ML) ((0 : Nat) : Int) = 3221225534 := rfl
theorem rd1 : rd (snds ML) ((1 : Nat) : Int) = 1073741827 := rfl
theorem rd2 : rd (snds ML) ((2 : Nat) : Int) = 3221225655 := rfl
theorem rd3 : rd (snds ML) ((3 : Nat) : Int) = 1073741864 := rfl
theorem calls_l0_end (a : Int) (k : Nat) (x9 : List ByteArray) (x10 : List Int) : hurdleref09_Calls.l0 (k + 1) a callNames 1000000 callRows (snds ML) x9 x10 ((3 + 1 : Nat) : Int) = some (x9, x10) := by
  simp only [hurdleref09_Calls.l0]
  rw [if_neg (by omega)]
theorem calls_none_k (a : Int) (h0 : a ≠ 3221225534) (h1 : a ≠ 1073741827) (h2 : a ≠ 3221225655) (h3 : a ≠ 1073741864) (k : Nat) : hurdleref09_Calls.f (k + 1 + 40) a = some ([], []) := by
  rw [calls_f_eq, calls_l0_miss a _ _ 0 _ (by omega) (by omega) (by rw [rd0]; exact fun h => h0 h.symm),
    calls_l0_miss a _ _ 1 _ (by omega) (by omega) (by rw [rd1]; exact fun h => h1 h.symm),
    calls_l0_miss a _ _ 2 _ (by omega) (by omega) (by rw [rd2]; exact fun h => h2 h.symm),
    calls_l0_miss a _ _ 3 _ (by omega) (by omega) (by rw [rd3]; exact fun h => h3 h.symm),
    show k + 1 + 40 - 10 - 10 - 10 - 10 = k + 1 by omega, calls_l0_end]
theorem calls_none_f (a : Int) (h0 : a ≠ 3221225534) (h1 : a ≠ 1073741827) (h2 : a ≠ 3221225655) (h3 : a ≠ 1073741864) : hurdleref09_Calls.f 60 a = some ([], []) :=
  calls_none_k a h0 h1 h2 h3 19

theorem ref_calls (a : Int) : hurdleref09_Calls.f 60 a = some (fsts (callsOf a), snds (callsOf a)) := by
  unfold callsOf
  split
  · rename_i h; subst h; kernel_rfl
  · rename_i h0
    split
    · rename_i h; subst h; kernel_rfl
    · rename_i h1
      split
      · rename_i h; subst h; kernel_rfl
      · rename_i h2
        split
        · rename_i h; subst h; kernel_rfl
        · rename_i h3; exact calls_none_f a h0 h1 h2 h3

theorem calls_len (a : Int) : (callsOf a).length ≤ 8 := by
  unfold callsOf
  split
  · decide
  · split
    · decide
    · split
      · decide
      · split
        · decide
        · simp
theorem ref_calls_k (a : Int) (k : Nat) (hk : 60 ≤ k) : hurdleref09_Calls.f k a = some (fsts (callsOf a), snds (callsOf a)) :=
  at_rounds (g := fun k => hurdleref09_Calls.f k a) (hurdleref09_Calls.mono a) hk (ref_calls a)

theorem ref_call (a : Int) (n : Nat) (hn : n < 4294967296) : hurdleref09_Call.f 200 a (n : Int) = some (textOf (callsOf a) n) := by
  unfold hurdleref09_Call.f
  have hl := calls_len a
  rw [ref_calls_k a 200 (by omega)]
  simp only [Option.bind_some]
  rw [ref_text_f _ (good_calls a) (by omega) n hn 200 (by omega)]
  rfl
theorem ref_readCall (a : Int) (s : ByteArray) (k : Nat) (hk : 200 ≤ k) : hurdleref09_ReadCall.f k a s = some ((readOf (callsOf a) s).1, ((readOf (callsOf a) s).2 == 0)) := by
  unfold hurdleref09_ReadCall.f
  have hl := calls_len a
  rw [ref_calls_k a k (by omega)]
  simp only [Option.bind_some]
  rw [ref_read_f _ (good_calls a) (by omega) s k (by omega)]
  rfl

/-! ### Actions -/
theorem ref_action (v : Nat) (hv : v < 4294967296) (k : Nat) (hk : 30 ≤ k) : hurdleref09_Action.f k (v : Int) = some (actOf v).1 := by
  obtain ⟨k, rfl⟩ : ∃ m, k = m + 1 := ⟨k - 1, by omega⟩
  unfold hurdleref09_Action.f
  have hmid : ∀ b : Bool, b = true ∧ 327680 ≤ v ∧ v ≤ 331775 ∨ b = false ∧ ¬ (327680 ≤ v ∧ v ≤ 331775) → hurdleref09_Action.j0 (k + 1) (v : Int) b = some (actOf v).1 := by
    intro b hb
    simp only [hurdleref09_Action.j0]
    rcases act_cases v hv with ⟨p, hp, h2, h3, _⟩ | ⟨d, hd, hvd, h3⟩ | ⟨hm, hmm, h3⟩
    · rw [h3]
      have hf : b = false := by
        rcases hb with ⟨_, h⟩ | ⟨h, _⟩
        · exact absurd h2 (AL_mid (v : Int) (by omega) (by omega) p hp)
        · exact h
      subst hf
      rw [if_neg (by decide)]
      rw [← h2]
      unfold AL at hp
      simp only [List.mem_cons, List.not_mem_nil, or_false] at hp
      rcases hp with rfl | rfl | rfl | rfl
      · rw [if_pos rfl]
      · rw [if_neg (by decide), if_pos rfl]
      · rw [if_neg (by decide), if_neg (by decide), if_pos rfl]
      · rw [if_neg (by decide), if_neg (by decide), if_neg (by decide), if_pos rfl]
    · rw [h3]
      have ht : b = true := by
        rcases hb with ⟨h, _⟩ | ⟨_, h⟩
        · exact h
        · exact absurd ⟨by omega, by omega⟩ h
      subst ht
      rw [if_pos rfl, show ((v : Int) - 327680) % 4294967296 = ((d : Nat) : Int) by omega, ref_text d k (by omega) (by omega)]
      simp only [Option.bind_some]
      have hs := textL_size d (by omega)
      rw [if_pos (by omega)]
      rfl
    · rw [h3]
      have hf : b = false := by
        rcases hb with ⟨_, h⟩ | ⟨h, _⟩
        · exact absurd h hmm
        · exact h
      subst hf
      have m0 := hm (⟨#[107, 105, 108, 108]⟩, 0) (by unfold AL; simp)
      have m1 := hm (⟨#[116, 114, 97, 112]⟩, 196608) (by unfold AL; simp)
      have m2 := hm (⟨#[108, 111, 103]⟩, 2147221504) (by unfold AL; simp)
      have m3 := hm (⟨#[97, 108, 108, 111, 119]⟩, 2147418112) (by unfold AL; simp)
      rw [if_neg (by decide), if_neg (fun h => m0 h.symm), if_neg (fun h => m1 h.symm), if_neg (fun h => m2 h.symm), if_neg (fun h => m3 h.symm)]
  by_cases h1 : (v : Int) ≥ 327680
  · rw [if_pos h1]
    by_cases h2 : (v : Int) ≤ 331775
    · rw [decide_eq_true h2]; exact hmid true (.inl ⟨rfl, by omega, by omega⟩)
    · rw [decide_eq_false h2]; exact hmid false (.inr ⟨rfl, by omega⟩)
  · rw [if_neg h1]; exact hmid false (.inr ⟨rfl, by omega⟩)
end Go.Proofs.Ythdkgpmpopjnaaa.H
