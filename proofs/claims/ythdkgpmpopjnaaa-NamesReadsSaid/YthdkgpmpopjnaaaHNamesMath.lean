/-
Plain laws of names: a text is read as what it is the text of, and what is read has just that text.
-/
import Derived.Test.YthdkgpmpopjnaaaHNames2
import Derived.Test.YthdkgpmpopjnaaaHDigits
set_option linter.unusedVariables false
set_option linter.unusedSimpArgs false
namespace Go.Proofs.Ythdkgpmpopjnaaa.H
open Go.RowKit Go.Proofs.YthdkgpmpopjnaaaW.PrintWords

theorem nstr_append (a b : List Int) : strOfNums a ++ strOfNums b = strOfNums (a ++ b) := by
  apply ByteArray.ext
  apply Array.ext'
  simp [strOfNums, ByteArray.data_append]
theorem nstr_toList (l : List Int) : (strOfNums l).toList = u8s l := by
  rw [ByteArray.toList_eq]; exact strOfNums_data l
theorem nstr_data (l : List Int) : (strOfNums l).data.toList = u8s l := strOfNums_data l
theorem ba_ext {a b : ByteArray} (h : a.data.toList = b.data.toList) : a = b := by
  apply ByteArray.ext
  exact Array.toList_inj.1 h
theorem ba_ext' {a b : ByteArray} (h : a.toList = b.toList) : a = b := by
  rw [ByteArray.toList_eq, ByteArray.toList_eq] at h; exact ba_ext h

structure NGood (l : NL) : Prop where
  uniq : Uniq l
  keys : ∀ p ∈ l, ∀ q ∈ l, p.1 = q.1 → p.2 = q.2
  some_ : ∀ p ∈ l, p.1.data.toList ≠ []
  plain : ∀ p ∈ l, parseL p.1.data.toList = none
  range : ∀ p ∈ l, 0 ≤ p.2 ∧ p.2 < 4294967296

theorem good_nil : NGood [] := ⟨(fun p h => by cases h), (fun p h => by cases h), (fun p h => by cases h), (fun p h => by cases h), (fun p h => by cases h)⟩
theorem good_ML : NGood ML := ⟨uniq_ML, by unfold ML; decide, by unfold ML; decide, by unfold ML; decide, by unfold ML; decide⟩
theorem good_AL : NGood AL := ⟨uniq_AL, by unfold AL; decide, by unfold AL; decide, by unfold AL; decide, by unfold AL; decide⟩
theorem good_x64 : NGood Cx64 := ⟨uniq_Cx64, by unfold Cx64; decide, by unfold Cx64; decide, by unfold Cx64; decide, by unfold Cx64; decide⟩
theorem good_x86 : NGood Cx86 := ⟨uniq_Cx86, by unfold Cx86; decide, by unfold Cx86; decide, by unfold Cx86; decide, by unfold Cx86; decide⟩
theorem good_a64 : NGood Ca64 := ⟨uniq_Ca64, by unfold Ca64; decide, by unfold Ca64; decide, by unfold Ca64; decide, by unfold Ca64; decide⟩
theorem good_arm : NGood Carm := ⟨uniq_Carm, by unfold Carm; decide, by unfold Carm; decide, by unfold Carm; decide, by unfold Carm; decide⟩
theorem good_calls (a : Int) : NGood (callsOf a) := by
  unfold callsOf
  split
  · exact good_x64
  · split
    · exact good_x86
    · split
      · exact good_a64
      · split
        · exact good_arm
        · exact good_nil

theorem nonempty_of {s : ByteArray} (h : s.data.toList ≠ []) : s.toList.isEmpty = false := by
  rw [ByteArray.toList_eq]
  cases hs : s.data.toList with
  | nil => exact absurd hs h
  | cons a l => rfl

theorem numOf_some {l : NL} {s : ByteArray} {v : Int} (h : numOf l s = some v) : (s, v) ∈ l := by
  unfold numOf at h
  cases hf : l.find? (fun p => s == p.1) with
  | none => rw [hf] at h; cases h
  | some p =>
    rw [hf] at h
    have h1 := List.find?_some hf
    have h2 := List.mem_of_find?_eq_some hf
    have e1 : s = p.1 := (MapKept.bytes_beq _ _).1 h1
    have e2 : p.2 = v := Option.some.inj h
    rw [e1, ← e2]; exact h2
theorem numOf_hit {l : NL} (g : NGood l) {p : ByteArray × Int} (hp : p ∈ l) : numOf l p.1 = some p.2 := by
  unfold numOf
  cases hf : l.find? (fun q => p.1 == q.1) with
  | none =>
    have := List.find?_eq_none.1 hf p hp
    exact absurd ((MapKept.bytes_beq _ _).2 rfl) this
  | some q =>
    have h1 := List.find?_some hf
    have h2 := List.mem_of_find?_eq_some hf
    have e1 : p.1 = q.1 := (MapKept.bytes_beq _ _).1 h1
    simp only []
    rw [g.keys p hp q h2 e1]
theorem numOf_none {l : NL} {s : ByteArray} (h : ∀ p ∈ l, p.1 ≠ s) : numOf l s = none := by
  cases hv : numOf l s with
  | none => rfl
  | some v => exact absurd rfl (h _ (numOf_some hv))

theorem name_cases {l : NL} (g : NGood l) (n : Int) : (∃ p ∈ l, p.2 = n ∧ nameOf l n = p.1 ∧ (nameOf l n).toList.isEmpty = false) ∨ ((∀ p ∈ l, p.2 ≠ n) ∧ nameOf l n = ⟨#[]⟩) := by
  by_cases h : ∃ p ∈ l, p.2 = n
  · obtain ⟨p, hp, hn⟩ := h
    subst hn
    have e := nameOf_hit g.uniq hp
    exact .inl ⟨p, hp, rfl, e, by rw [e]; exact nonempty_of (g.some_ p hp)⟩
  · have h' : ∀ p ∈ l, p.2 ≠ n := fun p hp hn => h ⟨p, hp, hn⟩
    exact .inr ⟨h', nameOf_miss h'⟩

theorem empty_isEmpty : (⟨#[]⟩ : ByteArray).toList.isEmpty = true := by rw [ByteArray.toList_eq]; rfl

/-- A text is read as what it is the text of. -/
theorem read_text {l : NL} (g : NGood l) (n : Nat) (hn : n < 4294967296) : readOf l (textOf l n) = ((n : Int), 0) := by
  rcases name_cases g (n : Int) with ⟨p, hp, h2, h3, h4⟩ | ⟨h1, h2⟩
  · have e : textOf l n = p.1 := by unfold textOf; rw [if_neg (by rw [h4]; decide), h3]
    rw [e]
    unfold readOf
    rw [numOf_hit g hp]
    simp only [h2]
  · have e : textOf l n = strOfNums (textL n) := by unfold textOf; rw [h2, if_pos empty_isEmpty]
    have hp := parse_text n (by omega)
    rw [e]
    unfold readOf
    rw [numOf_none (fun p hp' he => by
      have := g.plain p hp'
      rw [he, nstr_data, hp] at this
      cases this)]
    simp only [nstr_data, hp]
    rw [if_neg]
    rintro (h | h)
    · omega
    · rw [h2, empty_isEmpty] at h; cases h

/-- What was read has just that text; else nothing was read. -/
theorem text_read {l : NL} (g : NGood l) (s : ByteArray) : ((readOf l s).2 = 0 ∧ ∃ n : Nat, n < 4294967296 ∧ (readOf l s).1 = (n : Int) ∧ textOf l n = s) ∨ readOf l s = (0, 2) := by
  unfold readOf
  cases hv : numOf l s with
  | some v =>
    have hm := numOf_some hv
    have hr := g.range _ hm
    obtain ⟨n, hn⟩ := Int.eq_ofNat_of_zero_le hr.1
    refine .inl ⟨rfl, n, by have := hr.2; simp at hn; omega, hn, ?_⟩
    have e := nameOf_hit g.uniq hm
    simp only [] at e hn
    unfold textOf
    rw [← hn, e, if_neg (by rw [nonempty_of (g.some_ _ hm)]; decide)]
  | none =>
    cases hp : parseL s.data.toList with
    | none => exact .inr rfl
    | some n =>
      simp only []
      by_cases hc : 4294967296 ≤ n ∨ (nameOf l n).toList.isEmpty = false
      · rw [if_pos hc]; exact .inr rfl
      · rw [if_neg hc]
        refine .inl ⟨rfl, n, by omega, rfl, ?_⟩
        unfold textOf
        have he : (nameOf l n).toList.isEmpty = true := by
          cases h : (nameOf l n).toList.isEmpty with
          | true => rfl
          | false => exact absurd (.inr h) hc
        rw [if_pos he]
        apply ba_ext
        rw [nstr_data]
        exact text_parse _ _ hp

theorem text_inj {l : NL} (g : NGood l) (a b : Nat) (ha : a < 4294967296) (hb : b < 4294967296) : (textOf l a = textOf l b) ↔ a = b := by
  constructor
  · intro h
    have h1 := read_text g a ha
    rw [h, read_text g b hb] at h1
    have : (b : Int) = (a : Int) := congrArg Prod.fst h1
    omega
  · intro h; rw [h]

/-! ### Actions -/
theorem AL_mid (v : Int) (h1 : 327680 ≤ v) (h2 : v ≤ 331775) : ∀ p ∈ AL, p.2 ≠ v := by
  intro p hp
  unfold AL at hp
  simp at hp
  rcases hp with rfl | rfl | rfl | rfl <;> simp <;> omega
theorem err_not (x : ByteArray) : ∀ p ∈ AL, p.1 ≠ errPre ++ x := by
  intro p hp he
  have h0 : (errPre ++ x).data.toList.head? = some 101 := by simp [errPre, ByteArray.data_append]
  rw [← he] at h0
  unfold AL at hp
  simp at hp
  rcases hp with rfl | rfl | rfl | rfl <;> simp at h0

theorem pre_size (x : ByteArray) : (errPre ++ x).size = 6 + x.size := by simp [errPre, ByteArray.size_append]; rfl
theorem pre_take (x : ByteArray) : ((errPre ++ x).extract 0 6).toList = [101, 114, 114, 111, 114, 58] := by
  rw [Lib.extract_toList]; simp [errPre, ByteArray.data_append]
theorem pre_drop (x : ByteArray) : ((errPre ++ x).extract 6 (errPre ++ x).size).data.toList = x.data.toList := by
  rw [Lib.extract_data, pre_size]
  simp [errPre, ByteArray.data_append]
  exact List.take_of_length_le (by simp)
theorem pre_split (s : ByteArray) (h6 : ¬ s.size < 6) (hx : (s.extract 0 6).toList = [101, 114, 114, 111, 114, 58]) : errPre ++ (s.extract 6 s.size) = s := by
  apply ba_ext
  rw [ByteArray.data_append, Array.toList_append, Lib.extract_data]
  rw [Lib.extract_toList] at hx
  have e : errPre.data.toList = s.data.toList.take 6 := by rw [← show (s.data.toList.drop 0).take (6 - 0) = s.data.toList.take 6 from rfl, hx]; rfl
  have t : (s.data.toList.drop 6).take (s.size - 6) = s.data.toList.drop 6 := List.take_of_length_le (by simp)
  rw [e, t]
  exact List.take_append_drop 6 _

theorem act_cases (v : Nat) (hv : v < 4294967296) :
    (∃ p ∈ AL, p.2 = (v : Int) ∧ actOf v = (p.1, 0) ∧ p.1.data.toList ≠ []) ∨ (∃ d : Nat, d ≤ 4095 ∧ v = 327680 + d ∧ actOf v = (errPre ++ strOfNums (textL d), 0)) ∨ ((∀ p ∈ AL, p.2 ≠ (v : Int)) ∧ ¬ (327680 ≤ v ∧ v ≤ 331775) ∧ actOf v = (⟨#[]⟩, 1)) := by
  unfold actOf
  rcases name_cases good_AL (v : Int) with ⟨p, hp, h2, h3, h4⟩ | ⟨h1, h2⟩
  · left
    exact ⟨p, hp, h2, by rw [if_pos h4, h3], good_AL.some_ p hp⟩
  · right
    rw [if_neg (by rw [h2, empty_isEmpty]; decide)]
    by_cases hd : (v + 4294967296 - 327680) % 4294967296 ≤ 4095
    · left
      refine ⟨(v + 4294967296 - 327680) % 4294967296, hd, by omega, ?_⟩
      rw [if_pos hd]
    · right
      refine ⟨h1, by omega, ?_⟩
      rw [if_neg hd]

theorem readAct_act (v : Nat) (hv : v < 4294967296) (h : (actOf v).2 = 0) : readAct (actOf v).1 = ((v : Int), 0) := by
  rcases act_cases v hv with ⟨p, hp, h2, h3, _⟩ | ⟨d, hd, hvd, h3⟩ | ⟨_, _, h3⟩
  · rw [h3]
    unfold readAct
    simp only []
    rw [numOf_hit good_AL hp]
    simp only [h2]
  · rw [h3]
    unfold readAct
    simp only []
    rw [numOf_none (err_not _)]
    simp only []
    rw [if_neg]
    · rw [pre_drop, nstr_data, parse_text d (by omega)]
      simp only []
      rw [if_neg (by omega)]
      congr 1; omega
    · rintro (h | h)
      · rw [pre_size] at h; omega
      · exact h (pre_take _)
  · rw [h3] at h; cases h

theorem act_empty (v : Nat) (hv : v < 4294967296) (h : (actOf v).2 ≠ 0) : actOf v = (⟨#[]⟩, 1) := by
  rcases act_cases v hv with ⟨p, hp, h2, h3, _⟩ | ⟨d, hd, hvd, h3⟩ | ⟨_, _, h3⟩
  · rw [h3] at h; exact absurd rfl h
  · rw [h3] at h; exact absurd rfl h
  · exact h3

theorem act_readAct (s : ByteArray) : ((readAct s).2 = 0 ∧ ∃ v : Nat, v < 4294967296 ∧ (readAct s).1 = (v : Int) ∧ actOf v = (s, 0)) ∨ readAct s = (0, 2) := by
  unfold readAct
  cases hv : numOf AL s with
  | some v =>
    have hm := numOf_some hv
    have hr := good_AL.range _ hm
    obtain ⟨n, hn⟩ := Int.eq_ofNat_of_zero_le hr.1
    simp only [] at hn hr
    refine .inl ⟨rfl, n, by omega, hn, ?_⟩
    have e := nameOf_hit good_AL.uniq hm
    simp only [] at e
    unfold actOf
    rw [← hn, e, if_pos (nonempty_of (good_AL.some_ _ hm))]
  | none =>
    simp only []
    by_cases hc : s.size < 6 ∨ ¬ (s.extract 0 6).toList = [101, 114, 114, 111, 114, 58]
    · rw [if_pos hc]; exact .inr rfl
    · rw [if_neg hc]
      cases hp : parseL (s.extract 6 s.size).data.toList with
      | none => exact .inr rfl
      | some n =>
        simp only []
        by_cases h95 : 4095 < n
        · rw [if_pos h95]; exact .inr rfl
        · rw [if_neg h95]
          refine .inl ⟨rfl, 327680 + n, by omega, by simp, ?_⟩
          unfold actOf
          have hmiss := nameOf_miss (AL_mid ((327680 + n : Nat) : Int) (by omega) (by omega))
          rw [hmiss, if_neg (by rw [empty_isEmpty]; decide), show (327680 + n + 4294967296 - 327680) % 4294967296 = n by omega, if_pos (by omega)]
          have h6 : ¬ s.size < 6 := fun h => hc (.inl h)
          have hx : (s.extract 0 6).toList = [101, 114, 114, 111, 114, 58] := by
            rcases Classical.em ((s.extract 0 6).toList = [101, 114, 114, 111, 114, 58]) with h | h
            · exact h
            · exact absurd (.inr h) hc
          have ht : strOfNums (textL n) = s.extract 6 s.size := by
            apply ba_ext
            rw [nstr_data]
            exact text_parse _ _ hp
          rw [ht, pre_split s h6 hx]
end Go.Proofs.Ythdkgpmpopjnaaa.H
