/- Package policy, plainly: texts of many lines: parseV reads a policy's text as it, and what it reads has just that text; places of errors; texts cut or made longer. -/
import Derived.Test.YtekpbgmmogpbdaaZB3
set_option linter.unusedVariables false
set_option linter.unusedSimpArgs false
set_option maxRecDepth 100000
namespace Go.Proofs.Ytekpbgmmogpbdaa.H
open Go.RowKit Go.Proofs.YtekpbgmmogpbdaaW.PrintWords
def hi (l : List UInt8) : Prop := ∀ c ∈ l, 33 ≤ c.toNat
theorem hi.no32 {l : List UInt8} (h : hi l) : (32 : UInt8) ∉ l := fun hm => by have := h _ hm; revert this; decide
theorem hi.no10 {l : List UInt8} (h : hi l) : (10 : UInt8) ∉ l := fun hm => by have := h _ hm; revert this; decide
theorem hi.app {a b : List UInt8} (h : hi a) (k : hi b) : hi (a ++ b) := fun c hc => (List.mem_append.1 hc).elim (h c) (k c)
theorem hexGo_hi (l : List UInt8) : ∀ n v, hexGo l n = some v → hi l := by
  induction l with
  | nil => intro n v _ c hc; simp at hc
  | cons x l ih =>
    intro n v h c hc
    unfold hexGo at h
    cases hd : hexd x.toNat with
    | none => rw [hd] at h; simp at h
    | some d =>
      rw [hd] at h
      rcases List.mem_cons.1 hc with e | hc
      · subst e
        unfold hexd at hd
        split at hd
        · omega
        · split at hd
          · omega
          · simp at hd
      · exact ih _ _ h c hc
theorem parse_hi {l : List UInt8} {v : Nat} (h : parseL l = some v) : hi l := by
  unfold parseL at h
  split at h
  · rename_i hh
    intro c hc
    rw [← List.take_append_drop 2 l, hh.2.2.1] at hc
    rcases List.mem_append.1 hc with hm | hm
    · simp at hm; rcases hm with rfl | rfl <;> decide
    · exact hexGo_hi _ _ _ h c hm
  · simp at h
theorem TL_hi (n : Nat) (h : n < 18446744073709551616) : hi (TL n) := parse_hi (parse_text n h)
theorem WL_hi (k : Nat) : hi (WL k) := by
  unfold WL wordK
  split <;> (intro c hc; revert c; decide)
theorem arg_hi (a : Nat) (ha : a < 6) : hi [97, UInt8.ofNat (48 + a)] := by
  rcases (by omega : a = 0 ∨ a = 1 ∨ a = 2 ∨ a = 3 ∨ a = 4 ∨ a = 5) with rfl | rfl | rfl | rfl | rfl | rfl <;> (intro c hc; revert c; decide)
theorem ML_hi : ∀ p ∈ ML, hi p.1.data.toList := by unfold ML hi; decide
theorem AL_hi : ∀ p ∈ AL, hi p.1.data.toList := by unfold AL hi; decide
theorem calls_hi (a : Int) : ∀ p ∈ callsOf a, hi p.1.data.toList := by
  unfold callsOf
  split
  · unfold Cx64 hi; decide
  · split
    · unfold Cx86 hi; decide
    · split
      · unfold Ca64 hi; decide
      · split
        · unfold Carm hi; decide
        · intro p hp; simp at hp
theorem textOf_hi {l : NL} (g : NGood l) (hl : ∀ p ∈ l, hi p.1.data.toList) (n : Nat) (hn : n < 4294967296) : hi (textOf l n).data.toList := by
  unfold textOf
  rcases name_cases g (n : Int) with ⟨p, hp, h2, h3, h4⟩ | ⟨h1, h2⟩
  · rw [if_neg (by rw [h4]; decide), h3]; exact hl p hp
  · rw [if_pos (by rw [h2]; exact empty_isEmpty), nstr_data]; exact TL_hi n (by omega)
theorem act_hi (v : Nat) (hv : v < 4294967296) : hi (actOf v).1.data.toList := by
  rcases act_cases v hv with ⟨p, hp, h2, h3, h4⟩ | ⟨d, hd, h2, h3⟩ | ⟨h1, h2, h3⟩
  · rw [h3]; exact AL_hi p hp
  · rw [h3]
    rw [ba_add, nstr_data]
    exact hi.app (by unfold errPre hi; decide) (TL_hi d (by omega))
  · rw [h3]; intro c hc; simp at hc
def jn (c : UInt8) : List (List UInt8) → List UInt8
  | [] => []
  | [a] => a
  | a :: b :: r => a ++ c :: jn c (b :: r)
theorem jn_cons (c : UInt8) (a : List UInt8) (r : List (List UInt8)) (h : r ≠ []) : jn c (a :: r) = a ++ c :: jn c r := by
  cases r with
  | nil => exact absurd rfl h
  | cons b r => rfl
theorem jn_spl (c : UInt8) (l : List UInt8) : jn c (spl c l) = l := by
  induction l with
  | nil => rfl
  | cons x l ih =>
    simp only [spl]
    split
    · rename_i e
      rw [jn_cons _ _ _ (spl_ne c l), ih, e]; rfl
    · split
      · rename_i a r h
        rw [h] at ih
        cases r with
        | nil => simp only [jn] at ih ⊢; rw [ih]
        | cons b r => simp only [jn] at ih ⊢; rw [← ih]; rfl
      · rename_i h; exact absurd h (spl_ne c l)
theorem spl_jn (c : UInt8) (ws : List (List UInt8)) (hne : ws ≠ []) (h : ∀ w ∈ ws, c ∉ w) : spl c (jn c ws) = ws := by
  induction ws with
  | nil => exact absurd rfl hne
  | cons a r ih =>
    cases r with
    | nil => exact spl_none c a (h a (by simp))
    | cons b r =>
      simp only [jn]
      rw [spl_cons c a _ (h a (by simp)), ih (by simp) (fun w hw => h w (by simp at hw ⊢; right; exact hw))]
theorem spl_mem (c : UInt8) (l : List UInt8) : ∀ w ∈ spl c l, c ∉ w := by
  induction l with
  | nil => intro w hw; simp [spl] at hw; simp [hw]
  | cons x l ih =>
    intro w hw
    simp only [spl] at hw
    split at hw
    · rcases List.mem_cons.1 hw with rfl | hw
      · simp
      · exact ih w hw
    · rename_i e
      split at hw
      · rename_i a r h
        rcases List.mem_cons.1 hw with rfl | hw
        · intro hm
          rcases List.mem_cons.1 hm with e2 | hm
          · exact e e2.symm
          · exact ih a (by rw [h]; simp) hm
        · exact ih w (by rw [h]; simp [hw])
      · simp at hw; subst hw; simp [Ne.symm e]
def condOk (c : P.S61) : Prop := rightB c.f0 c.f1 = true ∧ u64P c.f2 ∧ u64P c.f3
def dfOk (v : Int) : Prop := u32P v ∧ (actOf v.toNat).2 = 0
def ruleOk (x : P.S40) : Prop := u32P x.f0 ∧ u32P x.f1 ∧ dfOk x.f3 ∧ x.f2.length ≤ 4 ∧ ∀ c ∈ x.f2, condOk c
def polOk (L : List P.S40) (df : Int) : Prop := L.length ≤ 64 ∧ (∀ x ∈ L, ruleOk x) ∧ dfOk df
def condWs (c : P.S61) : List (List UInt8) := [[97, UInt8.ofNat (48 + c.f0.toNat)], TL c.f2.toNat, WL c.f1.toNat, TL c.f3.toNat]
def condsW : List UInt8 → List P.S61 → List (List UInt8)
  | _, [] => []
  | j, c :: cs => j :: (condWs c ++ condsW [97, 110, 100] cs)
def machL (x : P.S40) : List UInt8 := (textOf ML x.f0.toNat).data.toList
def callL (x : P.S40) : List UInt8 := (textOf (callsOf x.f0) x.f1.toNat).data.toList
def actL (v : Int) : List UInt8 := (actOf v.toNat).1.data.toList
def ruleWs (x : P.S40) : List (List UInt8) := machL x :: callL x :: actL x.f3 :: condsW [105, 102] x.f2
def ruleT (x : P.S40) : List UInt8 := jn 32 ([111, 110] :: ruleWs x)
def dfltT (v : Int) : List UInt8 := jn 32 [[100, 101, 102, 97, 117, 108, 116], actL v]
def polT (L : List P.S40) (df : Int) : List UInt8 := (L.flatMap fun x => ruleT x ++ [10]) ++ (dfltT df ++ [10])
theorem right_of {c : P.S61} (h : condOk c) : c.f0.toNat < 6 ∧ c.f1.toNat < 6 ∧ c.f2.toNat < 18446744073709551616 ∧ c.f3.toNat < 18446744073709551616 ∧ S61of (c.f0.toNat, c.f1.toNat, c.f2.toNat, c.f3.toNat) = c := by
  obtain ⟨h1, h2, h3⟩ := h
  have := (rightB_iff c.f0 c.f1).1 h1
  unfold u64P at h2 h3
  refine ⟨by omega, by omega, by omega, by omega, ?_⟩
  cases c with
  | mk a b m v =>
    simp only [S61of, P.S61.mk.injEq] at *
    omega
theorem joinC_jn (a b c d : List UInt8) : joinC a b c d = jn 32 [a, b, c, d] := rfl
theorem condsV_words : ∀ (cs : List P.S61) (j : List UInt8), (∀ c ∈ cs, condOk c) → condsV j (condsW j cs) = some cs := by
  intro cs
  induction cs with
  | nil => intro j _; rfl
  | cons c cs ih =>
    intro j h
    obtain ⟨h1, h2, h3, h4, h5⟩ := right_of (h c (by simp))
    have hp := condParse_text c.f0.toNat c.f1.toNat c.f2.toNat c.f3.toNat h1 h2 h3 h4
    simp only [condsW, condWs, List.cons_append, List.nil_append, condsV, if_true]
    rw [show joinC [97, UInt8.ofNat (48 + c.f0.toNat)] (TL c.f2.toNat) (WL c.f1.toNat) (TL c.f3.toNat) = CT c.f0.toNat c.f1.toNat c.f2.toNat c.f3.toNat from rfl, hp]
    simp only []
    rw [ih _ (fun c hc => h c (by simp [hc])), h5]
    rfl
theorem words_condsV : ∀ (n : Nat) (ws : List (List UInt8)) (j : List UInt8) (cs : List P.S61), ws.length ≤ n → (∀ w ∈ ws, (32 : UInt8) ∉ w) → condsV j ws = some cs → ws = condsW j cs ∧ ∀ c ∈ cs, condOk c := by
  intro n
  induction n with
  | zero =>
    intro ws j cs hn _ h
    cases ws with
    | nil => simp [condsV] at h; subst h; exact ⟨rfl, by simp⟩
    | cons => simp at hn
  | succ n ih =>
    intro ws j cs hn hw h
    rcases ws with _ | ⟨w, _ | ⟨a, _ | ⟨b, _ | ⟨c, _ | ⟨d, ws⟩⟩⟩⟩⟩
    · simp [condsV] at h; subst h; exact ⟨rfl, by simp⟩
    · simp [condsV] at h
    · simp [condsV] at h
    · simp [condsV] at h
    · simp [condsV] at h
    · simp only [condsV] at h
      split at h
      · rename_i hj
        cases hc : condParse (joinC a b c d) with
        | none => rw [hc] at h; simp at h
        | some x =>
          rw [hc] at h
          simp only [Option.map_eq_some_iff] at h
          obtain ⟨cs', h2, rfl⟩ := h
          obtain ⟨pa, pk, pm, pv⟩ := x
          obtain ⟨hl, ha, hk, hm, hv⟩ := text_condParse hc
          obtain ⟨i1, i2⟩ := ih ws _ cs' (by simp at hn; omega) (fun w hw' => hw w (by simp [hw'])) h2
          have hsp := congrArg (spl 32) hl
          rw [joinC_jn, show CT pa pk pm pv = jn 32 [[97, UInt8.ofNat (48 + pa)], TL pm, WL pk, TL pv] from rfl,
            spl_jn 32 _ (by simp) (by intro w hw'; exact hw w (by simp at hw' ⊢; rcases hw' with h | h | h | h <;> simp [h])),
            spl_jn 32 _ (by simp) (by
              intro w hw'
              simp only [List.mem_cons, List.not_mem_nil, or_false] at hw'
              rcases hw' with rfl | rfl | rfl | rfl
              · exact (arg_hi pa ha).no32
              · exact (TL_hi pm hm).no32
              · exact (WL_hi pk).no32
              · exact (TL_hi pv hv).no32)] at hsp
          simp only [List.cons.injEq, and_true] at hsp
          obtain ⟨e1, e2, e3, e4⟩ := hsp
          refine ⟨?_, ?_⟩
          · simp only [condsW, condWs, S61of, Int.toNat_natCast]
            rw [← i1, e1, e2, e3, e4, hj]; rfl
          · intro c' hc'
            rcases List.mem_cons.1 hc' with rfl | hc'
            · exact ⟨(rightB_iff _ _).2 (by simp only [S61of]; omega), by simp only [S61of, u64P]; omega, by simp only [S61of, u64P]; omega⟩
            · exact i2 c' hc'
      · simp at h
theorem ofB (s : ByteArray) : ofBytes s.data.toList = s := ofBytes_data s
theorem toN {v : Int} (h : u32P v) : v.toNat < 4294967296 ∧ ((v.toNat : Nat) : Int) = v := by unfold u32P at h; omega
theorem ruleV_words (x : P.S40) (h : ruleOk x) : ruleV (ruleWs x) = some x := by
  obtain ⟨h0, h1, ⟨h3, h3'⟩, h4, h5⟩ := h
  obtain ⟨n0, e0⟩ := toN h0
  obtain ⟨n1, e1⟩ := toN h1
  obtain ⟨n3, e3⟩ := toN h3
  have r0 := read_text good_ML x.f0.toNat n0
  have r1 := read_text (good_calls x.f0) x.f1.toNat n1
  have r3 := readAct_act x.f3.toNat n3 h3'
  simp only [ruleWs, machL, callL, actL, ruleV, ofB, r0, r3]
  rw [e0, r1, e3, e1]
  simp only [and_self, if_true, condsV_words _ _ h5, h4]
theorem words_ruleV {ws : List (List UInt8)} {x : P.S40} (hw : ∀ w ∈ ws, (32 : UInt8) ∉ w) (h : ruleV ws = some x) : ws = ruleWs x ∧ ruleOk x := by
  rcases ws with _ | ⟨m, _ | ⟨c, _ | ⟨a, ws⟩⟩⟩ <;> try (simp [ruleV] at h; done)
  simp only [ruleV] at h
  split at h
  · rename_i hok
    obtain ⟨k1, k2, k3⟩ := hok
    rcases text_read good_ML (ofBytes m) with ⟨_, n, hn, en, tn⟩ | h2
    · rw [en] at h k2
      rcases text_read (good_calls (n : Int)) (ofBytes c) with ⟨_, n2, hn2, en2, tn2⟩ | h2
      · rw [en2] at h
        rcases act_readAct (ofBytes a) with ⟨_, v, hv, ev, tv⟩ | h2
        · rw [ev] at h
          cases hc : condsV [105, 102] ws with
          | none => rw [hc] at h; simp at h
          | some cs =>
            rw [hc] at h
            simp only [] at h
            split at h
            · rename_i hl
              injection h with h
              subst h
              obtain ⟨i1, i2⟩ := words_condsV _ ws _ cs (Nat.le_refl _) (fun w hw' => hw w (by simp [hw'])) hc
              refine ⟨?_, by unfold u32P; simp only []; omega, by unfold u32P; simp only []; omega, ⟨by unfold u32P; simp only []; omega, by simp only [Int.toNat_natCast]; rw [tv]⟩, hl, i2⟩
              simp only [ruleWs, machL, callL, actL, Int.toNat_natCast, tn, tn2, tv, data_of]
              rw [← i1]
            · simp at h
        · rw [h2] at k3; simp at k3
      · rw [h2] at k2; simp at k2
    · rw [h2] at k1; simp at k1
  · simp at h
theorem condsW_hi (cs : List P.S61) : ∀ j, hi j → (∀ c ∈ cs, condOk c) → ∀ w ∈ condsW j cs, hi w := by
  induction cs with
  | nil => intro j _ _ w hw; simp [condsW] at hw
  | cons c cs ih =>
    intro j hj h w hw
    obtain ⟨h1, h2, h3, h4, _⟩ := right_of (h c (by simp))
    simp only [condsW, condWs, List.mem_cons, List.mem_append, List.not_mem_nil, or_false] at hw
    rcases hw with rfl | (rfl | rfl | rfl | rfl) | hw
    · exact hj
    · exact arg_hi _ h1
    · exact TL_hi _ h3
    · exact WL_hi _
    · exact TL_hi _ h4
    · exact ih _ (by unfold hi; decide) (fun c hc => h c (by simp [hc])) w hw
theorem ruleWs_hi {x : P.S40} (h : ruleOk x) : ∀ w ∈ [111, 110] :: ruleWs x, hi w := by
  obtain ⟨h0, h1, ⟨h3, h3'⟩, h4, h5⟩ := h
  intro w hw
  simp only [ruleWs, List.mem_cons] at hw
  rcases hw with rfl | rfl | rfl | rfl | hw
  · unfold hi; decide
  · exact textOf_hi good_ML ML_hi _ (toN h0).1
  · exact textOf_hi (good_calls _) (calls_hi _) _ (toN h1).1
  · exact act_hi _ (toN h3).1
  · exact condsW_hi _ _ (by unfold hi; decide) h5 w hw
theorem dflt_hi {v : Int} (h : dfOk v) : ∀ w ∈ [[100, 101, 102, 97, 117, 108, 116], actL v], hi w := by
  intro w hw
  simp only [List.mem_cons, List.not_mem_nil, or_false] at hw
  rcases hw with rfl | rfl
  · unfold hi; decide
  · exact act_hi _ (toN h.1).1
theorem jn_no10 (ws : List (List UInt8)) (h : ∀ w ∈ ws, hi w) : (10 : UInt8) ∉ jn 32 ws := by
  induction ws with
  | nil => simp [jn]
  | cons a r ih =>
    have ha := (h a (by simp)).no10
    cases r with
    | nil => exact ha
    | cons b r =>
      simp only [jn]
      have hb := ih (fun w hw => h w (by simp at hw ⊢; right; exact hw))
      simp only [List.mem_append, List.mem_cons, not_or]
      exact ⟨ha, by decide, hb⟩
theorem ruleT_spl {x : P.S40} (h : ruleOk x) : spl 32 (ruleT x) = [111, 110] :: ruleWs x := spl_jn 32 _ (by simp) (fun w hw => (ruleWs_hi h w hw).no32)
theorem dfltT_spl {v : Int} (h : dfOk v) : spl 32 (dfltT v) = [[100, 101, 102, 97, 117, 108, 116], actL v] := spl_jn 32 _ (by simp) (fun w hw => (dflt_hi h w hw).no32)
theorem ruleT_no10 {x : P.S40} (h : ruleOk x) : (10 : UInt8) ∉ ruleT x := jn_no10 _ (ruleWs_hi h)
theorem dfltT_no10 {v : Int} (h : dfOk v) : (10 : UInt8) ∉ dfltT v := jn_no10 _ (dflt_hi h)
theorem lineV_rule {x : P.S40} (h : ruleOk x) : lineV (ruleT x) = some (.inl x) := by
  rw [lineV_of (ruleT_spl h)]
  unfold lineW
  rw [if_pos rfl, ruleV_words x h]
  rfl
theorem dfltV_act {v : Int} (h : dfOk v) : dfltV [actL v] = some v := by
  have := readAct_act v.toNat (toN h.1).1 h.2
  simp only [dfltV, actL, ofB, this, if_true, (toN h.1).2]
theorem lineV_dflt {v : Int} (h : dfOk v) : lineV (dfltT v) = some (.inr v) := by
  rw [lineV_of (dfltT_spl h)]
  unfold lineW
  rw [if_neg (by decide), if_pos rfl, dfltV_act h]
  rfl
theorem rule_lineV {l : List UInt8} {x : P.S40} (h : lineV l = some (.inl x)) : l = ruleT x ∧ ruleOk x := by
  cases hs : spl 32 l with
  | nil => exact absurd hs (spl_ne _ _)
  | cons w ws =>
    rw [lineV_of hs] at h
    unfold lineW at h
    split at h
    · rename_i hw
      simp only [Option.map_eq_some_iff, Sum.inl.injEq] at h
      obtain ⟨y, h, rfl⟩ := h
      obtain ⟨h1, h2⟩ := words_ruleV (fun w' hw' => spl_mem 32 l w' (by rw [hs]; simp [hw'])) h
      refine ⟨?_, h2⟩
      rw [← jn_spl 32 l, hs, hw, h1]; rfl
    · split at h
      · simp at h
      · simp at h
theorem dflt_lineV {l : List UInt8} {v : Int} (h : lineV l = some (.inr v)) : l = dfltT v ∧ dfOk v := by
  cases hs : spl 32 l with
  | nil => exact absurd hs (spl_ne _ _)
  | cons w ws =>
    rw [lineV_of hs] at h
    unfold lineW at h
    split at h
    · simp at h
    · split at h
      · rename_i hw
        simp only [Option.map_eq_some_iff, Sum.inr.injEq] at h
        obtain ⟨y, h, rfl⟩ := h
        rcases ws with _ | ⟨a, _ | ⟨b, ws⟩⟩
        · simp [dfltV] at h
        · simp only [dfltV] at h
          split at h
          · rename_i hk
            injection h with h
            rcases act_readAct (ofBytes a) with ⟨_, v, hv, ev, tv⟩ | h2
            · rw [ev] at h
              subst h
              have ha : actL (v : Int) = a := by simp only [actL, Int.toNat_natCast, tv, data_of]
              refine ⟨?_, by unfold u32P; omega, by simp only [Int.toNat_natCast]; rw [tv]⟩
              rw [← jn_spl 32 l, hs, hw]; unfold dfltT; rw [ha]
            · rw [h2] at hk; simp at hk
          · simp at h
        · simp [dfltV] at h
      · simp at h
end Go.Proofs.Ytekpbgmmogpbdaa.H
set_option linter.unusedVariables false
set_option linter.unusedSimpArgs false
set_option maxRecDepth 100000
namespace Go.Proofs.Ytekpbgmmogpbdaa.H
open Go.RowKit Go.Proofs.YtekpbgmmogpbdaaW.PrintWords
theorem jn_app (c : UInt8) (a b : List (List UInt8)) (hb : b ≠ []) : jn c (a ++ b) = a.flatMap (fun l => l ++ [c]) ++ jn c b := by
  induction a with
  | nil => rfl
  | cons x a ih =>
    rw [List.cons_append, jn_cons _ _ _ (by simp [hb]), ih]
    simp
theorem polT_jn (L : List P.S40) (df : Int) : polT L df = jn 10 (L.map ruleT ++ [dfltT df, []]) := by
  rw [jn_app _ _ _ (by simp)]
  unfold polT
  rw [List.flatMap_map]
  rfl
theorem polT_spl {L : List P.S40} {df : Int} (h : polOk L df) (r : List (List UInt8)) (hr : ∀ w ∈ r, (10 : UInt8) ∉ w) : spl 10 (jn 10 (L.map ruleT ++ dfltT df :: r)) = L.map ruleT ++ dfltT df :: r := by
  refine spl_jn 10 _ (by simp) ?_
  intro w hw
  simp only [List.mem_append, List.mem_map, List.mem_cons] at hw
  rcases hw with ⟨x, hx, rfl⟩ | rfl | hw
  · exact ruleT_no10 (h.2.1 x hx)
  · exact dfltT_no10 h.2.2
  · exact hr w hw
theorem pl_step (n : Nat) (l : List UInt8) (ls : List (List UInt8)) (hls : ls ≠ []) (at_ : Nat) (L : List P.S40) (df : Int) {x : P.S40} (h : lineV l = some (.inl x)) (hl : L.length ≠ 64) :
    plines n (l :: ls) at_ false L df = plines n ls (at_ + l.length + 1) false (L ++ [x]) df := by
  rw [plines, if_neg hls, if_neg (by decide), h]
  simp only []
  rw [if_neg hl]
theorem pl_rules (n : Nat) (tail : List (List UInt8)) (ht : tail ≠ []) (df : Int) : ∀ (L L0 : List P.S40) (at_ : Nat), (∀ x ∈ L, ruleOk x) → L0.length + L.length ≤ 64 →
    ∃ at2, plines n (L.map ruleT ++ tail) at_ false L0 df = plines n tail at2 false (L0 ++ L) df := by
  intro L
  induction L with
  | nil => intro L0 at_ _ _; exact ⟨at_, by simp⟩
  | cons x L ih =>
    intro L0 at_ h hl
    simp only [List.length_cons] at hl
    rw [List.map_cons, List.cons_append, pl_step n _ _ (by simp [ht]) _ _ _ (lineV_rule (h x (by simp))) (by omega)]
    obtain ⟨a2, e⟩ := ih (L0 ++ [x]) _ (fun y hy => h y (by simp [hy])) (by simp; omega)
    exact ⟨a2, by rw [e]; simp⟩
theorem pl_dflt (n : Nat) (tail : List (List UInt8)) (ht : tail ≠ []) (at_ : Nat) (L : List P.S40) (d df : Int) (h : dfOk df) :
    plines n (dfltT df :: tail) at_ false L d = plines n tail (at_ + (dfltT df).length + 1) true L df := by
  rw [plines, if_neg ht, if_neg (by decide), lineV_dflt h]
theorem parse_polT {L : List P.S40} {df : Int} (h : polOk L df) (hz : (polT L df).length ≤ 20000) : parseV (polT L df) = (L, df, 0, 0) := by
  unfold parseV
  rw [if_neg (by omega), polT_jn, polT_spl h [[]] (by simp)]
  obtain ⟨a2, e⟩ := pl_rules (jn 10 (L.map ruleT ++ [dfltT df, []])).length [dfltT df, []] (by simp) 0 L [] 0 h.2.1 (by have := h.1; simpa using this)
  rw [e, pl_dflt _ _ (by simp) _ _ _ _ h.2.2, plines]
  simp
theorem pl_only (n : Nat) : ∀ (ls : List (List UInt8)) (at_ : Nat) (done : Bool) (L0 : List P.S40) (d : Int) (L : List P.S40) (df i : Int), ls ≠ [] → plines n ls at_ done L0 d = (L, df, i, 0) → L0.length ≤ 64 →
    i = 0 ∧ L.length ≤ 64 ∧ (if done = true then ls = [[]] ∧ L = L0 ∧ df = d else ∃ Lr, L = L0 ++ Lr ∧ (∀ x ∈ Lr, ruleOk x) ∧ dfOk df ∧ ls = Lr.map ruleT ++ [dfltT df, []]) := by
  intro ls
  induction ls with
  | nil => intro at_ done L0 d L df i h; exact absurd rfl h
  | cons l ls ih =>
    intro at_ done L0 d L df i _ h h64
    by_cases hls : ls = []
    · subst hls
      rw [plines, if_pos rfl] at h
      split at h
      · simp at h
      · rename_i hl
        have hl : l = [] := by simpa using hl
        split at h
        · rename_i hd
          simp only [Prod.mk.injEq] at h
          obtain ⟨rfl, rfl, rfl, _⟩ := h
          exact ⟨rfl, h64, by rw [if_pos hd]; exact ⟨by rw [hl], rfl, rfl⟩⟩
        · simp at h
    · rw [plines, if_neg hls] at h
      split at h
      · simp at h
      · rename_i hd
        rw [if_neg hd]
        cases hv : lineV l with
        | none => rw [hv] at h; simp at h
        | some y =>
          rw [hv] at h
          cases y with
          | inl x =>
            simp only [] at h
            split at h
            · simp at h
            · rename_i hne
              obtain ⟨hl, hok⟩ := rule_lineV hv
              obtain ⟨i1, i2, i3⟩ := ih _ _ _ _ _ _ _ hls h (by simp; omega)
              rw [if_neg (by decide)] at i3
              obtain ⟨Lr, e1, e2, e3, e4⟩ := i3
              refine ⟨i1, i2, x :: Lr, by rw [e1]; simp, ?_, e3, by rw [e4, hl]; rfl⟩
              intro y hy
              rcases List.mem_cons.1 hy with rfl | hy
              · exact hok
              · exact e2 y hy
          | inr v =>
            simp only [] at h
            obtain ⟨hl, hok⟩ := dflt_lineV hv
            obtain ⟨i1, i2, i3⟩ := ih _ _ _ _ _ _ _ hls h h64
            rw [if_pos rfl] at i3
            obtain ⟨e1, e2, e3⟩ := i3
            exact ⟨i1, i2, [], by rw [e2]; simp, by simp, by rw [e3]; exact hok, by rw [e1, hl, e3]; rfl⟩
theorem parse_only {s : List UInt8} {L : List P.S40} {df i : Int} (h : parseV s = (L, df, i, 0)) : s.length ≤ 20000 ∧ s = polT L df ∧ polOk L df ∧ i = 0 := by
  unfold parseV at h
  split at h
  · simp at h
  · rename_i hz
    obtain ⟨h1, h2, h3⟩ := pl_only _ _ _ _ _ _ _ _ _ (spl_ne 10 s) h (by simp)
    rw [if_neg (by decide)] at h3
    obtain ⟨Lr, e1, e2, e3, e4⟩ := h3
    rw [List.nil_append] at e1
    subst e1
    refine ⟨by omega, ?_, ⟨h2, e2, e3⟩, h1⟩
    rw [polT_jn, ← e4, jn_spl]
def placeOk (s : List UInt8) (i : Int) : Prop := 0 ≤ i ∧ i ≤ s.length ∧ (i = 0 ∨ s[i.toNat - 1]? = some 10 ∨ i = s.length)
theorem pl_place (s : List UInt8) : ∀ (ls : List (List UInt8)) (at_ : Nat) (done : Bool) (L0 : List P.S40) (d : Int), ls ≠ [] → s.drop at_ = jn 10 ls → placeOk s (at_ : Int) →
    ∀ r, plines s.length ls at_ done L0 d = r → (r.2.2.2 = 0 → r.2.2.1 = 0) ∧ (r.2.2.2 ≠ 0 → placeOk s r.2.2.1) ∧ (r.2.2.2 ≠ 0 → r.1 = [] ∧ r.2.1 = 0) ∧ (r.2.2.2 = 0 ∨ r.2.2.2 = 2 ∨ r.2.2.2 = 3 ∨ r.2.2.2 = 5) := by
  intro ls
  induction ls with
  | nil => intro at_ done L0 d h; exact absurd rfl h
  | cons l ls ih =>
    intro at_ done L0 d _ hd hp r hr
    have hend : placeOk s (s.length : Int) := ⟨by omega, by omega, .inr (.inr rfl)⟩
    by_cases hls : ls = []
    · subst hls
      rw [plines, if_pos rfl] at hr
      split at hr
      · subst hr; exact ⟨by simp, fun _ => hp, fun _ => ⟨rfl, rfl⟩, by simp⟩
      · split at hr
        · subst hr; exact ⟨by simp, by simp, by simp, by simp⟩
        · subst hr; exact ⟨by simp, fun _ => hend, fun _ => ⟨rfl, rfl⟩, by simp⟩
    · have hbad : ∀ e : Int, e ≠ 0 → (e = 2 ∨ e = 3) → (([], 0, (at_ : Int), e) : List P.S40 × Int × Int × Int) = r → (r.2.2.2 = 0 → r.2.2.1 = 0) ∧ (r.2.2.2 ≠ 0 → placeOk s r.2.2.1) ∧ (r.2.2.2 ≠ 0 → r.1 = [] ∧ r.2.1 = 0) ∧ (r.2.2.2 = 0 ∨ r.2.2.2 = 2 ∨ r.2.2.2 = 3 ∨ r.2.2.2 = 5) := by
        intro e he he2 hr
        subst hr
        exact ⟨fun h => absurd h he, fun _ => hp, fun _ => ⟨rfl, rfl⟩, by simp only []; omega⟩
      rw [jn_cons _ _ _ hls] at hd
      have hlen := congrArg List.length hd
      rw [List.length_drop, List.length_append, List.length_cons] at hlen
      have hnext : s.drop (at_ + l.length + 1) = jn 10 ls := by
        rw [show at_ + l.length + 1 = at_ + (l.length + 1) by omega, ← List.drop_drop, hd]
        simp
      have h10 : s[at_ + l.length]? = some 10 := by
        rw [← List.getElem?_drop, hd]
        simp
      have hp2 : placeOk s ((at_ + l.length + 1 : Nat) : Int) := by
        refine ⟨by omega, by omega, .inr (.inl ?_)⟩
        rw [show ((at_ + l.length + 1 : Nat) : Int).toNat - 1 = at_ + l.length by omega]
        exact h10
      rw [plines, if_neg hls] at hr
      split at hr
      · exact hbad 2 (by decide) (.inl rfl) hr
      · cases hv : lineV l with
        | none => rw [hv] at hr; exact hbad 2 (by decide) (.inl rfl) hr
        | some y =>
          rw [hv] at hr
          cases y with
          | inl x =>
            simp only [] at hr
            split at hr
            · exact hbad 3 (by decide) (.inr rfl) hr
            · exact ih _ _ _ _ hls hnext hp2 r hr
          | inr v => exact ih _ _ _ _ hls hnext hp2 r hr
theorem parse_place (s : List UInt8) : ((parseV s).2.2.2 = 0 → (parseV s).2.2.1 = 0) ∧ ((parseV s).2.2.2 ≠ 0 → placeOk s (parseV s).2.2.1) ∧ ((parseV s).2.2.2 ≠ 0 → (parseV s).1 = [] ∧ (parseV s).2.1 = 0) ∧ ((parseV s).2.2.2 = 0 ∨ (parseV s).2.2.2 = 2 ∨ (parseV s).2.2.2 = 3 ∨ (parseV s).2.2.2 = 5) := by
  unfold parseV
  split
  · exact ⟨by simp, fun _ => ⟨by decide, by simp, .inl rfl⟩, fun _ => ⟨rfl, rfl⟩, by simp⟩
  · exact pl_place s _ 0 false [] 0 (spl_ne _ _) (by rw [jn_spl]; rfl) ⟨by decide, by simp, .inl rfl⟩ _ rfl
theorem parse_cut {L : List P.S40} {df : Int} (h : polOk L df) (t : List UInt8) (ht : t ++ [10] = polT L df) (hz : t.length ≤ 20000) : (parseV t).2.2.2 = 2 := by
  have e : t = jn 10 (L.map ruleT ++ [dfltT df]) := by
    have h1 : t ++ [10] = (L.flatMap fun x => ruleT x ++ [10]) ++ dfltT df ++ [10] := by rw [ht]; unfold polT; simp
    have h2 := List.append_cancel_right h1
    rw [h2, jn_app _ _ _ (by simp), List.flatMap_map]
    rfl
  unfold parseV
  rw [if_neg (by omega), e, polT_spl h [] (by simp)]
  obtain ⟨a2, e2⟩ := pl_rules (jn 10 (L.map ruleT ++ [dfltT df])).length [dfltT df] (by simp) 0 L [] 0 h.2.1 (by have := h.1; simpa using this)
  rw [e2, plines, if_pos rfl, if_pos (by unfold dfltT; simp [jn])]
theorem parse_more {L : List P.S40} {df : Int} (h : polOk L df) (x : List UInt8) (hx : (10 : UInt8) ∉ x) : (parseV (polT L df ++ (x ++ [10]))).2.2.2 = 2 ∨ (parseV (polT L df ++ (x ++ [10]))).2.2.2 = 3 := by
  have e : polT L df ++ (x ++ [10]) = jn 10 (L.map ruleT ++ [dfltT df, x, []]) := by
    rw [jn_app _ _ _ (by simp), List.flatMap_map]
    unfold polT
    simp [jn]
  unfold parseV
  split
  · right; rfl
  · left
    rw [e, polT_spl h [x, []] (by intro w hw; simp at hw; rcases hw with rfl | rfl; exact hx; simp)]
    obtain ⟨a2, e2⟩ := pl_rules (jn 10 (L.map ruleT ++ [dfltT df, x, []])).length [dfltT df, x, []] (by simp) 0 L [] 0 h.2.1 (by have := h.1; simpa using this)
    rw [e2, pl_dflt _ _ (by simp) _ _ _ _ h.2.2, plines, if_neg (by simp), if_pos rfl]
end Go.Proofs.Ytekpbgmmogpbdaa.H
set_option linter.unusedVariables false
set_option linter.unusedSimpArgs false
set_option maxRecDepth 100000
namespace Go.Proofs.Ytekpbgmmogpbdaa.H
open Go.RowKit Go.Proofs.Ytekpbgmmogpbdaa.P Go.Proofs.YtekpbgmmogpbdaaW.PrintWords
def condK (c : S61) : Prop := u64P c.f2 ∧ u64P c.f3
def ruleK (x : S40) : Prop := u32P x.f0 ∧ u32P x.f1 ∧ u32P x.f3 ∧ ∀ c ∈ x.f2, condK c
def polK (L : List S40) (df : Int) : Prop := (∀ x ∈ L, ruleK x) ∧ u32P df
def actB (v : Int) : Bool := decide ((actOf v.toNat).2 = 0)
def condsB (cs : List S61) : Bool := cs.all fun c => rightB c.f0 c.f1
def ruleB (x : S40) : Bool := condsB x.f2 && (actB x.f3 && decide (x.f2.length ≤ 4))
def rulesB (L : List S40) : Bool := L.all ruleB
def polB (L : List S40) (df : Int) : Bool := rulesB L && (actB df && decide (L.length ≤ 64))
theorem ruleOk_iff {x : S40} (h : ruleK x) : ruleB x = true ↔ ruleOk x := by
  obtain ⟨h0, h1, h3, h4⟩ := h
  simp only [ruleB, condsB, actB, Bool.and_eq_true, decide_eq_true_eq, List.all_eq_true]
  constructor
  · rintro ⟨a, b, c⟩
    exact ⟨h0, h1, ⟨h3, b⟩, c, fun y hy => ⟨a y hy, (h4 y hy).1, (h4 y hy).2⟩⟩
  · rintro ⟨_, _, ⟨_, b⟩, c, d⟩
    exact ⟨fun y hy => (d y hy).1, b, c⟩
theorem polOk_iff {L : List S40} {df : Int} (h : polK L df) : polB L df = true ↔ polOk L df := by
  simp only [polB, rulesB, actB, Bool.and_eq_true, decide_eq_true_eq, List.all_eq_true]
  constructor
  · rintro ⟨a, b, c⟩
    exact ⟨c, fun x hx => (ruleOk_iff (h.1 x hx)).1 (a x hx), h.2, b⟩
  · rintro ⟨a, b, c, d⟩
    exact ⟨fun x hx => (ruleOk_iff (h.1 x hx)).2 (b x hx), d, a⟩
theorem ruleOk_K {x : S40} (h : ruleOk x) : ruleK x := ⟨h.1, h.2.1, h.2.2.1.1, fun c hc => (h.2.2.2.2 c hc).2⟩
theorem polOk_K {L : List S40} {df : Int} (h : polOk L df) : polK L df := ⟨fun x hx => ruleOk_K (h.2.1 x hx), h.2.2.1⟩
theorem wS (n : Nat) (h : n ≤ 1000000) : wrap64 ((n : Int) + 1) = ((n + 1 : Nat) : Int) := by unfold wrap64; omega
theorem rd61 (l : List S61) (i : Nat) (h : i < l.length) : rd_T61 l (i : Int) = l[i] := by
  unfold rd_T61; rw [Int.toNat_natCast, List.getD_eq_getElem?_getD, List.getElem?_eq_getElem h]; rfl
theorem rd40 (l : List S40) (i : Nat) (h : i < l.length) : rd_T40 l (i : Int) = l[i] := by
  unfold rd_T40; rw [Int.toNat_natCast, List.getD_eq_getElem?_getD, List.getElem?_eq_getElem h]; rfl
theorem cond_Right_f (a b c d : Int) : cond_Right.f a b c d = some (rightB a b) := by
  unfold cond_Right.f rightB
  by_cases h1 : a ≥ 0
  · rw [if_pos h1]
    by_cases h2 : a < 6
    · rw [if_pos h2]
      by_cases h3 : b ≥ 0
      · rw [if_pos h3]; simp [h1, h2, h3]
      · rw [if_neg h3]; simp [h1, h2]; omega
    · rw [if_neg h2]; simp [h2]
  · rw [if_neg h1]; simp [h1]
theorem names_Action_f {v : Int} (h : u32P v) : names_Action.f v = some (actOf v.toNat) := by unfold names_Action.f; rw [if_pos h]
theorem may_l0 (f0 f1 f3 : Int) (h3 : u32P f3) (cs l : List S61) (hl : cs.length ≤ 1000) : ∀ (d i : Nat), i + d = cs.length →
    Ev (fun k => policy_may.l0 k cs (cs.length : Int) (i : Int) f0 f1 l f3) (condsB (cs.drop i) && (actB f3 && decide (l.length ≤ 4))) := by
  intro d
  induction d with
  | zero =>
    intro i hi
    refine Ev.step (f := fun _ => some (condsB (cs.drop i) && (actB f3 && decide (l.length ≤ 4)))) (fun k => ?_) (Ev.now _)
    simp only [policy_may.l0]
    rw [if_neg (by omega), names_Action_f h3, Option.bind_some, List.drop_eq_nil_of_le (by omega)]
    unfold condsB actB
    by_cases h : (actOf f3.toNat).2 = 0
    · rw [if_pos h]; simp only [h, List.all_nil, decide_true, Bool.true_and]; congr 1; exact decide_eq_decide.2 (by omega)
    · rw [if_neg h]; simp [h]
  | succ d ih =>
    intro i hi
    have hlt : i < cs.length := by omega
    have hd : cs.drop i = cs[i] :: cs.drop (i + 1) := List.drop_eq_getElem_cons hlt
    by_cases hr : rightB cs[i].f0 cs[i].f1 = true
    · refine Ev.step (f := fun k => policy_may.l0 k cs (cs.length : Int) ((i + 1 : Nat) : Int) f0 f1 l f3) (fun k => ?_) ?_
      · simp only [policy_may.l0]
        rw [if_pos (by omega), if_pos (by omega), if_pos (by omega), rd61 cs i hlt, cond_Right_f, Option.bind_some, if_pos hr, wS i (by omega)]
      · rw [hd, show condsB (cs[i] :: cs.drop (i + 1)) = condsB (cs.drop (i + 1)) by simp only [condsB, List.all_cons, hr, Bool.true_and]]
        exact ih (i + 1) (by omega)
    · refine Ev.step (f := fun _ => some false) (fun k => ?_) ?_
      · simp only [policy_may.l0]
        rw [if_pos (by omega), if_pos (by omega), if_pos (by omega), rd61 cs i hlt, cond_Right_f, Option.bind_some, if_neg hr]
      · rw [hd, show condsB (cs[i] :: cs.drop (i + 1)) = false by simp only [condsB, List.all_cons]; rw [Bool.eq_false_iff.2 hr]; rfl]
        exact Ev.now _
theorem may_ev (x : S40) (h3 : u32P x.f3) (hl : x.f2.length ≤ 1000) : Ev (fun k => policy_may.f k x.f0 x.f1 x.f2 x.f3) (ruleB x) := may_l0 x.f0 x.f1 x.f3 h3 x.f2 x.f2 hl x.f2.length 0 (by omega)
theorem right_l0 (df : Int) (h3 : u32P df) (L M : List S40) (hl : L.length ≤ 1000) (hk : ∀ x ∈ L, u32P x.f3 ∧ x.f2.length ≤ 1000) : ∀ (d i : Nat), i + d = L.length →
    Ev (fun k => policy_Right.l0 k L (L.length : Int) (i : Int) M df) (rulesB (L.drop i) && (actB df && decide (M.length ≤ 64))) := by
  intro d
  induction d with
  | zero =>
    intro i hi
    refine Ev.step (f := fun _ => some (rulesB (L.drop i) && (actB df && decide (M.length ≤ 64)))) (fun k => ?_) (Ev.now _)
    simp only [policy_Right.l0]
    rw [if_neg (by omega), names_Action_f h3, Option.bind_some, List.drop_eq_nil_of_le (by omega)]
    unfold rulesB actB
    by_cases h : (actOf df.toNat).2 = 0
    · rw [if_pos h]; simp only [h, List.all_nil, decide_true, Bool.true_and]; congr 1; exact decide_eq_decide.2 (by omega)
    · rw [if_neg h]; simp [h]
  | succ d ih =>
    intro i hi
    have hlt : i < L.length := by omega
    have hd : L.drop i = L[i] :: L.drop (i + 1) := List.drop_eq_getElem_cons hlt
    have hx := hk L[i] (List.getElem_mem hlt)
    refine Ev.step (f := fun k => (policy_may.f k L[i].f0 L[i].f1 L[i].f2 L[i].f3).bind fun t => if t = true then policy_Right.l0 k L (L.length : Int) ((i + 1 : Nat) : Int) M df else some false) (fun k => ?_) ?_
    · simp only [policy_Right.l0]
      rw [if_pos (by omega), if_pos (by omega), if_pos (by omega), rd40 L i hlt, wS i (by omega)]
    · refine Ev.bind (may_ev L[i] hx.1 hx.2) ?_
      by_cases hr : ruleB L[i] = true
      · rw [hd, show rulesB (L[i] :: L.drop (i + 1)) = rulesB (L.drop (i + 1)) by simp only [rulesB, List.all_cons, hr, Bool.true_and]]
        exact Ev.congr (fun k => if_pos hr) (ih (i + 1) (by omega))
      · rw [hd, show rulesB (L[i] :: L.drop (i + 1)) = false by simp only [rulesB, List.all_cons]; rw [Bool.eq_false_iff.2 hr]; rfl]
        exact Ev.congr (fun k => if_neg hr) (Ev.now _)
theorem right_ev (L : List S40) (df : Int) (h : polK L df) (hl : L.length ≤ 1000) (hc : ∀ x ∈ L, x.f2.length ≤ 1000) : Ev (fun k => policy_Right.f k L df) (polB L df) :=
  right_l0 df h.2 L L hl (fun x hx => ⟨(h.1 x hx).2.2.1, hc x hx⟩) L.length 0 (by omega)
theorem ML_sz : ∀ p ∈ ML, p.1.size ≤ 18 := by unfold ML; decide
theorem AL_sz : ∀ p ∈ AL, p.1.size ≤ 18 := by unfold AL; decide
theorem calls_sz (a : Int) : ∀ p ∈ callsOf a, p.1.size ≤ 18 := by
  unfold callsOf
  split
  · unfold Cx64; decide
  · split
    · unfold Cx86; decide
    · split
      · unfold Ca64; decide
      · split
        · unfold Carm; decide
        · intro p hp; simp at hp
theorem textOf_sz {l : NL} (g : NGood l) (hl : ∀ p ∈ l, p.1.size ≤ 18) (n : Nat) (hn : n < 4294967296) : (textOf l n).size ≤ 18 := by
  unfold textOf
  rcases name_cases g (n : Int) with ⟨p, hp, h2, h3, h4⟩ | ⟨h1, h2⟩
  · rw [if_neg (by rw [h4]; decide), h3]; exact hl p hp
  · rw [if_pos (by rw [h2]; exact empty_isEmpty)]; exact textL_size n (by omega)
theorem act_sz (v : Nat) (hv : v < 4294967296) : (actOf v).1.size ≤ 24 := by
  rcases act_cases v hv with ⟨p, hp, h2, h3, h4⟩ | ⟨d, hd, h2, h3⟩ | ⟨h1, h2, h3⟩
  · rw [h3]; have := AL_sz p hp; simp only []; omega
  · rw [h3]; simp only [pre_size]; have := textL_size d (by omega); omega
  · rw [h3]; simp [ByteArray.size]
theorem TL_len (n : Nat) (h : n < 18446744073709551616) : (TL n).length ≤ 18 := by
  have := textL_size n h
  rw [strOfNums_size] at this
  unfold TL u8s
  simpa using this
theorem WL_len (k : Nat) : (WL k).length = 2 := by unfold WL; rw [← size_list]; exact wordK_size k
theorem CT_len (a k m v : Nat) (hm : m < 18446744073709551616) (hv : v < 18446744073709551616) : (CT a k m v).length ≤ 43 := by
  have h1 := TL_len m hm
  have h2 := TL_len v hv
  have h3 := WL_len k
  unfold CT
  simp only [List.length_append, List.length_cons, List.length_nil]
  omega
def CTc (c : S61) : List UInt8 := CT c.f0.toNat c.f1.toNat c.f2.toNat c.f3.toNat
def contT : List UInt8 → List S61 → List UInt8
  | _, [] => []
  | j, c :: cs => 32 :: (j ++ 32 :: (CTc c ++ contT [97, 110, 100] cs))
theorem jn_append (c : UInt8) (a b : List (List UInt8)) (ha : a ≠ []) (hb : b ≠ []) : jn c (a ++ b) = jn c a ++ c :: jn c b := by
  induction a with
  | nil => exact absurd rfl ha
  | cons x a ih =>
    cases a with
    | nil => exact jn_cons c x b hb
    | cons y a =>
      rw [List.cons_append, jn_cons _ _ _ (by simp), ih (by simp), jn_cons _ x _ (by simp)]
      simp
theorem jn_conds : ∀ (cs : List S61) (j : List UInt8) (pre : List (List UInt8)), pre ≠ [] → jn 32 (pre ++ condsW j cs) = jn 32 pre ++ contT j cs := by
  intro cs
  induction cs with
  | nil => intro j pre _; simp [condsW, contT]
  | cons c cs ih =>
    intro j pre hp
    have e : pre ++ condsW j (c :: cs) = (pre ++ j :: condWs c) ++ condsW [97, 110, 100] cs := by simp [condsW]
    rw [e, ih _ _ (by simp), jn_append _ _ _ hp (by simp), jn_cons _ _ _ (by simp [condWs])]
    simp only [contT, CTc]
    rw [show jn 32 (condWs c) = CT c.f0.toNat c.f1.toNat c.f2.toNat c.f3.toNat from rfl]
    simp
theorem ruleT_eq (x : S40) : ruleT x = [111, 110, 32] ++ machL x ++ [32] ++ callL x ++ [32] ++ actL x.f3 ++ contT [105, 102] x.f2 := by
  have e : ([111, 110] :: ruleWs x) = [[111, 110], machL x, callL x, actL x.f3] ++ condsW [105, 102] x.f2 := rfl
  unfold ruleT
  rw [e, jn_conds _ _ _ (by simp)]
  simp [jn]
theorem cond_Print_f {c : S61} (h : condOk c) : cond_Print.f c.f0 c.f1 c.f2 c.f3 = some (ofBytes (CTc c), 0) := by
  obtain ⟨h1, h2, h3, h4, h5⟩ := right_of h
  unfold cond_Print.f
  rw [if_pos h.2]
  unfold printR
  rw [if_pos h.1]
  have e2 : ((c.f2.toNat : Nat) : Int) = c.f2 := by have := h.2.1; unfold u64P at this; omega
  have e3 : ((c.f3.toNat : Nat) : Int) = c.f3 := by have := h.2.2; unfold u64P at this; omega
  have := condText_list c.f0.toNat c.f1.toNat c.f2.toNat c.f3.toNat
  rw [e2, e3] at this
  rw [show condText c.f0.toNat c.f1.toNat c.f2 c.f3 = ofBytes (CTc c) from ba_eq (by rw [this, data_of]; rfl)]
theorem CTc_len {c : S61} (h : condOk c) : (CTc c).length ≤ 43 := by
  obtain ⟨h1, h2, h3, h4, h5⟩ := right_of h
  exact CT_len _ _ _ _ h3 h4
theorem contT_len : ∀ (cs : List S61) (j : List UInt8), j.length ≤ 3 → (∀ c ∈ cs, condOk c) → (contT j cs).length ≤ 48 * cs.length := by
  intro cs
  induction cs with
  | nil => intro j _ _; simp [contT]
  | cons c cs ih =>
    intro j hj h
    have h1 := CTc_len (h c (by simp))
    have h2 := ih [97, 110, 100] (by simp) (fun c hc => h c (by simp [hc]))
    simp only [contT, List.length_cons, List.length_append]
    omega
theorem of_append (a b : List UInt8) : ofBytes a ++ ofBytes b = ofBytes (a ++ b) := ba_eq (by rw [ba_add]; simp only [data_of])
theorem rule_l0 (cs : List S61) (hl : cs.length ≤ 1000) (hk : ∀ c ∈ cs, condOk c) : ∀ (d i : Nat) (acc j : List UInt8), i + d = cs.length → acc.length ≤ 1000 + 48 * i → j.length ≤ 3 →
    Ev (fun k => policy_rule.l0 k (ofBytes acc) (ofBytes (32 :: (j ++ [32]))) cs (cs.length : Int) (i : Int)) (ofBytes (acc ++ contT j (cs.drop i))) := by
  intro d
  induction d with
  | zero =>
    intro i acc j hi ha hj
    refine Ev.step (f := fun _ => some (ofBytes (acc ++ contT j (cs.drop i)))) (fun k => ?_) (Ev.now _)
    simp only [policy_rule.l0]
    rw [if_neg (by omega), List.drop_eq_nil_of_le (by omega)]
    simp [contT]
  | succ d ih =>
    intro i acc j hi ha hj
    have hlt : i < cs.length := by omega
    have hd : cs.drop i = cs[i] :: cs.drop (i + 1) := List.drop_eq_getElem_cons hlt
    have hc := hk cs[i] (List.getElem_mem hlt)
    have hz := CTc_len hc
    refine Ev.step (f := fun k => policy_rule.l0 k (ofBytes (acc ++ (32 :: (j ++ 32 :: CTc cs[i])))) (ofBytes (32 :: ([97, 110, 100] ++ [32]))) cs (cs.length : Int) ((i + 1 : Nat) : Int)) (fun k => ?_) ?_
    · simp only [policy_rule.l0]
      rw [if_pos (by omega), if_pos (by omega), if_pos (by omega), rd61 cs i hlt, cond_Print_f hc, Option.bind_some]
      rw [if_pos (by simp only [size_of, List.length_cons, List.length_append, List.length_nil]; omega), if_pos (by rw [of_append]; simp only [size_of, List.length_cons, List.length_append, List.length_nil]; omega), of_append, of_append, wS i (by omega)]
      congr 2
      simp
    · have := ih (i + 1) (acc ++ (32 :: (j ++ 32 :: CTc cs[i]))) [97, 110, 100] (by omega) (by simp only [List.length_cons, List.length_append]; omega) (by simp)
      rw [hd]
      simp only [contT]
      refine Ev.congr (fun k => rfl) ?_
      rw [show acc ++ 32 :: (j ++ 32 :: (CTc cs[i] ++ contT [97, 110, 100] (cs.drop (i + 1)))) = (acc ++ (32 :: (j ++ 32 :: CTc cs[i]))) ++ contT [97, 110, 100] (cs.drop (i + 1)) by simp]
      exact this
theorem rule_ev {x : S40} (h : ruleOk x) : Ev (fun k => policy_rule.f k x.f0 x.f1 x.f2 x.f3) (ofBytes (ruleT x)) := by
  obtain ⟨h0, h1, ⟨h3, h3'⟩, h4, h5⟩ := h
  have z0 := textOf_sz good_ML ML_sz _ (toN h0).1
  have z1 := textOf_sz (good_calls x.f0) (calls_sz _) _ (toN h1).1
  have z3 := act_sz _ (toN h3).1
  have l0 : (machL x).length ≤ 18 := by unfold machL; rw [← size_list]; exact z0
  have l1 : (callL x).length ≤ 18 := by unfold callL; rw [← size_list]; exact z1
  have l3 : (actL x.f3).length ≤ 24 := by unfold actL; rw [← size_list]; exact z3
  refine Ev.congr (f := fun k => policy_rule.l0 k (ofBytes ([111, 110, 32] ++ machL x ++ [32] ++ callL x ++ [32] ++ actL x.f3)) (ofBytes (32 :: ([105, 102] ++ [32]))) x.f2 (x.f2.length : Int) ((0 : Nat) : Int)) (fun k => ?_) ?_
  · unfold policy_rule.f
    have hs3 : (⟨#[111, 110, 32]⟩ : ByteArray).size = 3 := rfl
    have hs1 : (⟨#[32]⟩ : ByteArray).size = 1 := rfl
    rw [names_Action_f h3, Option.bind_some]
    unfold names_Machine.f names_Call.f
    rw [if_pos h0, Option.bind_some, if_pos (by omega), if_pos (by simp only [ByteArray.size_append]; omega), if_pos h1, Option.bind_some, if_pos (by simp only [ByteArray.size_append]; omega), if_pos (by simp only [ByteArray.size_append]; omega), if_pos (by simp only [ByteArray.size_append]; omega)]
    congr 1
  · rw [ruleT_eq]
    exact rule_l0 x.f2 (by omega) h5 x.f2.length 0 _ _ (by omega) (by simp only [List.length_append, List.length_cons, List.length_nil]; omega) (by simp)
theorem ruleT_len {x : S40} (h : ruleOk x) : (ruleT x).length ≤ 300 := by
  obtain ⟨h0, h1, ⟨h3, h3'⟩, h4, h5⟩ := h
  have z0 := textOf_sz good_ML ML_sz _ (toN h0).1
  have z1 := textOf_sz (good_calls x.f0) (calls_sz _) _ (toN h1).1
  have z3 := act_sz _ (toN h3).1
  have l0 : (machL x).length ≤ 18 := by unfold machL; rw [← size_list]; exact z0
  have l1 : (callL x).length ≤ 18 := by unfold callL; rw [← size_list]; exact z1
  have l3 : (actL x.f3).length ≤ 24 := by unfold actL; rw [← size_list]; exact z3
  have := contT_len x.f2 [105, 102] (by simp) h5
  rw [ruleT_eq]
  simp only [List.length_append, List.length_cons, List.length_nil]
  omega
theorem dfltT_eq (v : Int) : dfltT v = [100, 101, 102, 97, 117, 108, 116, 32] ++ actL v := rfl
theorem print_l0 (df : Int) (hdf : dfOk df) (L M : List S40) (hl : L.length ≤ 1000) (hk : ∀ x ∈ L, ruleOk x) : ∀ (d i : Nat) (acc : List UInt8), i + d = L.length → acc.length ≤ 301 * i →
    Ev (fun k => policy_Print.l0 k (ofBytes acc) L (L.length : Int) (i : Int) M df) (ofBytes (acc ++ polT (L.drop i) df), 0) := by
  have z3 := act_sz _ (toN hdf.1).1
  have l3 : (actL df).length ≤ 24 := by unfold actL; rw [← size_list]; exact z3
  intro d
  induction d with
  | zero =>
    intro i acc hi ha
    refine Ev.step (f := fun _ => some (ofBytes (acc ++ polT (L.drop i) df), 0)) (fun k => ?_) (Ev.now _)
    simp only [policy_Print.l0]
    have hs8 : (⟨#[100, 101, 102, 97, 117, 108, 116, 32]⟩ : ByteArray).size = 8 := rfl
    rw [if_neg (by omega), names_Action_f hdf.1, Option.bind_some, if_pos (by rw [size_of]; omega), if_pos (by simp only [ByteArray.size_append, size_of]; omega), if_pos (by simp only [ByteArray.size_append, size_of]; omega), List.drop_eq_nil_of_le (by omega)]
    refine congrArg some (congrArg (·, (0 : Int)) (ba_eq ?_))
    simp only [ba_add, data_of, polT, dfltT_eq, actL, List.flatMap_nil, List.nil_append, List.append_assoc]
  | succ d ih =>
    intro i acc hi ha
    have hlt : i < L.length := by omega
    have hd : L.drop i = L[i] :: L.drop (i + 1) := List.drop_eq_getElem_cons hlt
    have hx := hk L[i] (List.getElem_mem hlt)
    have hz := ruleT_len hx
    refine Ev.step (f := fun k => (policy_rule.f k L[i].f0 L[i].f1 L[i].f2 L[i].f3).bind fun t => (if t.size + 1 ≤ 9223372036854775807 then (if (ofBytes acc).size + (t ++ (⟨#[10]⟩ : ByteArray)).size ≤ 9223372036854775807 then (policy_Print.l0 k (ofBytes acc ++ (t ++ (⟨#[10]⟩ : ByteArray))) L (L.length : Int) ((i + 1 : Nat) : Int) M df) else (none)) else (none))) (fun k => ?_) ?_
    · simp only [policy_Print.l0]
      rw [if_pos (by omega), if_pos (by omega), if_pos (by omega), rd40 L i hlt, wS i (by omega)]
    · refine Ev.bind (rule_ev hx) ?_
      have hs1 : (⟨#[10]⟩ : ByteArray).size = 1 := rfl
      have e : ofBytes acc ++ (ofBytes (ruleT L[i]) ++ (⟨#[10]⟩ : ByteArray)) = ofBytes (acc ++ (ruleT L[i] ++ [10])) := ba_eq (by simp only [ba_add, data_of])
      refine Ev.congr (f := fun k => policy_Print.l0 k (ofBytes (acc ++ (ruleT L[i] ++ [10]))) L (L.length : Int) ((i + 1 : Nat) : Int) M df) (fun k => ?_) ?_
      · rw [if_pos (by rw [size_of]; omega), if_pos (by simp only [ByteArray.size_append, size_of]; omega), e]
      · rw [hd, show acc ++ polT (L[i] :: L.drop (i + 1)) df = (acc ++ (ruleT L[i] ++ [10])) ++ polT (L.drop (i + 1)) df by simp only [polT, List.flatMap_cons, List.append_assoc]]
        exact ih (i + 1) _ (by omega) (by simp only [List.length_append, List.length_cons, List.length_nil]; omega)
theorem print_ev (L : List S40) (df : Int) (h : polK L df) (hl : L.length ≤ 1000) (hc : ∀ x ∈ L, x.f2.length ≤ 1000) :
    Ev (fun k => policy_Print.f k L df) (if polB L df = true then (ofBytes (polT L df), 0) else (⟨#[]⟩, 1)) := by
  unfold policy_Print.f
  refine Ev.bind (right_ev L df h hl hc) ?_
  by_cases hb : polB L df = true
  · rw [if_pos hb]
    have ho := (polOk_iff h).1 hb
    refine Ev.congr (fun k => if_pos hb) ?_
    exact print_l0 df ho.2.2 L L hl ho.2.1 L.length 0 [] (by omega) (by simp)
  · rw [if_neg hb]
    exact Ev.congr (fun k => if_neg hb) (Ev.now _)
end Go.Proofs.Ytekpbgmmogpbdaa.H
set_option linter.unusedVariables false
set_option linter.unusedSimpArgs false
set_option maxRecDepth 100000
namespace Go.Proofs.Ytekpbgmmogpbdaa.H
open Go.RowKit Go.Proofs.Ytekpbgmmogpbdaa.P Go.Proofs.YtekpbgmmogpbdaaW.PrintWords
def kn1 : List UInt8 := [111, 110, 32, 120, 54, 52, 32, 119, 114, 105, 116, 101, 32, 97, 108, 108, 111, 119, 32, 105, 102, 32, 97, 48, 32, 48, 120, 102, 102, 102, 102, 102, 102, 102, 102, 32, 101, 113, 32, 48, 120, 49, 10, 100, 101, 102, 97, 117, 108, 116, 32, 107, 105, 108, 108, 10]
def kn2 : List UInt8 := [100, 101, 102, 97, 117, 108, 116, 32, 107, 105, 108, 108, 10, 104, 97, 121, 10]
def knL : List S40 := [⟨3221225534, 1, [⟨0, 0, 4294967295, 1⟩], 2147418112⟩]
set_option maxRecDepth 100000 in
theorem kn1_parse : parseV kn1 = (knL, 0, 0, 0) := by kernel_rfl
set_option maxRecDepth 100000 in
theorem kn2_parse : (parseV kn2).2.2 = (13, 2) := by kernel_rfl
theorem parse_f (s : ByteArray) (h : s.size ≤ 140737488351232) : policy_Parse.f s = some (parseV s.data.toList) := by unfold policy_Parse.f; rw [if_pos h]
theorem knows_ev : Ev (fun k => hurdlelaw10_knows.f k) true := by
  obtain ⟨hz, h1, h2, _⟩ := parse_only kn1_parse
  have hk := polOk_K h2
  have hb := (polOk_iff hk).2 h2
  have hc : ∀ x ∈ knL, x.f2.length ≤ 1000 := by intro x hx; have := (h2.2.1 x hx).2.2.2.1; omega
  have hp := print_ev knL 0 hk (by decide) hc
  have hr := right_ev knL 0 hk (by decide) hc
  rw [if_pos hb] at hp
  rw [hb] at hr
  have e1 : policy_Parse.f (⟨#[111, 110, 32, 120, 54, 52, 32, 119, 114, 105, 116, 101, 32, 97, 108, 108, 111, 119, 32, 105, 102, 32, 97, 48, 32, 48, 120, 102, 102, 102, 102, 102, 102, 102, 102, 32, 101, 113, 32, 48, 120, 49, 10, 100, 101, 102, 97, 117, 108, 116, 32, 107, 105, 108, 108, 10]⟩ : ByteArray) = some (knL, 0, 0, 0) := by
    rw [parse_f _ (by decide), ← kn1_parse]; rfl
  have e2 : policy_Parse.f (⟨#[100, 101, 102, 97, 117, 108, 116, 32, 107, 105, 108, 108, 10, 104, 97, 121, 10]⟩ : ByteArray) = some ((parseV kn2).1, (parseV kn2).2.1, 13, 2) := by
    rw [parse_f _ (by decide)]
    exact congrArg (fun x => some ((parseV kn2).1, (parseV kn2).2.1, x)) kn2_parse
  unfold hurdlelaw10_knows.f
  simp only [e1, e2, Option.bind_some]
  refine Ev.bind hp ?_
  refine Ev.congr (f := fun k => (policy_Right.f k knL 0).bind fun t => some t) (fun k => ?_) (Ev.bind hr (Ev.now _))
  have t1 : (ofBytes (polT knL 0)).toList = kn1 := by rw [ByteArray.toList_eq, data_of, ← h1]
  simp only [t1]
  rfl
end Go.Proofs.Ytekpbgmmogpbdaa.H
