/-
The contracts of package names, second part: text, read, and the exported functions.
-/
import Derived.Test.YthdkgpmpopjnaaaHNames
import Derived.Test.YthdkgpmpopjnaaaHDigits
set_option linter.unusedVariables false
set_option linter.unusedSimpArgs false
namespace Go.Proofs.Ythdkgpmpopjnaaa.H
open Go.RowKit Go.Proofs.YthdkgpmpopjnaaaW.PrintWords Go.Instr

def textOf (l : NL) (n : Nat) : ByteArray := if (nameOf l n).toList.isEmpty = true then strOfNums (textL n) else nameOf l n
def readOf (l : NL) (s : ByteArray) : Int × Int :=
  match numOf l s with
  | some v => (v, 0)
  | none => match parseL s.data.toList with
    | none => (0, 2)
    | some n => if 4294967296 ≤ n ∨ (nameOf l n).toList.isEmpty = false then (0, 2) else (n, 0)
def Res2 (r : Int × Int) (e : Ending) : Prop := e = .returned (.tuple #[.int .u32 r.1, .int .i64 r.2])

theorem text_of (n : Nat) (h : n < 18446744073709551616) (w : World) :
    Calls Try.prog 39 #[.int .u64 n] w fun e w' => e = .returned (.string (strOfNums (textL n))) ∧ Below w.heap.size w w' := by
  have := text_walk n h w
  rw [textGo_eq n h] at this
  exact this

set_option maxHeartbeats 400000 in
theorem ntext_walk (l : NL) (hu : Uniq l) (m : Value) (n : Nat) (hn : n < 4294967296) (w : World) (hm : HasMap w m l) :
    Calls Try.prog 48 #[m, .int .u32 n] w fun e w' => e = .returned (.string (textOf l n)) ∧ Below w.heap.size w w' := by
  have HN := Lib.hid (name_walk l hu m n w hm)
  have HU := Lib.hid hu
  clear hm hu
  unfold textOf
  generalize nameOf l n = S at *
  cases hS : S.toList.isEmpty with
  | true =>
    have hs2 : S.toList = [] := by simpa using hS
    have HT := Lib.hid (text_of n (by omega))
    rw [if_pos rfl]
    go_enter Try.func48, Try.ntmps48
    go_wp2_with fail
    refine HN.out.mono ?_
    rintro e w1 ⟨rfl, hb1⟩
    have HB := Lib.hid hb1
    clear hb1
    go_wp2_with fail
    refine (HT.out w1).mono ?_
    rintro e w2 ⟨rfl, hb2⟩
    have HB2 := Lib.hid hb2
    clear hb2
    go_wp2
    go_ret
    exact ⟨rfl, below_then HB.out HB.out.size HB2.out⟩
  | false =>
    have hs2 : ¬ S.toList = [] := by simpa using hS
    rw [if_neg (by decide)]
    go_enter Try.func48, Try.ntmps48
    go_wp2_with fail
    refine HN.out.mono ?_
    rintro e w1 ⟨rfl, hb1⟩
    have HB := Lib.hid hb1
    clear hb1
    go_wp2
    go_ret
    exact ⟨rfl, HB.out⟩

set_option maxHeartbeats 400000 in
theorem nread_walk (l : NL) (hu : Uniq l) (m : Value) (s : ByteArray) (w : World) (hm : HasMap w m l) :
    Calls Try.prog 54 #[m, .string s] w fun e w' => Res2 (readOf l s) e ∧ Below w.heap.size w w' := by
  have hlk := run_lookup_has hm s
  cases hv : numOf l s with
  | some v =>
    have hr : readOf l s = (v, 0) := by unfold readOf; rw [hv]
    rw [hr]
    rw [hv] at hlk
    have hlk2 : (lookup 74 m (.string s) true).run Try.prog w = .ok (.tuple #[.int .u32 v, .bool true]) w := hlk
    clear hv hr hm hlk
    go_enter Try.func54, Try.ntmps54
    go_wp2
    go_ret2
    exact ⟨rfl, Below.refl _ _⟩
  | none =>
    rw [hv] at hlk
    have hlk2 : (lookup 74 m (.string s) true).run Try.prog w = .ok (.tuple #[.int .u32 0, .bool false]) w := hlk
    have HP := Lib.hid (parse_walk s w)
    cases hp : parseL s.data.toList with
    | none =>
      have hr : readOf l s = (0, 2) := by unfold readOf; rw [hv, hp]
      rw [hr]
      rw [hp] at HP
      clear hv hr hm hlk hp
      go_enter Try.func54, Try.ntmps54
      go_wp2_with fail
      refine HP.out.mono ?_
      rintro e w1 ⟨he, hb1⟩
      have he2 : e = .returned (.tuple #[.int .u64 0, .int .i64 2]) := he
      subst he2
      have HB := Lib.hid hb1
      clear hb1 he
      go_wp2
      go_ret2
      exact ⟨rfl, HB.out⟩
    | some n =>
      have hn := parseL_lt hp
      rw [hp] at HP
      by_cases hbig : 4294967296 ≤ n
      · have hr : readOf l s = (0, 2) := by unfold readOf; rw [hv, hp]; simp only []; rw [if_pos (.inl hbig)]
        rw [hr]
        clear hv hr hm hlk hp
        go_enter Try.func54, Try.ntmps54
        go_wp2_with fail
        refine HP.out.mono ?_
        rintro e w1 ⟨he, hb1⟩
        have he2 : e = .returned (.tuple #[.int .u64 n, .int .i64 0]) := he
        subst he2
        have HB := Lib.hid hb1
        clear hb1 he
        go_wp2
        go_ret2
        exact ⟨rfl, HB.out⟩
      · have HN := Lib.hid (fun w1 (hm1 : HasMap w1 m l) => name_walk l hu m n w1 hm1)
        have HM := Lib.hid hm
        have hlt : n < 4294967296 := by omega
        cases hS : (nameOf l n).toList.isEmpty with
        | true =>
          have hr : readOf l s = ((n : Int), 0) := by unfold readOf; rw [hv, hp]; simp only []; rw [if_neg (by simp [hS]; omega)]
          rw [hr]
          clear hv hr hm hlk hp hbig hu
          generalize nameOf l n = S at *
          have hs2 : S.toList = [] := by simpa using hS
          go_enter Try.func54, Try.ntmps54
          go_wp2_with fail
          refine HP.out.mono ?_
          rintro e w1 ⟨he, hb1⟩
          have he2 : e = .returned (.tuple #[.int .u64 n, .int .i64 0]) := he
          subst he2
          have HB := Lib.hid hb1
          clear hb1 he
          go_wp2_with fail
          refine (HN.out w1 (HM.out.below HB.out)).mono ?_
          rintro e w2 ⟨rfl, hb2⟩
          have HB2 := Lib.hid hb2
          clear hb2
          go_wp2
          go_ret2
          exact ⟨rfl, below_then HB.out HB.out.size HB2.out⟩
        | false =>
          have hr : readOf l s = (0, 2) := by unfold readOf; rw [hv, hp]; simp only []; rw [if_pos (.inr hS)]
          rw [hr]
          clear hv hr hm hlk hp hbig hu
          generalize nameOf l n = S at *
          have hs2 : ¬ S.toList = [] := by simpa using hS
          go_enter Try.func54, Try.ntmps54
          go_wp2_with fail
          refine HP.out.mono ?_
          rintro e w1 ⟨he, hb1⟩
          have he2 : e = .returned (.tuple #[.int .u64 n, .int .i64 0]) := he
          subst he2
          have HB := Lib.hid hb1
          clear hb1 he
          go_wp2_with fail
          refine (HN.out w1 (HM.out.below HB.out)).mono ?_
          rintro e w2 ⟨rfl, hb2⟩
          have HB2 := Lib.hid hb2
          clear hb2
          go_wp2
          go_ret2
          exact ⟨rfl, below_then HB.out HB.out.size HB2.out⟩

/-! ### The exported functions -/
theorem machine_walk (n : Nat) (hn : n < 4294967296) (w : World) :
    Calls Try.prog 26 #[.int .u32 n] w fun e w' => e = .returned (.string (textOf ML n)) ∧ Below w.heap.size w w' := by
  have HT := Lib.hid (ntext_walk ML uniq_ML)
  have HM := Lib.hid (machines_walk w)
  go_enter Try.func26, Try.ntmps26
  go_wp2_with fail
  refine HM.out.mono ?_
  rintro e w1 ⟨m, rfl, hm, hb⟩
  have HH := Lib.hid hm
  have HB := Lib.hid hb
  clear hm hb
  go_wp2_with fail
  refine (HT.out m n hn w1 HH.out).mono ?_
  rintro e w2 ⟨rfl, hb2⟩
  have HB2 := Lib.hid hb2
  clear hb2
  go_wp2
  go_ret
  exact ⟨rfl, below_then HB.out HB.out.size HB2.out⟩
theorem call_walk (a : Int) (n : Nat) (hn : n < 4294967296) (w : World) :
    Calls Try.prog 28 #[.int .u32 a, .int .u32 n] w fun e w' => e = .returned (.string (textOf (callsOf a) n)) ∧ Below w.heap.size w w' := by
  have HT := Lib.hid (ntext_walk (callsOf a) (uniq_calls a))
  have HM := Lib.hid (calls_walk a w)
  generalize callsOf a = L at *
  go_enter Try.func28, Try.ntmps28
  go_wp2_with fail
  refine HM.out.mono ?_
  rintro e w1 ⟨m, rfl, hm, hb⟩
  have HH := Lib.hid hm
  have HB := Lib.hid hb
  clear hm hb
  go_wp2_with fail
  refine (HT.out m n hn w1 HH.out).mono ?_
  rintro e w2 ⟨rfl, hb2⟩
  have HB2 := Lib.hid hb2
  clear hb2
  go_wp2
  go_ret
  exact ⟨rfl, below_then HB.out HB.out.size HB2.out⟩
theorem readMachine_walk (s : ByteArray) (w : World) :
    Calls Try.prog 31 #[.string s] w fun e w' => Res2 (readOf ML s) e ∧ Below w.heap.size w w' := by
  have HT := Lib.hid (nread_walk ML uniq_ML)
  have HM := Lib.hid (machines_walk w)
  go_enter Try.func31, Try.ntmps31
  go_wp2_with fail
  refine HM.out.mono ?_
  rintro e w1 ⟨m, rfl, hm, hb⟩
  have HH := Lib.hid hm
  have HB := Lib.hid hb
  clear hm hb
  go_wp2_with fail
  refine (HT.out m s w1 HH.out).mono ?_
  rintro e w2 ⟨he, hb2⟩
  have he2 : e = .returned (.tuple #[.int .u32 (readOf ML s).1, .int .i64 (readOf ML s).2]) := he
  subst he2
  have HB2 := Lib.hid hb2
  clear hb2 he
  go_wp2
  go_ret2
  exact ⟨rfl, below_then HB.out HB.out.size HB2.out⟩
theorem readCall_walk (a : Int) (s : ByteArray) (w : World) :
    Calls Try.prog 33 #[.int .u32 a, .string s] w fun e w' => Res2 (readOf (callsOf a) s) e ∧ Below w.heap.size w w' := by
  have HT := Lib.hid (nread_walk (callsOf a) (uniq_calls a))
  have HM := Lib.hid (calls_walk a w)
  generalize callsOf a = L at *
  go_enter Try.func33, Try.ntmps33
  go_wp2_with fail
  refine HM.out.mono ?_
  rintro e w1 ⟨m, rfl, hm, hb⟩
  have HH := Lib.hid hm
  have HB := Lib.hid hb
  clear hm hb
  go_wp2_with fail
  refine (HT.out m s w1 HH.out).mono ?_
  rintro e w2 ⟨he, hb2⟩
  have he2 : e = .returned (.tuple #[.int .u32 (readOf L s).1, .int .i64 (readOf L s).2]) := he
  subst he2
  have HB2 := Lib.hid hb2
  clear hb2 he
  go_wp2
  go_ret2
  exact ⟨rfl, below_then HB.out HB.out.size HB2.out⟩

def errPre : ByteArray := ⟨#[101, 114, 114, 111, 114, 58]⟩
def actOf (v : Nat) : ByteArray × Int :=
  if (nameOf AL v).toList.isEmpty = false then (nameOf AL v, 0)
  else if (v + 4294967296 - 327680) % 4294967296 ≤ 4095 then (errPre ++ strOfNums (textL ((v + 4294967296 - 327680) % 4294967296)), 0) else (⟨#[]⟩, 1)
def Res1 (r : ByteArray × Int) (e : Ending) : Prop := e = .returned (.tuple #[.string r.1, .int .i64 r.2])
def readAct (s : ByteArray) : Int × Int :=
  match numOf AL s with
  | some v => (v, 0)
  | none => if s.size < 6 ∨ ¬ (s.extract 0 6).toList = [101, 114, 114, 111, 114, 58] then (0, 2) else
    match parseL (s.extract 6 s.size).data.toList with
    | none => (0, 2)
    | some n => if 4095 < n then (0, 2) else (327680 + n, 0)

theorem textL_size (n : Nat) (h : n < 18446744073709551616) : (strOfNums (textL n)).size ≤ 18 := by
  rw [strOfNums_size]
  have := (hexL_length 15 n (by omega)).2
  simp [textL]; omega

set_option maxHeartbeats 1000000 in
theorem action_walk (v : Nat) (hv : v < 4294967296) (w : World) :
    Calls Try.prog 24 #[.int .u32 v] w fun e w' => Res1 (actOf v) e ∧ Below w.heap.size w w' := by
  have HM := Lib.hid (actions_walk w)
  have HN := Lib.hid (name_walk AL uniq_AL)
  unfold actOf
  cases hS : (nameOf AL v).toList.isEmpty with
  | false =>
    rw [if_pos rfl]
    have hs2 : ¬ (nameOf AL v).toList = [] := by simpa using hS
    generalize hq : nameOf AL (v : Int) = S at *
    have HQ := Lib.hid hq
    clear hq
    go_enter Try.func24, Try.ntmps24
    go_wp2_with fail
    refine HM.out.mono ?_
    rintro e w1 ⟨m, rfl, hm, hb⟩
    have HH := Lib.hid hm
    have HB := Lib.hid hb
    clear hm hb
    go_wp2_with fail
    refine (HN.out m v w1 HH.out).mono ?_
    rw [HQ.out]
    rintro e w2 ⟨rfl, hb2⟩
    have HB2 := Lib.hid hb2
    clear hb2
    go_wp2
    go_ret2
    exact ⟨rfl, below_then HB.out HB.out.size HB2.out⟩
  | true =>
    rw [if_neg (by decide)]
    have hs2 : (nameOf AL v).toList = [] := by simpa using hS
    generalize hq : nameOf AL (v : Int) = S at *
    have HQ := Lib.hid hq
    clear hq
    by_cases hlo : 327680 ≤ v
    · have ed : (v + 4294967296 - 327680) % 4294967296 = v - 327680 := by omega
      rw [ed]
      by_cases h95 : v ≤ 331775
      · rw [if_pos (by omega)]
        have HT := Lib.hid (fun (x : Int) (h0 : x = (v : Int) - 327680) w => by
          have := text_of (v - 327680) (by omega) w
          rw [show (((v - 327680 : Nat) : Int)) = x by omega] at this
          exact this)
        have hsz := textL_size (v - 327680) (by omega)
        generalize strOfNums (textL (v - 327680)) = T at *
        clear ed
        go_enter Try.func24, Try.ntmps24
        go_wp2_with fail
        refine HM.out.mono ?_
        rintro e w1 ⟨m, rfl, hm, hb⟩
        have HH := Lib.hid hm
        have HB := Lib.hid hb
        clear hm hb
        go_wp2_with fail
        refine (HN.out m v w1 HH.out).mono ?_
        rw [HQ.out]
        rintro e w2 ⟨rfl, hb2⟩
        have HB2 := Lib.hid hb2
        clear hb2
        go_wp2_with fail
        refine (HT.out _ rfl w2).mono ?_
        rintro e w3 ⟨rfl, hb3⟩
        have HB3 := Lib.hid hb3
        clear hb3
        go_wp2
        go_ret2
        exact ⟨rfl, below_then (below_then HB.out HB.out.size HB2.out) (Nat.le_trans HB.out.size HB2.out.size) HB3.out⟩
      · rw [if_neg (by omega)]
        clear ed
        go_enter Try.func24, Try.ntmps24
        go_wp2_with fail
        refine HM.out.mono ?_
        rintro e w1 ⟨m, rfl, hm, hb⟩
        have HH := Lib.hid hm
        have HB := Lib.hid hb
        clear hm hb
        go_wp2_with fail
        refine (HN.out m v w1 HH.out).mono ?_
        rw [HQ.out]
        rintro e w2 ⟨rfl, hb2⟩
        have HB2 := Lib.hid hb2
        clear hb2
        go_wp2
        go_ret2
        exact ⟨rfl, below_then HB.out HB.out.size HB2.out⟩
    · rw [if_neg (by omega)]
      go_enter Try.func24, Try.ntmps24
      go_wp2_with fail
      refine HM.out.mono ?_
      rintro e w1 ⟨m, rfl, hm, hb⟩
      have HH := Lib.hid hm
      have HB := Lib.hid hb
      clear hm hb
      go_wp2_with fail
      refine (HN.out m v w1 HH.out).mono ?_
      rw [HQ.out]
      rintro e w2 ⟨rfl, hb2⟩
      have HB2 := Lib.hid hb2
      clear hb2
      go_wp2
      go_ret2
      exact ⟨rfl, below_then HB.out HB.out.size HB2.out⟩

set_option maxHeartbeats 1000000 in
theorem readAction_walk (s : ByteArray) (w : World) :
    Calls Try.prog 35 #[.string s] w fun e w' => Res2 (readAct s) e ∧ Below w.heap.size w w' := by
  have HM := Lib.hid (actions_walk w)
  have HL := Lib.hid (fun (m : Value) (w1 : World) (h : HasMap w1 m AL) => run_lookup_has h s)
  unfold readAct
  cases hv : numOf AL s with
  | some v =>
    rw [hv] at HL
    clear hv
    go_enter Try.func35, Try.ntmps35
    go_wp2_with fail
    refine HM.out.mono ?_
    rintro e w1 ⟨m, rfl, hm, hb⟩
    have HB := Lib.hid hb
    have hlk : (lookup 74 m (.string s) true).run Try.prog w1 = .ok (.tuple #[.int .u32 v, .bool true]) w1 := HL.out m w1 hm
    clear hm hb
    go_wp2
    go_ret2
    exact ⟨rfl, HB.out⟩
  | none =>
    rw [hv] at HL
    clear hv
    simp only []
    by_cases h6 : s.size < 6
    · rw [if_pos (.inl h6)]
      go_enter Try.func35, Try.ntmps35
      go_wp2_with fail
      refine HM.out.mono ?_
      rintro e w1 ⟨m, rfl, hm, hb⟩
      have HB := Lib.hid hb
      have hlk : (lookup 74 m (.string s) true).run Try.prog w1 = .ok (.tuple #[.int .u32 0, .bool false]) w1 := HL.out m w1 hm
      clear hm hb
      go_wp2
      go_ret2
      exact ⟨rfl, HB.out⟩
    · by_cases hx : (s.extract 0 6).toList = [101, 114, 114, 111, 114, 58]
      · rw [if_neg (by rintro (h | h); exact h6 h; exact h hx)]
        have HP := Lib.hid (parse_walk (s.extract 6 s.size))
        cases hp : parseL (s.extract 6 s.size).data.toList with
        | none =>
          rw [hp] at HP
          clear hp
          go_enter Try.func35, Try.ntmps35
          go_wp2_with fail
          refine HM.out.mono ?_
          rintro e w1 ⟨m, rfl, hm, hb⟩
          have HB := Lib.hid hb
          have hlk : (lookup 74 m (.string s) true).run Try.prog w1 = .ok (.tuple #[.int .u32 0, .bool false]) w1 := HL.out m w1 hm
          clear hm hb
          go_wp2_with fail
          refine (HP.out w1).mono ?_
          rintro e w2 ⟨he, hb1⟩
          have he2 : e = .returned (.tuple #[.int .u64 0, .int .i64 2]) := he
          subst he2
          have HB1 := Lib.hid hb1
          clear hb1 he
          go_wp2
          go_ret2
          exact ⟨rfl, below_then HB.out HB.out.size HB1.out⟩
        | some n =>
          have hn := parseL_lt hp
          rw [hp] at HP
          clear hp
          by_cases h95 : 4095 < n
          · simp only []
            rw [if_pos h95]
            go_enter Try.func35, Try.ntmps35
            go_wp2_with fail
            refine HM.out.mono ?_
            rintro e w1 ⟨m, rfl, hm, hb⟩
            have HB := Lib.hid hb
            have hlk : (lookup 74 m (.string s) true).run Try.prog w1 = .ok (.tuple #[.int .u32 0, .bool false]) w1 := HL.out m w1 hm
            clear hm hb
            go_wp2_with fail
            refine (HP.out w1).mono ?_
            rintro e w2 ⟨he, hb1⟩
            have he2 : e = .returned (.tuple #[.int .u64 n, .int .i64 0]) := he
            subst he2
            have HB1 := Lib.hid hb1
            clear hb1 he
            go_wp2
            go_ret2
            exact ⟨rfl, below_then HB.out HB.out.size HB1.out⟩
          · simp only []
            rw [if_neg h95]
            go_enter Try.func35, Try.ntmps35
            go_wp2_with fail
            refine HM.out.mono ?_
            rintro e w1 ⟨m, rfl, hm, hb⟩
            have HB := Lib.hid hb
            have hlk : (lookup 74 m (.string s) true).run Try.prog w1 = .ok (.tuple #[.int .u32 0, .bool false]) w1 := HL.out m w1 hm
            clear hm hb
            go_wp2_with fail
            refine (HP.out w1).mono ?_
            rintro e w2 ⟨he, hb1⟩
            have he2 : e = .returned (.tuple #[.int .u64 n, .int .i64 0]) := he
            subst he2
            have HB1 := Lib.hid hb1
            clear hb1 he
            go_wp2
            go_ret2
            exact ⟨rfl, below_then HB.out HB.out.size HB1.out⟩
      · rw [if_pos (.inr hx)]
        go_enter Try.func35, Try.ntmps35
        go_wp2_with fail
        refine HM.out.mono ?_
        rintro e w1 ⟨m, rfl, hm, hb⟩
        have HB := Lib.hid hb
        have hlk : (lookup 74 m (.string s) true).run Try.prog w1 = .ok (.tuple #[.int .u32 0, .bool false]) w1 := HL.out m w1 hm
        clear hm hb
        have hxb : ((s.extract 0 6).toList == [101, 114, 114, 111, 114, 58]) = false := by simpa using hx
        go_wp2
        go_ret2
        exact ⟨rfl, HB.out⟩

/-! ### As the printed callers want them -/
def u32P (a : Int) : Prop := 0 ≤ a ∧ a < 4294967296
instance (a : Int) : Decidable (u32P a) := by unfold u32P; infer_instance
def names_Machine.f (a0 : Int) : Option ByteArray := if u32P a0 then some (textOf ML a0.toNat) else none
theorem names_Machine.calls (a0 : Int) (r : ByteArray) (w : World) (h : names_Machine.f a0 = some r) :
    Calls Try.prog 26 #[.int .u32 a0] w fun e w' => e = .returned (.string r) ∧ Below w.heap.size w w' := by
  unfold names_Machine.f at h
  split at h
  · rename_i hh
    obtain ⟨n, rfl⟩ := Int.eq_ofNat_of_zero_le hh.1
    have hr := Option.some.inj h
    subst hr
    exact machine_walk n (by have := hh.2; omega) w
  · cases h
def names_Call.f (a0 : Int) (a1 : Int) : Option ByteArray := if u32P a1 then some (textOf (callsOf a0) a1.toNat) else none
theorem names_Call.calls (a0 : Int) (a1 : Int) (r : ByteArray) (w : World) (h : names_Call.f a0 a1 = some r) :
    Calls Try.prog 28 #[.int .u32 a0, .int .u32 a1] w fun e w' => e = .returned (.string r) ∧ Below w.heap.size w w' := by
  unfold names_Call.f at h
  split at h
  · rename_i hh
    obtain ⟨n, rfl⟩ := Int.eq_ofNat_of_zero_le hh.1
    have hr := Option.some.inj h
    subst hr
    exact call_walk a0 n (by have := hh.2; omega) w
  · cases h
def names_ReadMachine.f (a0 : ByteArray) : Option (Int × Int) := some (readOf ML a0)
theorem names_ReadMachine.calls (a0 : ByteArray) (r1 : Int) (r2 : Int) (w : World) (h : names_ReadMachine.f a0 = some (r1, r2)) :
    Calls Try.prog 31 #[.string a0] w fun e w' => e = .returned (.tuple #[.int .u32 r1, .int .i64 r2]) ∧ Below w.heap.size w w' := by
  have hr := Option.some.inj h
  refine (readMachine_walk a0 w).mono fun e w' ⟨he, hb⟩ => ⟨?_, hb⟩
  rw [hr] at he
  exact he
def names_ReadCall.f (a0 : Int) (a1 : ByteArray) : Option (Int × Int) := some (readOf (callsOf a0) a1)
theorem names_ReadCall.calls (a0 : Int) (a1 : ByteArray) (r1 : Int) (r2 : Int) (w : World) (h : names_ReadCall.f a0 a1 = some (r1, r2)) :
    Calls Try.prog 33 #[.int .u32 a0, .string a1] w fun e w' => e = .returned (.tuple #[.int .u32 r1, .int .i64 r2]) ∧ Below w.heap.size w w' := by
  have hr := Option.some.inj h
  refine (readCall_walk a0 a1 w).mono fun e w' ⟨he, hb⟩ => ⟨?_, hb⟩
  rw [hr] at he
  exact he
def names_Action.f (a0 : Int) : Option (ByteArray × Int) := if u32P a0 then some (actOf a0.toNat) else none
theorem names_Action.calls (a0 : Int) (r1 : ByteArray) (r2 : Int) (w : World) (h : names_Action.f a0 = some (r1, r2)) :
    Calls Try.prog 24 #[.int .u32 a0] w fun e w' => e = .returned (.tuple #[.string r1, .int .i64 r2]) ∧ Below w.heap.size w w' := by
  unfold names_Action.f at h
  split at h
  · rename_i hh
    obtain ⟨n, rfl⟩ := Int.eq_ofNat_of_zero_le hh.1
    have hr := Option.some.inj h
    refine (action_walk n (by have := hh.2; omega) w).mono fun e w' ⟨he, hb⟩ => ⟨?_, hb⟩
    rw [Int.toNat_natCast] at hr
    rw [hr] at he
    exact he
  · cases h
def names_ReadAction.f (a0 : ByteArray) : Option (Int × Int) := some (readAct a0)
theorem names_ReadAction.calls (a0 : ByteArray) (r1 : Int) (r2 : Int) (w : World) (h : names_ReadAction.f a0 = some (r1, r2)) :
    Calls Try.prog 35 #[.string a0] w fun e w' => e = .returned (.tuple #[.int .u32 r1, .int .i64 r2]) ∧ Below w.heap.size w w' := by
  have hr := Option.some.inj h
  refine (readAction_walk a0 w).mono fun e w' ⟨he, hb⟩ => ⟨?_, hb⟩
  rw [hr] at he
  exact he
end Go.Proofs.Ythdkgpmpopjnaaa.H
