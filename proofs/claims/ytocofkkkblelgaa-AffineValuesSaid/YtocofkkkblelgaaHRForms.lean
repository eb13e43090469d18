/-
What the functions over the reference's forms give, told over ReadsInt.
-/
import Derived.Test.YtocofkkkblelgaaHRApart
set_option linter.unusedVariables false
set_option linter.unusedSimpArgs false
namespace Go.Proofs.Ytocofkkkblelgaa.H
open Go.RowKit Go.Proofs.YtocofkkkblelgaaW.PrintWords

/-- A function that answers a reference's form: its number, and its row, which is read from then on. -/
def GRF (n : Nat) (args : Array Value) (c : Int) (l : List Int) : Prop := ∀ w, Calls Try.prog n args w fun e w' => ∃ ad cap, e = .returned (.agg #[.int .u32 c, .slice (some ad) 34 cap]) ∧ 34 ≤ cap ∧ ReadsInt w' .u32 (some ad) 34 l ∧ Below w.heap.size w w'
/-- A function of two of the reference's forms that answers one. -/
def GRF2 (n : Nat) (c1 a c2 b : Int) (l1 l2 : List Int) (c : Int) (l : List Int) : Prop := ∀ (ad1 ad2 : Addr) (n1 n2 : Nat) (w : World), ReadsInt w .u32 (some ad1) 34 l1 → ReadsInt w .u32 (some ad2) 34 l2 →
  Calls Try.prog n #[.agg #[.int .u32 c1, .slice (some ad1) 34 n1], .int .u32 a, .agg #[.int .u32 c2, .slice (some ad2) 34 n2], .int .u32 b] w fun e w' => ∃ ad cap, e = .returned (.agg #[.int .u32 c, .slice (some ad) 34 cap]) ∧ 34 ≤ cap ∧ ReadsInt w' .u32 (some ad) 34 l ∧ Below w.heap.size w w'
/-- Same, of two rows. -/
def GSame (c1 c2 : Int) (l1 l2 : List Int) (r : Bool) : Prop := ∀ (ad1 ad2 : Addr) (n1 n2 : Nat) (w : World), 34 ≤ n1 → 34 ≤ n2 → ReadsInt w .u32 (some ad1) 34 l1 → ReadsInt w .u32 (some ad2) 34 l2 →
  Calls Try.prog 10 #[.agg #[.int .u32 c1, .slice (some ad1) 34 n1], .agg #[.int .u32 c2, .slice (some ad2) 34 n2]] w fun e w' => e = .returned (.bool r) ∧ Below w.heap.size w w'

theorem own_form {w : World} {base : Nat} {v : Value} {l : List Int} (h : w.ownsRow base 22 1 v 34 (nums .u32 l)) : ∃ ad cap, v = .slice (some ad) 34 cap ∧ 34 ≤ cap ∧ ReadsInt w .u32 (some ad) 34 l := by
  obtain ⟨A, c, rfl, hr⟩ := own_reads h
  obtain ⟨ad, rfl, _⟩ := hr.2.2 (by omega)
  exact ⟨ad, c, rfl, own_le h, hr⟩
theorem As_gives (f0 : Int) (fs : List Int) (hf : IsForm f0 fs) : GRF 11 #[FV f0 fs] f0 fs := by
  intro w
  refine (As_walk f0 fs hf w).mono ?_
  rintro e w' ⟨v, rfl, ho, hb⟩
  obtain ⟨ad, c, rfl, h1, h2⟩ := own_form ho
  exact ⟨ad, c, rfl, h1, h2, hb⟩
theorem Sum_gives (c1 a c2 b : Int) (l1 l2 : List Int) (h1 : l1.length = 34) (h2 : l2.length = 34) : GRF2 14 c1 a c2 b l1 l2 (sumOp a b c1 c2) (sumL a b l1 l2) := by
  intro ad1 ad2 n1 n2 w r1 r2
  refine (Sum_walk c1 a c2 b l1 l2 ad1 ad2 n1 n2 h1 h2 w r1 r2).mono ?_
  rintro e w' ⟨v, rfl, ho, hb⟩
  obtain ⟨ad, c, rfl, h1, h2⟩ := own_form ho
  exact ⟨ad, c, rfl, h1, h2, hb⟩
theorem Same_gives (c1 c2 : Int) (l1 l2 : List Int) (h1 : l1.length = 34) (h2 : l2.length = 34) : GSame c1 c2 l1 l2 (c1 == c2 && l1 == l2) := by
  intro ad1 ad2 n1 n2 w hn1 hn2 r1 r2
  exact same_gives _ c1 c2 l1 l2 ad1 ad2 n1 n2 h1 h2 hn1 hn2 w r1 r2 (same_f l1 l2 c1 c2 h1 h2)
theorem Same_yes (c : Int) (l : List Int) (h : l.length = 34) : GSame c c l l true := by
  have := Same_gives c c l l h h
  simpa using this
theorem kd_form {w : World} {base : Nat} {ok : Nat → Prop} {v : Value} {l : List Int} (hl : l.length = 34) (h : Kd.R (Kd.int .u32) 22 w base ok v l) : ∃ ad cap, v = .slice (some ad) 34 cap ∧ 34 ≤ cap ∧ ReadsInt w .u32 (some ad) 34 l := by
  have ho := Kd.own_of_R h
  have e : encs (Value.int .u32) l = nums .u32 l := rfl
  rw [e, hl] at ho
  exact own_form ho
theorem New_gives (c : Int) : GRF 18 #[.int .u32 c] c z34 := by
  intro w
  have h : Q.hurdleref14_New.f c = some (c, z34) := by unfold Q.hurdleref14_New.f; rw [if_pos (by omega)]; rfl
  refine (Q.hurdleref14_New.calls c c z34 w h).mono ?_
  rintro e w' ⟨v, rfl, ho, hb⟩
  obtain ⟨ad, c, rfl, h1, h2⟩ := kd_form z34_len ho
  exact ⟨ad, c, rfl, h1, h2, hb⟩
theorem RVar_gives (i : Nat) (hi : i < 34) : GRF 12 #[.int .i64 (i : Int)] 0 (var i) := by
  intro w
  have h : Q.hurdleref14_Var.f (i : Int) = some (0, var i) := by
    unfold Q.hurdleref14_Var.f
    rw [show Q.hurdleref14_New.f 0 = some (0, z34) by unfold Q.hurdleref14_New.f; rw [if_pos (by omega)]; rfl]
    simp only [Option.bind_some]
    rw [if_pos (by omega), if_pos (by rw [z34_len]; omega)]
    simp [var]
  refine (Q.hurdleref14_Var.calls (i : Int) 0 (var i) w h).mono ?_
  rintro e w' ⟨v, rfl, ho, hb⟩
  obtain ⟨ad, c, rfl, h1, h2⟩ := kd_form (var_len i) ho
  exact ⟨ad, c, rfl, h1, h2, hb⟩
end Go.Proofs.Ytocofkkkblelgaa.H
