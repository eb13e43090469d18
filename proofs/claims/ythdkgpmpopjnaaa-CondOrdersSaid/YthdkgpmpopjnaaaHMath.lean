/-
Plain words and laws on hexadecimal digits: what word.Parse computes of a text's bytes. No program here.
-/
import Derived.Laws.BitsAllLaws
set_option linter.unusedVariables false
set_option linter.unusedSimpArgs false
namespace Go.Proofs.Ythdkgpmpopjnaaa.H

/-- A digit's value; none: no digit. -/
def hexd (c : Nat) : Option Nat := if 48 ≤ c ∧ c ≤ 57 then some (c - 48) else if 97 ≤ c ∧ c ≤ 102 then some (c - 87) else none
def hexGo : List UInt8 → Nat → Option Nat
  | [], n => some n
  | c :: l, n => match hexd c.toNat with
    | none => none
    | some d => hexGo l ((n * 16 + d) % 18446744073709551616)
def parseL (l : List UInt8) : Option Nat :=
  if 3 ≤ l.length ∧ l.length ≤ 18 ∧ l.take 2 = [48, 120] ∧ ¬ (l.getD 2 0 = 48 ∧ 3 < l.length) then hexGo (l.drop 2) 0 else none

theorem hexd_lt {c d : Nat} (h : hexd c = some d) : d < 16 := by
  unfold hexd at h
  split at h
  · simp at h; omega
  · split at h
    · simp at h; omega
    · simp at h

theorem hexGo_lt (l : List UInt8) : ∀ n r, n < 18446744073709551616 → hexGo l n = some r → r < 18446744073709551616 := by
  induction l with
  | nil => intro n r hn h; simp [hexGo] at h; omega
  | cons c l ih =>
    intro n r hn h
    simp only [hexGo] at h
    split at h
    · simp at h
    · exact ih _ _ (Nat.mod_lt _ (by omega)) h

theorem parseL_lt {l : List UInt8} {r : Nat} (h : parseL l = some r) : r < 18446744073709551616 := by
  unfold parseL at h
  split at h
  · exact hexGo_lt _ _ _ (by omega) h
  · simp at h

/-- One step, as the machine takes it. -/
theorem or_step (n d : Nat) (hd : d < 16) :
    bits .or .u64 (IntKind.u64.wrap ((n : Int) * 16)) (d : Int) = (((n * 16 + d) % 18446744073709551616 : Nat) : Int) := by
  have h1 : IntKind.u64.wrap ((n : Int) * 16) = ((n * 16 % 18446744073709551616 : Nat) : Int) := by
    rw [IntKind.wrap_u64]; omega
  rw [h1, u64_or_nat _ _ (by omega) (by omega)]
  have h2 : n * 16 % 18446744073709551616 ||| d = n * 16 % 18446744073709551616 + d := nat_join 4 _ _ (by omega) (by omega)
  rw [h2]
  have h3 : n * 16 % 18446744073709551616 + d = (n * 16 + d) % 18446744073709551616 := by omega
  rw [h3]

end Go.Proofs.Ythdkgpmpopjnaaa.H
