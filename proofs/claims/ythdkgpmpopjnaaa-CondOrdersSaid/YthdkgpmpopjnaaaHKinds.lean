/-
Package cond: kinds, Right.
-/
import Derived.Test.YthdkgpmpopjnaaaProg
import Derived.WalkKit
import Derived.WalkSpells
import Derived.WalkLawsBesides
import Derived.Handy
import Derived.Lib.Hide
import Derived.Deep.QuietTactic
import Derived.BigQuiet
import Derived.Test.YthdkgpmpopjnaaaHArr
import Derived.Test.YthdkgpmpopjnaaaHSeq
import Derived.Test.YthdkgpmpopjnaaaHCut
import Derived.Test.YthdkgpmpopjnaaaWWords
set_option linter.unusedVariables false
set_option linter.unusedSimpArgs false
namespace Go.Proofs.Ythdkgpmpopjnaaa.H
open Go.RowKit Go.Proofs.YthdkgpmpopjnaaaW.PrintWords

/-- A comparison, by its number. -/
def cmpB (k : Nat) (a b : Int) : Bool := match k with
  | 0 => a == b
  | 1 => a != b
  | 2 => decide (a < b)
  | 3 => decide (a ≤ b)
  | 4 => decide (b < a)
  | _ => decide (b ≤ a)
def notK (k : Nat) : Nat := match k with
  | 0 => 1
  | 1 => 0
  | 2 => 5
  | 3 => 4
  | 4 => 3
  | _ => 2
def wordK (k : Nat) : ByteArray := match k with
  | 0 => ⟨#[101, 113]⟩
  | 1 => ⟨#[110, 101]⟩
  | 2 => ⟨#[108, 116]⟩
  | 3 => ⟨#[108, 101]⟩
  | 4 => ⟨#[103, 116]⟩
  | _ => ⟨#[103, 101]⟩
def fnK (k : Nat) : Nat := match k with
  | 0 => 56
  | 1 => 57
  | 2 => 58
  | 3 => 59
  | 4 => 60
  | _ => 61
def kindA (k : Nat) : Array Value := #[.string (wordK k), .func (Fn.func (fnK k)) #[] #[], .int .i64 (notK k : Int)]
def kindsA : Array Value := #[.string ⟨#[101, 113]⟩, .func (Fn.func 56) #[] #[], .int .i64 1, .string ⟨#[110, 101]⟩, .func (Fn.func 57) #[] #[], .int .i64 0,
  .string ⟨#[108, 116]⟩, .func (Fn.func 58) #[] #[], .int .i64 5, .string ⟨#[108, 101]⟩, .func (Fn.func 59) #[] #[], .int .i64 4,
  .string ⟨#[103, 116]⟩, .func (Fn.func 60) #[] #[], .int .i64 3, .string ⟨#[103, 101]⟩, .func (Fn.func 61) #[] #[], .int .i64 2]

theorem kinds_walk : Gives Try.prog 37 #[] (.agg kindsA) := by
  intro w
  obtain ⟨W2, hW, r, b⟩ := letvar w #[Value.string ⟨#[]⟩, Value.nilFunc, Value.int .i64 0, Value.string ⟨#[]⟩, Value.nilFunc, Value.int .i64 0, Value.string ⟨#[]⟩, Value.nilFunc, Value.int .i64 0, Value.string ⟨#[]⟩, Value.nilFunc, Value.int .i64 0, Value.string ⟨#[]⟩, Value.nilFunc, Value.int .i64 0, Value.string ⟨#[]⟩, Value.nilFunc, Value.int .i64 0] kindsA 59
  have HW := Lib.hid hW
  have HR := Lib.hid r
  have HB := Lib.hid b
  clear hW r b
  go_enter Try.func37, Try.ntmps37
  go_wp2_with (refine wpList_store_row rfl 59 (.tmp 0) (.tmp 7) rfl rfl w.heap.size rfl kindsA rfl _ _ (heap_alloc_new _ _) rfl (by rw [show kindsA.size = 18 from rfl]; kernel_rfl) (by intro v hv; simp [kindsA] at hv; rcases hv with rfl | rfl | rfl | rfl | rfl | rfl | rfl | rfl | rfl | rfl | rfl | rfl | rfl | rfl | rfl | rfl | rfl | rfl <;> rfl) ?_; rw [HW.out])
  refine bodyPost_ret (results_cell_row rfl _ _ w.heap.size _ _ _ _ rfl HR.out Try.underlying59 rfl (by rw [show kindsA.size = 18 from rfl]; kernel_rfl)) rfl ?_
  exact ⟨rfl, HB.out⟩

theorem closure_walk (k : Nat) (hk : k < 6) (a b : Int) : Gives Try.prog (fnK k) #[.int .u64 a, .int .u64 b] (.bool (cmpB k a b)) := by
  intro w
  rcases (by omega : k = 0 ∨ k = 1 ∨ k = 2 ∨ k = 3 ∨ k = 4 ∨ k = 5) with rfl | rfl | rfl | rfl | rfl | rfl
  · show Calls Try.prog 56 _ w _
    go_enter Try.func56, Try.ntmps56
    go_wp2
    go_ret
    exact ⟨rfl, Below.refl _ _⟩
  · show Calls Try.prog 57 _ w _
    go_enter Try.func57, Try.ntmps57
    go_wp2
    go_ret
    exact ⟨rfl, Below.refl _ _⟩
  · show Calls Try.prog 58 _ w _
    go_enter Try.func58, Try.ntmps58
    go_wp2
    go_ret
    exact ⟨rfl, Below.refl _ _⟩
  · show Calls Try.prog 59 _ w _
    go_enter Try.func59, Try.ntmps59
    go_wp2
    go_ret
    exact ⟨rfl, Below.refl _ _⟩
  · show Calls Try.prog 60 _ w _
    go_enter Try.func60, Try.ntmps60
    go_wp2
    go_ret
    exact ⟨rfl, Below.refl _ _⟩
  · show Calls Try.prog 61 _ w _
    go_enter Try.func61, Try.ntmps61
    go_wp2
    go_ret
    exact ⟨rfl, Below.refl _ _⟩

theorem kinds_index (k : Nat) (hk : k < 6) (w : World) : (Instr.index 59 (.agg kindsA) (.int .i64 (k : Int))).run Try.prog w = .ok (.agg (kindA k)) w := by
  unfold kindsA
  rcases (by omega : k = 0 ∨ k = 1 ∨ k = 2 ∨ k = 3 ∨ k = 4 ∨ k = 5) with rfl | rfl | rfl | rfl | rfl | rfl
  all_goals (go_simp; try rfl)

theorem kind_word (s : ByteArray) (f : Value) (q : Int) (w : World) : (Instr.field 58 (.agg #[.string s, f, .int .i64 q]) 0).run Try.prog w = .ok (.string s) w := by
  unfold Instr.field
  rw [Sem.run_bind, run_underlying Try.underlying58 w]
  simp only [Result.andThen_ok]
  go_simp
  rw [show (asAgg (Value.agg #[.string s, f, .int .i64 q])).run Try.prog w = .ok #[.string s, f, .int .i64 q] w from rfl]
  rfl
theorem kind_fn (s : ByteArray) (f : Value) (q : Int) (w : World) : (Instr.field 58 (.agg #[.string s, f, .int .i64 q]) 1).run Try.prog w = .ok f w := by
  unfold Instr.field
  rw [Sem.run_bind, run_underlying Try.underlying58 w]
  simp only [Result.andThen_ok]
  go_simp
  rw [show (asAgg (Value.agg #[.string s, f, .int .i64 q])).run Try.prog w = .ok #[.string s, f, .int .i64 q] w from rfl]
  rfl
theorem kind_not (s : ByteArray) (f : Value) (q : Int) (w : World) : (Instr.field 58 (.agg #[.string s, f, .int .i64 q]) 2).run Try.prog w = .ok (.int .i64 q) w := by
  unfold Instr.field
  rw [Sem.run_bind, run_underlying Try.underlying58 w]
  simp only [Result.andThen_ok]
  go_simp
  rw [show (asAgg (Value.agg #[.string s, f, .int .i64 q])).run Try.prog w = .ok #[.string s, f, .int .i64 q] w from rfl]
  rfl

def CV (arg cmp m v : Int) : Value := .agg #[.int .i64 arg, .int .i64 cmp, .int .u64 m, .int .u64 v]
def rightB (arg cmp : Int) : Bool := decide (0 ≤ arg) && decide (arg < 6) && decide (0 ≤ cmp) && decide (cmp ≤ 5)
theorem rightB_iff (arg cmp : Int) : rightB arg cmp = true ↔ (0 ≤ arg ∧ arg < 6) ∧ 0 ≤ cmp ∧ cmp ≤ 5 := by
  unfold rightB
  simp only [Bool.and_eq_true, decide_eq_true_eq]
  omega
theorem cells4 {w : World} {g : Nat} {t : TypeId} {v0 v1 v2 v3 : Value} (h : w.heap[g]? = some (.cells #[v0, v1, v2, v3] t (0, 0))) :
    w.cell? ⟨g, 0, none⟩ = some v0 ∧ w.cell? ⟨g, 1, none⟩ = some v1 ∧ w.cell? ⟨g, 2, none⟩ = some v2 ∧ w.cell? ⟨g, 3, none⟩ = some v3 :=
  ⟨blk_cell h 0, blk_cell h 1, blk_cell h 2, blk_cell h 3⟩
theorem info_cond (a b c d : Value) : (Try.prog.info? 24).map (·.size) = some (#[a, b, c, d] : Array Value).size := by
  rw [show (#[a, b, c, d] : Array Value).size = 4 from rfl]; kernel_rfl
theorem one_cond (a b m v : Int) : ∀ x ∈ (#[.int .i64 a, .int .i64 b, .int .u64 m, .int .u64 v] : Array Value).toList, x.oneCell' = true := by
  intro x hx
  simp at hx
  rcases hx with rfl | rfl | rfl | rfl <;> rfl

set_option maxHeartbeats 1000000 in
theorem Right_walk (arg cmp m v : Int) : Gives Try.prog 14 #[CV arg cmp m v] (.bool (rightB arg cmp)) := by
  intro w
  unfold CV
  obtain ⟨r, hr⟩ : ∃ r, rightB arg cmp = r := ⟨_, rfl⟩
  rw [hr]
  have HR := Lib.hid hr
  clear hr
  have hg := heap_alloc_new w (.cells #[.int .i64 arg, .int .i64 cmp, .int .u64 m, .int .u64 v] 24)
  have HB := Lib.hid ((Below.refl w.heap.size w).alloc (Nat.le_refl _) (.cells #[.int .i64 arg, .int .i64 cmp, .int .u64 m, .int .u64 v] 24))
  obtain ⟨c0, c1, c2, c3⟩ := cells4 hg
  clear hg
  by_cases h0 : 0 ≤ arg
  · by_cases h1 : arg < 6
    · by_cases h2 : 0 ≤ cmp
      · by_cases h3 : cmp ≤ 5
        · have e : r = true := by rw [← HR.out]; exact (rightB_iff _ _).2 ⟨⟨h0, h1⟩, h2, h3⟩
          subst e
          go_enter Try.func14, Try.ntmps14
          go_wp2
          go_ret
          exact ⟨rfl, HB.out⟩
        · have e : r = false := by rw [← HR.out]; exact Bool.eq_false_iff.2 (fun h => by have := (rightB_iff _ _).1 h; omega)
          subst e
          go_enter Try.func14, Try.ntmps14
          go_wp2
          go_ret
          exact ⟨rfl, HB.out⟩
      · have e : r = false := by rw [← HR.out]; exact Bool.eq_false_iff.2 (fun h => by have := (rightB_iff _ _).1 h; omega)
        subst e
        go_enter Try.func14, Try.ntmps14
        go_wp2
        go_ret
        exact ⟨rfl, HB.out⟩
    · have e : r = false := by rw [← HR.out]; exact Bool.eq_false_iff.2 (fun h => by have := (rightB_iff _ _).1 h; omega)
      subst e
      go_enter Try.func14, Try.ntmps14
      go_wp2
      go_ret
      exact ⟨rfl, HB.out⟩
  · have e : r = false := by rw [← HR.out]; exact Bool.eq_false_iff.2 (fun h => by have := (rightB_iff _ _).1 h; omega)
    subst e
    go_enter Try.func14, Try.ntmps14
    go_wp2
    go_ret
    exact ⟨rfl, HB.out⟩
end Go.Proofs.Ythdkgpmpopjnaaa.H
