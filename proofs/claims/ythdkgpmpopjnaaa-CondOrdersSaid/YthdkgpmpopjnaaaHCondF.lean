/-
Package cond: its functions' contracts, with the numbers.
-/
import Derived.Test.YthdkgpmpopjnaaaHCondR
import Derived.Test.YthdkgpmpopjnaaaHDigits
import Derived.Test.YthdkgpmpopjnaaaHText
set_option linter.unusedVariables false
set_option linter.unusedSimpArgs false
namespace Go.Proofs.Ythdkgpmpopjnaaa.H
open Go.RowKit Go.Proofs.YthdkgpmpopjnaaaW.PrintWords

def u64P (a : Int) : Prop := 0 ≤ a ∧ a < 18446744073709551616
instance (a : Int) : Decidable (u64P a) := by unfold u64P; infer_instance
theorem enter_ofC {n : Nat} {fn : Func} {c : Code} (hf : Try.prog.funcs[n]? = some fn) (hname : (fn.name == "runtime.NumGoroutine") = false) (hb : fn.body = some c) (args : Array Value) (W : World) :
    (callFunc n args).run Try.prog W = .ok (.enter n args) W := by
  unfold callFunc
  have hn : ¬ fn.name = "runtime.NumGoroutine" := by simpa using hname
  simp [Sem.run_bind, run_program, hf, hn, hb]
theorem enter_kind (k : Nat) (hk : k < 6) (args : Array Value) (W : World) : (callFunc (fnK k) args).run Try.prog W = .ok (.enter (fnK k) args) W := by
  rcases (by omega : k = 0 ∨ k = 1 ∨ k = 2 ∨ k = 3 ∨ k = 4 ∨ k = 5) with rfl | rfl | rfl | rfl | rfl | rfl
  · exact enter_ofC Try.func56 (by decide) rfl args W
  · exact enter_ofC Try.func57 (by decide) rfl args W
  · exact enter_ofC Try.func58 (by decide) rfl args W
  · exact enter_ofC Try.func59 (by decide) rfl args W
  · exact enter_ofC Try.func60 (by decide) rfl args W
  · exact enter_ofC Try.func61 (by decide) rfl args W

/-- Does a condition hold of a record's arguments? -/
def holdsB (arg cmp m v : Int) (ags : List Int) : Bool := rightB arg cmp && cmpB cmp.toNat (bits .and .u64 (ags.getD arg.toNat 0) m) v
def dataA (nr ar ip : Int) (ags : List Int) : Array Value := (Value.int .u32 nr :: Value.int .u32 ar :: Value.int .u64 ip :: nums .u64 ags).toArray
structure IsDat (nr ar ip : Int) (ags : List Int) : Prop where
  len : ags.length = 6
  nr : 0 ≤ nr ∧ nr < 4294967296
  ar : 0 ≤ ar ∧ ar < 4294967296
  ip : u64P ip
  ags : ∀ k, u64P (ags.getD k 0)
theorem data_at (nr ar ip : Int) (ags : List Int) (hl : ags.length = 6) (j : Nat) (hj : j < 6) : (dataA nr ar ip ags)[3 + j]? = some (.int .u64 (ags.getD j 0)) := by
  unfold dataA
  rw [List.getElem?_toArray, Nat.add_comm 3 j]
  simp only [List.getElem?_cons_succ]
  simp [nums, List.getElem?_eq_getElem (show j < ags.length by omega), List.getD_eq_getElem?_getD]
theorem right_nats {arg cmp : Int} (h : rightB arg cmp = true) : ∃ j k : Nat, arg = (j : Int) ∧ cmp = (k : Int) ∧ j < 6 ∧ k < 6 := by
  have := (rightB_iff arg cmp).1 h
  exact ⟨arg.toNat, cmp.toNat, by omega, by omega, by omega, by omega⟩

theorem Holds_walk (arg cmp m v : Int) (nr ar ip : Int) (ags : List Int) (hd : IsDat nr ar ip ags) (hm : u64P m) : Gives Try.prog 16 #[CV arg cmp m v, .agg (dataA nr ar ip ags)] (.bool (holdsB arg cmp m v ags)) := by
  intro w
  have hR := Right_walk arg cmp m v
  unfold holdsB
  cases h : rightB arg cmp with
  | false =>
    rw [h] at hR
    exact Holds_no arg cmp m v _ hR w
  | true =>
    rw [h] at hR
    obtain ⟨j, k, rfl, rfl, hj, hk⟩ := right_nats h
    rw [Bool.true_and]
    simp only [Int.toNat_natCast]
    exact Holds_yes j k (by omega) (by omega) m v (ags.getD j 0) (hd.ags j) hm _ (data_at nr ar ip ags hd.len j hj) kindsA (wordK k) (fnK k) (notK k) kinds_walk (fun w => kinds_index k hk w) _ hR (fun args W => enter_kind k hk args W) (closure_walk k hk _ _) w
def notI (cmp : Int) : Int := (notK cmp.toNat : Int)
theorem Not_walk (arg cmp m v : Int) : Gives Try.prog 23 #[CV arg cmp m v] (CV arg (if rightB arg cmp = true then notI cmp else cmp) m v) := by
  intro w
  have hR := Right_walk arg cmp m v
  cases h : rightB arg cmp with
  | false =>
    rw [h] at hR
    exact Not_no arg cmp m v hR w
  | true =>
    rw [h] at hR
    obtain ⟨j, k, rfl, rfl, hj, hk⟩ := right_nats h
    rw [if_pos rfl]
    exact Not_yes j k (by omega) (by omega) m v kindsA (wordK k) (fnK k) (notK k) kinds_walk (fun w => kinds_index k hk w) hR w
def textB (n : Int) : ByteArray := strOfNums (textL n.toNat)
theorem textB_size (n : Int) (h : u64P n) : (textB n).size ≤ 18 := by
  have h1 := hexL_length 15 n.toNat (by unfold u64P at h; omega)
  have : (textB n).size = (textL n.toNat).length := by
    have := congrArg List.length (strOfNums_data (textL n.toNat))
    simpa [textB] using this
  rw [this]
  simp [textL]
  omega
theorem Text_walk (n : Int) (h : u64P n) : Gives Try.prog 39 #[.int .u64 n] (.string (textB n)) := by
  intro w
  obtain ⟨k, rfl⟩ := Int.eq_ofNat_of_zero_le h.1
  have := text_walk k (by unfold u64P at h; omega) w
  rw [textGo_eq k (by unfold u64P at h; omega)] at this
  exact this
def digB (j : Nat) : ByteArray := ⟨#[UInt8.ofNat (48 + j)]⟩
theorem dig_enc (j : Nat) (hj : j < 6) : Utf8.encode (IntKind.i32.wrap (IntKind.i64.wrap (48 + (j : Int)))) = digB j := by
  rcases (by omega : j = 0 ∨ j = 1 ∨ j = 2 ∨ j = 3 ∨ j = 4 ∨ j = 5) with rfl | rfl | rfl | rfl | rfl | rfl <;> rfl
/-- A condition's text. -/
def condText (j k : Nat) (m v : Int) : ByteArray := ((((((⟨#[97]⟩ ++ digB j) ++ ⟨#[32]⟩) ++ textB m) ++ ⟨#[32]⟩) ++ wordK k) ++ ⟨#[32]⟩) ++ textB v
theorem wordK_size (k : Nat) : (wordK k).size = 2 := by unfold wordK; split <;> rfl
def printR (arg cmp m v : Int) : ByteArray × Int := if rightB arg cmp = true then (condText arg.toNat cmp.toNat m v, 0) else (⟨#[]⟩, 1)
theorem cat_of (p q : ByteArray) (h : p.size + q.size < 1000) : Cat p q (p ++ q) := ⟨rfl, by omega⟩
theorem Print_walk (arg cmp m v : Int) (hm : u64P m) (hv : u64P v) : Gives Try.prog 19 #[CV arg cmp m v] (.tuple #[.string (printR arg cmp m v).1, .int .i64 (printR arg cmp m v).2]) := by
  intro w
  have hR := Right_walk arg cmp m v
  unfold printR
  cases h : rightB arg cmp with
  | false =>
    rw [h] at hR
    rw [if_neg (by decide)]
    exact Print_no arg cmp m v hR w
  | true =>
    rw [h] at hR
    obtain ⟨j, k, rfl, rfl, hj, hk⟩ := right_nats h
    rw [if_pos rfl]
    try simp only [Int.toNat_natCast]
    have s1 := textB_size m hm
    have s2 := textB_size v hv
    have s3 : (digB j).size = 1 := rfl
    have s4 := wordK_size k
    have z1 : (⟨#[97]⟩ : ByteArray).size = 1 := rfl
    have z2 : (⟨#[32]⟩ : ByteArray).size = 1 := rfl
    have q1 : ((⟨#[97]⟩ : ByteArray)).size + (digB j).size < 1000 := by (try simp only [ByteArray.size_append]); omega
    have q2 : (((⟨#[97]⟩ : ByteArray) ++ digB j)).size + ((⟨#[32]⟩ : ByteArray)).size < 1000 := by (try simp only [ByteArray.size_append]); omega
    have q3 : ((((⟨#[97]⟩ : ByteArray) ++ digB j) ++ (⟨#[32]⟩ : ByteArray))).size + (textB m).size < 1000 := by (try simp only [ByteArray.size_append]); omega
    have q4 : (((((⟨#[97]⟩ : ByteArray) ++ digB j) ++ (⟨#[32]⟩ : ByteArray)) ++ textB m)).size + ((⟨#[32]⟩ : ByteArray)).size < 1000 := by (try simp only [ByteArray.size_append]); omega
    have q5 : ((((((⟨#[97]⟩ : ByteArray) ++ digB j) ++ (⟨#[32]⟩ : ByteArray)) ++ textB m) ++ (⟨#[32]⟩ : ByteArray))).size + (wordK k).size < 1000 := by (try simp only [ByteArray.size_append]); omega
    have q6 : (((((((⟨#[97]⟩ : ByteArray) ++ digB j) ++ (⟨#[32]⟩ : ByteArray)) ++ textB m) ++ (⟨#[32]⟩ : ByteArray)) ++ wordK k)).size + ((⟨#[32]⟩ : ByteArray)).size < 1000 := by (try simp only [ByteArray.size_append]); omega
    have q7 : ((((((((⟨#[97]⟩ : ByteArray) ++ digB j) ++ (⟨#[32]⟩ : ByteArray)) ++ textB m) ++ (⟨#[32]⟩ : ByteArray)) ++ wordK k) ++ (⟨#[32]⟩ : ByteArray))).size + (textB v).size < 1000 := by (try simp only [ByteArray.size_append]); omega
    exact Print_yes j k (by omega) (by omega) m v (digB j) (textB m) (textB v) kindsA (wordK k) (fnK k) (notK k) kinds_walk (fun w => kinds_index k hk w) hR (Text_walk m hm) (Text_walk v hv) (dig_enc j hj) _ _ _ _ _ _ _
      (cat_of _ _ q1) (cat_of _ _ q2) (cat_of _ _ q3) (cat_of _ _ q4) (cat_of _ _ q5) (cat_of _ _ q6) (cat_of _ _ q7) w
end Go.Proofs.Ythdkgpmpopjnaaa.H
