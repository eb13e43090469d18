/-
The reference of cond and word: the printer's names.
-/
import Derived.Test.YthdkgpmpopjnaaaHCondRP
set_option linter.unusedVariables false
set_option linter.unusedSimpArgs false
namespace Go.Proofs.Ythdkgpmpopjnaaa.H
open Go.RowKit Go.Proofs.YthdkgpmpopjnaaaW.PrintWords

theorem RefText_walk (n : Int) (h : u64P n) : Gives Try.prog 45 #[.int .u64 n] (.string (textB n)) := by
  intro w
  obtain ⟨k, rfl⟩ := Int.eq_ofNat_of_zero_le h.1
  exact M.hurdleref01_Text.calls 16 (k : Int) _ w (ref_text k 16 (by unfold u64P at h; omega) (by omega))
theorem RefPrint_walk (arg cmp m v : Int) (hr : rightB arg cmp = true) (hm : u64P m) (hv : u64P v) : Gives Try.prog 22 #[CV arg cmp m v] (.string (condText arg.toNat cmp.toNat m v)) := by
  intro w
  obtain ⟨j, k, rfl, rfl, hj, hk⟩ := right_nats hr
  try simp only [Int.toNat_natCast]
  have s1 := textB_size m hm
  have s2 := textB_size v hv
  have s3 : (digB j).size = 1 := rfl
  have s4 := wordK_size k
  have z1 : (⟨#[97]⟩ : ByteArray).size = 1 := rfl
  have z2 : (⟨#[32]⟩ : ByteArray).size = 1 := rfl
  have q1 : ((⟨#[97]⟩ : ByteArray)).size + (digB j).size < 1000 := by (try simp only [ByteArray.size_append]); omega
  have q2 : (((⟨#[97]⟩ : ByteArray) ++ digB j)).size + ((⟨#[32]⟩ : ByteArray)).size < 1000 := by (try simp only [ByteArray.size_append]); omega
  have q3 : ((((⟨#[97]⟩ : ByteArray) ++ digB j) ++ (⟨#[32]⟩ : ByteArray))).size + (textB m).size < 1000 := by (try simp only [ByteArray.size_append]); omega
  have q4 : (((((⟨#[97]⟩ : ByteArray) ++ digB j) ++ (⟨#[32]⟩ : ByteArray)) ++ textB m)).size + ((⟨#[32]⟩ : ByteArray)).size < 1000 := by (try simp only [ByteArray.size_append]); omega
  have q5 : ((((((⟨#[97]⟩ : ByteArray) ++ digB j) ++ (⟨#[32]⟩ : ByteArray)) ++ textB m) ++ (⟨#[32]⟩ : ByteArray))).size + (wordK k).size < 1000 := by (try simp only [ByteArray.size_append]); omega
  have q6 : (((((((⟨#[97]⟩ : ByteArray) ++ digB j) ++ (⟨#[32]⟩ : ByteArray)) ++ textB m) ++ (⟨#[32]⟩ : ByteArray)) ++ wordK k)).size + ((⟨#[32]⟩ : ByteArray)).size < 1000 := by (try simp only [ByteArray.size_append]); omega
  have q7 : ((((((((⟨#[97]⟩ : ByteArray) ++ digB j) ++ (⟨#[32]⟩ : ByteArray)) ++ textB m) ++ (⟨#[32]⟩ : ByteArray)) ++ wordK k) ++ (⟨#[32]⟩ : ByteArray))).size + (textB v).size < 1000 := by (try simp only [ByteArray.size_append]); omega
  exact RefPrint_yes j k (by omega) (by omega) m v (digB j) (textB m) (textB v) (wordK k) (RefText_walk m hm) (RefText_walk v hv) (dg_at j hj) (wk_at k hk) _ _ _ _ _ _ _
      (cat_of _ _ q1) (cat_of _ _ q2) (cat_of _ _ q3) (cat_of _ _ q4) (cat_of _ _ q5) (cat_of _ _ q6) (cat_of _ _ q7) w
def hurdleref01_Text.f (a0 : Int) : Option ByteArray := if u64P a0 then some (textB a0) else none
theorem hurdleref01_Text.calls (a0 : Int) (r : ByteArray) (w : World) (h : hurdleref01_Text.f a0 = some r) :
    Calls Try.prog 45 #[.int .u64 a0] w fun e w' => e = .returned (.string r) ∧ Below w.heap.size w w' := by
  unfold hurdleref01_Text.f at h
  split at h
  · rename_i hh
    have := RefText_walk a0 hh w
    rw [Option.some.inj h] at this
    exact this
  · simp at h
def hurdleref01_Parse.f (a0 : ByteArray) : Option (Int × Bool) := some (match parseL a0.data.toList with | some n => ((n : Int), true) | none => (0, false))
theorem hurdleref01_Parse.calls (a0 : ByteArray) (r1 : Int) (r2 : Bool) (w : World) (h : hurdleref01_Parse.f a0 = some (r1, r2)) :
    Calls Try.prog 43 #[.string a0] w fun e w' => e = .returned (.tuple #[.int .u64 r1, .bool r2]) ∧ Below w.heap.size w w' :=
  M.hurdleref01_Parse.calls 60 a0 r1 r2 w ((ref_parse a0 60 (by omega)).trans h)
def hurdleref08_Print.f (a0_0 : Int) (a0_1 : Int) (a0_2 : Int) (a0_3 : Int) : Option ByteArray := if rightB a0_0 a0_1 = true ∧ u64P a0_2 ∧ u64P a0_3 then some (condText a0_0.toNat a0_1.toNat a0_2 a0_3) else none
theorem hurdleref08_Print.calls (a0_0 : Int) (a0_1 : Int) (a0_2 : Int) (a0_3 : Int) (r : ByteArray) (w : World) (h : hurdleref08_Print.f a0_0 a0_1 a0_2 a0_3 = some r) :
    Calls Try.prog 22 #[.agg #[.int .i64 a0_0, .int .i64 a0_1, .int .u64 a0_2, .int .u64 a0_3]] w fun e w' => e = .returned (.string r) ∧ Below w.heap.size w w' := by
  unfold hurdleref08_Print.f at h
  split at h
  · rename_i hh
    have := RefPrint_walk a0_0 a0_1 a0_2 a0_3 hh.1 hh.2.1 hh.2.2 w
    rw [Option.some.inj h] at this
    exact this
  · simp at h
end Go.Proofs.Ythdkgpmpopjnaaa.H
