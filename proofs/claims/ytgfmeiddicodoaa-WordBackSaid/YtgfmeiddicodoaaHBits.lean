/-
The contract of hurdleref01.bits, with those of power and bit: the walks through their code.
-/
import Derived.Test.YtgfmeiddicodoaaProg
import Derived.WalkKit
import Derived.WalkSpells
import Derived.WalkLawsBesides
import Derived.Handy
import Derived.Lib.Hide
import Derived.Deep.QuietTactic
import Derived.BigQuiet
import Derived.Test.YtgfmeiddicodoaaHMath
import Derived.Test.YtgfmeiddicodoaaWWords
set_option linter.unusedVariables false
set_option linter.unusedSimpArgs false
namespace Go.Proofs.Ytgfmeiddicodoaa.H
open Go.RowKit Go.Proofs.YtgfmeiddicodoaaW.PrintWords

theorem tmod_nat (a b : Nat) : Int.tmod (a : Int) (b : Int) = ((a % b : Nat) : Int) := by
  rw [Int.tmod_eq_emod_of_nonneg (by omega)]; omega

set_option maxHeartbeats 400000 in
theorem power_walk (n : Nat) (hn : n < 4294967296) (w : World) :
    Calls Try.prog 39 #[.int .u32 n] w fun e w' => e = .returned (.int .u64 ((2 ^ (n % 32) : Nat) : Int)) ∧ w = w' := by
  have hm : n % 32 < 32 := Nat.mod_lt _ (by omega)
  go_enter Try.func39, Try.ntmps39
  go_wp2
  go_loop [3, 4] (fun v i => ∃ j : Nat, j ≤ n % 32 ∧ i = .int .u32 j ∧ v = .int .u64 ((2 ^ j : Nat) : Int)) (fun _ i => n % 32 - (intOf i).toNat)
  case atStart => exact ⟨0, by omega, rfl, rfl⟩
  case round =>
    obtain ⟨j, hj, rfl, rfl⟩ := hrel
    by_cases hlt : j < n % 32
    · have hp : 2 ^ j ≤ 2 ^ 31 := Nat.pow_le_pow_right (by omega) (by omega)
      obtain ⟨p, hpe⟩ : ∃ p, 2 ^ j = p := ⟨_, rfl⟩
      rw [hpe] at hp ⊢
      have HP := Lib.hid hpe
      clear hpe
      go_wp2
      go_round
      case rel => exact ⟨j + 1, by omega, by go_num, by rw [Nat.pow_succ, HP.out]; go_num⟩
      case measure => simp [intOf]; omega
    · obtain rfl : j = n % 32 := by omega
      obtain ⟨p, hpe⟩ : ∃ p, 2 ^ (n % 32) = p := ⟨_, rfl⟩
      rw [hpe]
      go_wp2
      go_ret
      exact ⟨rfl, rfl⟩

def bitv (a i : Nat) : Nat := a / 2 ^ (i % 32) % 2
theorem bitv_01 (a i : Nat) : bitv a i = 0 ∨ bitv a i = 1 := by unfold bitv; omega

theorem bit_val (a p d : Nat) (ha : a < 4294967296) (h : a / p % 2 = d) : (IntKind.u64.wrap ((a : Int) / (p : Int))).tmod 2 % 4294967296 = d := by
  have hq : a / p ≤ a := Nat.div_le_self _ _
  have e : (a : Int) / (p : Int) = ((a / p : Nat) : Int) := rfl
  rw [e]
  generalize a / p = q at *
  rw [IntWalk.u64_in _ (by omega), Int.tmod_eq_emod_of_nonneg (by omega)]
  omega

set_option maxHeartbeats 400000 in
theorem bit_walk (a i : Nat) (ha : a < 4294967296) (hi : i < 4294967296) (d : Nat) (hd : bitv a i = d) (w : World) :
    Calls Try.prog 45 #[.int .u32 a, .int .u32 i] w fun e w' => e = .returned (.int .u32 d) ∧ w = w' := by
  unfold bitv at hd
  have hp : 2 ^ (i % 32) ≤ 2147483648 := Nat.pow_le_pow_right (j := 31) (by omega) (by omega)
  have hp0 : 1 ≤ 2 ^ (i % 32) := Nat.one_le_two_pow
  have hw := power_walk i hi w
  obtain ⟨p, hpe⟩ : ∃ p, 2 ^ (i % 32) = p := ⟨_, rfl⟩
  rw [hpe] at hp hp0 hd hw
  have HP := Lib.hid hpe
  have HD := Lib.hid hd
  have HW := Lib.hid hw
  have hq : a / p ≤ a := Nat.div_le_self _ _
  clear hpe hd hw
  go_enter Try.func45, Try.ntmps45
  go_wp2_with fail
  refine HW.out.mono ?_
  rintro e w' ⟨rfl, rfl⟩
  have hne : ((p : Int) == 0) = false := by simp; omega
  go_wp2
  rw [bit_val a p d ha HD.out]
  go_ret
  exact ⟨rfl, rfl⟩

def bsum (a b : Nat) (l : List Int) : Nat → Int
  | 0 => 0
  | j + 1 => (bsum a b l j + (rd l ((2 * bitv a j + bitv b j : Nat) : Int) * ((2 ^ j : Nat) : Int)) % 4294967296) % 4294967296

theorem bsum_in (a b : Nat) (l : List Int) (j : Nat) : 0 ≤ bsum a b l j ∧ bsum a b l j < 4294967296 := by
  cases j with
  | zero => simp [bsum]
  | succ j => simp only [bsum]; omega

set_option maxHeartbeats 1000000 in
theorem bits_walk (a b : Nat) (ha : a < 4294967296) (hb : b < 4294967296) (ad : Addr) (c : Nat) (x0 x1 x2 x3 : Int) (w : World)
    (h0 : w.cell? ad = some (.int .u32 x0)) (h1 : w.cell? ⟨ad.block, ad.off + 1, none⟩ = some (.int .u32 x1)) (h2 : w.cell? ⟨ad.block, ad.off + 2, none⟩ = some (.int .u32 x2)) (h3 : w.cell? ⟨ad.block, ad.off + 3, none⟩ = some (.int .u32 x3)) :
    Calls Try.prog 38 #[.int .u32 a, .int .u32 b, .slice (some ad) 4 c] w fun e w' => e = .returned (.int .u32 (bsum a b [x0, x1, x2, x3] 32)) ∧ Drawn0 w w' := by
  go_enter Try.func38, Try.ntmps38
  go_wp2
  go_loopw [7, 8] (fun v i wr => ∃ j n : Nat, j ≤ 32 ∧ i = .int .u32 j ∧ v = .int .u32 (bsum a b [x0, x1, x2, x3] j) ∧ wr = w.drewN n) (fun _ i _ => 32 - (intOf i).toNat)
  case atStart => exact ⟨0, 0, by omega, rfl, rfl, rfl⟩
  case round =>
    obtain ⟨j, n, hj, rfl, rfl, rfl⟩ := hrel
    by_cases hlt : j < 32
    · have hs : bsum a b [x0, x1, x2, x3] (j + 1) = (bsum a b [x0, x1, x2, x3] j + (rd [x0, x1, x2, x3] ((2 * bitv a j + bitv b j : Nat) : Int) * ((2 ^ j : Nat) : Int)) % 4294967296) % 4294967296 := rfl
      have hp : 2 ^ j ≤ 2147483648 := Nat.pow_le_pow_right (j := 31) (by omega) (by omega)
      have hw := fun w => power_walk j (by omega) w
      rw [show j % 32 = j by omega] at hw
      have hin := bsum_in a b [x0, x1, x2, x3] j
      obtain ⟨S, hS⟩ : ∃ S, bsum a b [x0, x1, x2, x3] j = S := ⟨_, rfl⟩
      obtain ⟨p, hpe⟩ : ∃ p, 2 ^ j = p := ⟨_, rfl⟩
      rw [hS, hpe] at hs
      rw [hS] at hin ⊢
      rw [hpe] at hp hw
      have HW := Lib.hid hw
      clear hpe hw hS
      rcases bitv_01 a j with ea | ea <;> rcases bitv_01 b j with eb | eb
      all_goals
        have BA := Lib.hid (fun w => bit_walk a j ha (by omega) _ ea w)
        have BB := Lib.hid (fun w => bit_walk b j hb (by omega) _ eb w)
        rw [ea, eb] at hs
        have HS := Lib.hid hs
        clear hs ea eb
        go_wp2_with fail
        have g0 : IntKind.u32.wrap 0 = 0 := by decide
        have g1 : IntKind.u32.wrap 1 = 1 := by decide
        have g2 : IntKind.u32.wrap 2 = 2 := by decide
        have g3 : IntKind.u32.wrap 3 = 3 := by decide
        have i0 : IntKind.i64.wrap 0 = 0 := by decide
        have i1 : IntKind.i64.wrap 1 = 1 := by decide
        have i2 : IntKind.i64.wrap 2 = 2 := by decide
        have i3 : IntKind.i64.wrap 3 = 3 := by decide
        go_quiet (first | (go_at_call 39; (with_reducible refine (HW.out _).mono ?_); rintro e w' ⟨rfl, rfl⟩; exact ⟨rfl, _, rfl⟩) | (go_at_call 45; (with_reducible refine (BA.out _).mono ?_); rintro e w' ⟨rfl, rfl⟩; exact ⟨rfl, _, rfl⟩) | (go_at_call 45; (with_reducible refine (BB.out _).mono ?_); rintro e w' ⟨rfl, rfl⟩; exact ⟨rfl, _, rfl⟩))
        clear g0 g1 g2 g3 i0 i1 i2 i3 h0 h1 h2 h3
        go_wp2
        go_roundw
        case measure => simp [intOf]; omega
        case rel => exact ⟨j + 1, n + nq, by omega, by go_num, by rw [HS.out]; rfl, rfl⟩
    · obtain rfl : j = 32 := by omega
      go_wp2
      go_ret
      exact ⟨rfl, ⟨⟨_, rfl⟩⟩⟩

def hurdleref01_bits.f (a0 : Int) (a1 : Int) (l2 : List Int) : Option Int :=
  if 0 ≤ a0 ∧ a0 < 4294967296 ∧ 0 ≤ a1 ∧ a1 < 4294967296 ∧ l2.length = 4 then some (bsum a0.toNat a1.toNat l2 32) else none

theorem hurdleref01_bits.calls (a0 : Int) (a1 : Int) (A2 : Option Addr) (c2 : Nat) (l2 : List Int) (r : Int) (w : World) (hr2 : Kd.C (Kd.int .u32) w A2 l2.length l2) (hc2 : l2.length ≤ c2) (h : hurdleref01_bits.f a0 a1 l2 = some r) :
    Calls Try.prog 38 #[.int .u32 a0, .int .u32 a1, .slice A2 l2.length c2] w fun e w' => e = .returned (.int .u32 r) ∧ Below w.heap.size w w' := by
  unfold hurdleref01_bits.f at h
  split at h
  · rename_i hh
    obtain ⟨p1, p2, p3, p4, p5⟩ := hh
    obtain ⟨a, rfl⟩ := Int.eq_ofNat_of_zero_le p1
    obtain ⟨b, rfl⟩ := Int.eq_ofNat_of_zero_le p3
    have hr := Option.some.inj h
    subst hr
    match l2, p5 with
    | [x0, x1, x2, x3], _ =>
      have hq : ReadsOf (Value.int .u32) 0 w A2 4 [x0, x1, x2, x3] := Kd.reads_of_C (h1 := fun _ => rfl) hr2
      obtain ⟨ad, rfl, hcell⟩ := hq.2.2 (by decide)
      refine (bits_walk a b (by omega) (by omega) ad c2 x0 x1 x2 x3 w ?_ ?_ ?_ ?_).mono fun e w' ⟨he, hd⟩ => ⟨he, hd.below⟩
      · exact hcell 0 (by decide)
      · exact hcell 1 (by decide)
      · exact hcell 2 (by decide)
      · exact hcell 3 (by decide)
  · simp at h
end Go.Proofs.Ytgfmeiddicodoaa.H
