/-
What the reference's ReadAction answers (hurdleref09).
-/
import Derived.Test.YthdkgpmpopjnaaaRx3
import Derived.Test.YthdkgpmpopjnaaaHNamesRef
set_option linter.unusedVariables false
set_option linter.unusedSimpArgs false
namespace Go.Proofs.Ythdkgpmpopjnaaa.H
open Go.RowKit Go.Proofs.Ythdkgpmpopjnaaa.R Go.Proofs.YthdkgpmpopjnaaaW.PrintWords Go.Proofs.YthdkgpmpopjnaaaW.PrintMore

def RA (s : ByteArray) : Int × Bool := ((readAct s).1, ((readAct s).2 == 0))

theorem actOf_mid (d : Nat) (hd : d ≤ 4095) : actOf (327680 + d) = (errPre ++ strOfNums (textL d), 0) := by
  rcases act_cases (327680 + d) (by omega) with ⟨p, hp, h2, h3, _⟩ | ⟨d', hd', hvd, h3⟩ | ⟨_, h, _⟩
  · exact absurd h2 (AL_mid _ (by omega) (by omega) p hp)
  · have : d' = d := by omega
    subst this
    exact h3
  · exact absurd ⟨by omega, by omega⟩ h

theorem RA_mid (d : Nat) (hd : d ≤ 4095) : RA (errPre ++ strOfNums (textL d)) = (327680 + (d : Int), true) := by
  have h := readAct_act (327680 + d) (by omega) (by rw [actOf_mid d hd])
  rw [actOf_mid d hd] at h
  unfold RA
  simp only [] at h
  rw [h]
  simp

theorem RA_none (s : ByteArray) (h1 : numOf AL s = none) (h2 : ∀ d, d ≤ 4095 → errPre ++ strOfNums (textL d) ≠ s) : RA s = (0, false) := by
  unfold RA
  rcases act_readAct s with ⟨e, v, hv, hr, ha⟩ | h
  · exfalso
    rcases act_cases v hv with ⟨p, hp, _, h3, _⟩ | ⟨d, hd, hvd, h3⟩ | ⟨_, _, h3⟩
    · rw [ha] at h3
      have e1 : s = p.1 := congrArg Prod.fst h3
      rw [e1, numOf_hit good_AL hp] at h1
      cases h1
    · rw [ha] at h3
      exact h2 d hd (congrArg Prod.fst h3).symm
    · rw [ha] at h3
      have e2 := congrArg Prod.snd h3
      simp at e2
  · rw [h]; rfl

theorem act_size (d : Nat) (hd : d ≤ 4095) : 6 < (errPre ++ strOfNums (textL d)).size := by
  rw [pre_size, strOfNums_size]; simp [textL]

theorem ra_l1 (s : ByteArray) (h1 : numOf AL s = none) (d : Nat) : ∀ (k n : Nat), n + d = 4096 → d + 40 < k → (∀ m, m < n → errPre ++ strOfNums (textL m) ≠ s) →
    hurdleref09_ReadAction.l1 k s (n : Int) = some (RA s) := by
  induction d with
  | zero =>
    intro k n hn hk hno
    obtain ⟨k, rfl⟩ : ∃ m, k = m + 1 := ⟨k - 1, by omega⟩
    simp only [hurdleref09_ReadAction.l1]
    rw [if_neg (by omega), RA_none s h1 (fun d hd => hno d (by omega))]
  | succ d ih =>
    intro k n hn hk hno
    obtain ⟨k, rfl⟩ : ∃ m, k = m + 1 := ⟨k - 1, by omega⟩
    simp only [hurdleref09_ReadAction.l1]
    have e1 : (327680 + (n : Int)) % 4294967296 = ((327680 + n : Nat) : Int) := by omega
    have e2 : ((n : Int) + 1) % 4294967296 = ((n + 1 : Nat) : Int) := by omega
    have hstep : errPre ++ strOfNums (textL n) ≠ s → hurdleref09_ReadAction.l1 k s (((n : Int) + 1) % 4294967296) = some (RA s) := by
      intro hne
      rw [e2]
      refine ih k (n + 1) (by omega) (by omega) (fun m hm => ?_)
      by_cases hmn : m = n
      · subst hmn; exact hne
      · exact hno m (by omega)
    rw [if_pos (by omega)]
    by_cases h6 : (s.size : Int) > 6
    · rw [if_pos h6, e1, ref_action _ (by omega) k (by omega), actOf_mid n (by omega)]
      simp only [Option.bind_some]
      by_cases he : errPre ++ strOfNums (textL n) = s
      · rw [if_pos (by rw [he]), ← he, RA_mid n (by omega)]
        congr 1
      · rw [if_neg (fun h => he (ba_ext' h))]
        exact hstep he
    · rw [if_neg h6]
      refine hstep (fun he => ?_)
      have := act_size n (by omega)
      rw [he] at this
      omega

theorem wrl (i : Int) (h0 : 0 ≤ i) (h1 : i ≤ 10) : wrap64 (i + 1) = i + 1 := by unfold wrap64; omega

theorem act_AL (v : Nat) (nm : ByteArray) (h : ((nm, (v : Int)) : ByteArray × Int) ∈ AL) (hv : v < 4294967296) : (actOf v).1 = nm := by
  unfold actOf
  rw [nameOf_hit good_AL.uniq h, if_pos (nonempty_of (good_AL.some_ _ h))]
theorem RA_AL (v : Nat) (nm : ByteArray) (h : ((nm, (v : Int)) : ByteArray × Int) ∈ AL) : RA nm = ((v : Int), true) := by
  unfold RA readAct
  have := numOf_hit good_AL h
  simp only [] at this
  rw [this]
  rfl

theorem ra_step (s : ByteArray) (k : Nat) (hk : 40 ≤ k) (i v : Nat) (hi : i < 4) (nm : ByteArray) (h : ((nm, (v : Int)) : ByteArray × Int) ∈ AL) (hv : v < 4294967296)
    (hr : rd [0, 196608, 2147221504, 2147418112] (i : Int) = (v : Int)) :
    hurdleref09_ReadAction.l0 (k + 1) s [0, 196608, 2147221504, 2147418112] (i : Int) = if nm = s then some (RA s) else hurdleref09_ReadAction.l0 k s [0, 196608, 2147221504, 2147418112] ((i + 1 : Nat) : Int) := by
  simp only [hurdleref09_ReadAction.l0]
  rw [if_pos (by omega), if_pos (by omega), if_pos (by simp; omega), hr, ref_action v hv k (by omega), act_AL v nm h hv]
  simp only [Option.bind_some]
  by_cases he : nm = s
  · rw [if_pos (by rw [he]), if_pos he, ← he, RA_AL v nm h]
  · rw [if_neg (fun h => he (ba_ext' h)), if_neg he, wr1 i (by omega)]

theorem ref_readAction (s : ByteArray) : hurdleref09_ReadAction.f (4200 + 1 + 1 + 1 + 1 + 1) s = some (RA s) := by
  have e : hurdleref09_ReadAction.f (4200 + 1 + 1 + 1 + 1 + 1) s = hurdleref09_ReadAction.l0 (4200 + 1 + 1 + 1 + 1 + 1) s [0, 196608, 2147221504, 2147418112] ((0 : Nat) : Int) := rfl
  rw [e]
  generalize hK : 4200 = K
  have m0 : ((⟨#[107, 105, 108, 108]⟩, ((0 : Nat) : Int)) : ByteArray × Int) ∈ AL := by unfold AL; simp
  have m1 : ((⟨#[116, 114, 97, 112]⟩, ((196608 : Nat) : Int)) : ByteArray × Int) ∈ AL := by unfold AL; simp
  have m2 : ((⟨#[108, 111, 103]⟩, ((2147221504 : Nat) : Int)) : ByteArray × Int) ∈ AL := by unfold AL; simp
  have m3 : ((⟨#[97, 108, 108, 111, 119]⟩, ((2147418112 : Nat) : Int)) : ByteArray × Int) ∈ AL := by unfold AL; simp
  rw [ra_step s _ (by omega) 0 0 (by omega) _ m0 (by omega) rfl]
  by_cases h0 : (⟨#[107, 105, 108, 108]⟩ : ByteArray) = s
  · rw [if_pos h0]
  rw [if_neg h0, ra_step s _ (by omega) 1 196608 (by omega) _ m1 (by omega) rfl]
  by_cases h1 : (⟨#[116, 114, 97, 112]⟩ : ByteArray) = s
  · rw [if_pos h1]
  rw [if_neg h1, ra_step s _ (by omega) 2 2147221504 (by omega) _ m2 (by omega) rfl]
  by_cases h2 : (⟨#[108, 111, 103]⟩ : ByteArray) = s
  · rw [if_pos h2]
  rw [if_neg h2, ra_step s _ (by omega) 3 2147418112 (by omega) _ m3 (by omega) rfl]
  by_cases h3 : (⟨#[97, 108, 108, 111, 119]⟩ : ByteArray) = s
  · rw [if_pos h3]
  rw [if_neg h3]
  have hno : numOf AL s = none := numOf_none (by
    intro p hp
    unfold AL at hp
    simp only [List.mem_cons, List.not_mem_nil, or_false] at hp
    rcases hp with rfl | rfl | rfl | rfl
    · exact h0
    · exact h1
    · exact h2
    · exact h3)
  simp only [hurdleref09_ReadAction.l0]
  rw [if_neg (by omega)]
  have := ra_l1 s hno 4096 K 0 (by omega) (by omega) (by omega)
  exact this
end Go.Proofs.Ythdkgpmpopjnaaa.H
