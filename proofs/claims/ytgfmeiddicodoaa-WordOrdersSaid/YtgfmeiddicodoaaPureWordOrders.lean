/- The plain statement behind WordOrders: sums, products, ors, ands and exclusive ors are the same in both orders; a difference takes back a sum. No condition. -/
import Derived.Test.YtgfmeiddicodoaaRx2
import Derived.Test.YtgfmeiddicodoaaHWord
set_option linter.unusedVariables false
set_option linter.unusedSimpArgs false
namespace Go.Proofs.Ytgfmeiddicodoaa.Pure
open Go.RowKit Go.Proofs.Ytgfmeiddicodoaa.H Go.Proofs.Ytgfmeiddicodoaa.R Go.Proofs.YtgfmeiddicodoaaW.PrintWords Go.Proofs.YtgfmeiddicodoaaW.PrintLast

theorem wr (i : Int) (h0 : 0 ≤ i) (h1 : i ≤ 10) : wrap64 (i + 1) = i + 1 := by unfold wrap64; omega

theorem WordOrders : hurdlelaw01_WordOrders.Pure := by
  intro a0 a1 h1 h2
  obtain ⟨p1, p2⟩ := bounds_u32 h1
  obtain ⟨q1, q2⟩ := bounds_u32 h2
  obtain ⟨a, rfl⟩ := Int.eq_ofNat_of_zero_le p1
  obtain ⟨b, rfl⟩ := Int.eq_ofNat_of_zero_le q1
  refine ⟨6, ?_⟩
  unfold hurdlelaw01_WordOrders.f
  have ha : a < 4294967296 := by omega
  have hb : b < 4294967296 := by omega
  have r0 : rd [4, 36, 68, 84, 164] 0 = 4 := rfl
  have r1 : rd [4, 36, 68, 84, 164] (0 + 1) = 36 := rfl
  have r2 : rd [4, 36, 68, 84, 164] (0 + 1 + 1) = 68 := rfl
  have r3 : rd [4, 36, 68, 84, 164] (0 + 1 + 1 + 1) = 84 := rfl
  have r4 : rd [4, 36, 68, 84, 164] (0 + 1 + 1 + 1 + 1) = 164 := rfl
  simp only [hurdlelaw01_WordOrders.l0]
  rw [if_pos (by decide), if_pos (by decide), r0, do_add, do_add, Nat.add_comm b a]
  simp only [Option.bind_some, if_true]
  rw [wr 0 (by decide) (by decide), if_pos (by decide), if_pos (by decide), r1, do_mul, do_mul, Nat.mul_comm b a]
  simp only [Option.bind_some, if_true]
  rw [wr _ (by decide) (by decide), if_pos (by decide), if_pos (by decide), r2, do_or a b ha hb, do_or b a hb ha, Nat.or_comm b a]
  simp only [Option.bind_some, if_true]
  rw [wr _ (by decide) (by decide), if_pos (by decide), if_pos (by decide), r3, do_and a b ha hb, do_and b a hb ha, Nat.and_comm b a]
  simp only [Option.bind_some, if_true]
  rw [wr _ (by decide) (by decide), if_pos (by decide), if_pos (by decide), r4, do_xor a b ha hb, do_xor b a hb ha, Nat.xor_comm b a]
  simp only [Option.bind_some, if_true]
  obtain ⟨v, hv, hv1, hv2⟩ := do_sub' ((a + b) % 4294967296) b (by omega) hb
  rw [wr _ (by decide) (by decide), if_neg (by decide), hv]
  have hva : v = a := by omega
  subst hva
  simp [knows_true]
end Go.Proofs.Ytgfmeiddicodoaa.Pure
