/-
DataBytes: in the row's order.
-/
import Derived.Test.YtgfmeiddicodoaaLDataBytes
import Derived.Test.YtgfmeiddicodoaaLDataBack2
set_option linter.unusedVariables false
namespace Go.Proofs.Ytgfmeiddicodoaa.H
open Go.RowKit Go.Proofs.YtgfmeiddicodoaaW.PrintWords
set_option maxHeartbeats 1000000 in
theorem DataBytes_big (x0 x1 x2 x3 x4 x5 x6 x7 x8 : Int) (A : Option Addr) (c n : Nat) (hbig : 200 < n) (w : World) :
    Calls Try.prog 13 #[.agg #[.int .u32 x0, .int .u32 x1, .int .u64 x2, .int .u64 x3, .int .u64 x4, .int .u64 x5, .int .u64 x6, .int .u64 x7, .int .u64 x8], .slice A n c] w fun e w' => e = .returned (.bool true) ∧ Below w.heap.size w w' := by
  have KN := Lib.hid knows_walk
  have Q3 := Lib.hid ((Below.refl w.heap.size w).alloc (Nat.le_refl _) (.cells #[.int .u32 x0, .int .u32 x1, .int .u64 x2, .int .u64 x3, .int .u64 x4, .int .u64 x5, .int .u64 x6, .int .u64 x7, .int .u64 x8] 26))
  go_enter Try.func13, Try.ntmps13
  go_wp2_with fail
  refine (KN.out _).mono ?_
  rintro e w1 ⟨rfl, hb⟩
  have HB7 := Lib.hid (Q3.out.trans (hb.mono Q3.out.size))
  clear hb
  go_wp2_with fail
  go_ret
  exact ⟨rfl, HB7.out⟩
theorem DataBytes_row (x0 x1 x2 x3 x4 x5 x6 x7 x8 : Int) (A : Option Addr) (c : Nat) (L : List Int) (w : World) (hd : IsD x0 x1 x2 [x3, x4, x5, x6, x7, x8]) (hL : ReadsInt w .u8 A L.length L) (hw : ∀ x ∈ L, (Lit.int .u8 x).wf = true) (hc : L.length ≤ c) :
    Calls Try.prog 13 #[.agg #[.int .u32 x0, .int .u32 x1, .int .u64 x2, .int .u64 x3, .int .u64 x4, .int .u64 x5, .int .u64 x6, .int .u64 x7, .int .u64 x8], .slice A L.length c] w fun e w' => e = .returned (.bool true) ∧ Below w.heap.size w w' := by
  have hB := bytes8_of hw
  have h1 := Bytes_walk x0 x1 x2 x3 x4 x5 x6 x7 x8 hd
  have h2 := RBytes_walk x0 x1 x2 x3 x4 x5 x6 x7 x8 hd
  have FA := fun A c w hr => From_any A c L w hr hB
  by_cases hbig : 200 < L.length
  · exact DataBytes_big x0 x1 x2 x3 x4 x5 x6 x7 x8 A c _ hbig w
  · by_cases h64 : L.length = 64
    · rw [show fromRow L = ofRow (fromL L) from if_pos h64, show fromErr L = 0 from if_pos h64] at FA
      have e := b4s_fromL L h64 hB
      refine DataBytes_same x0 x1 x2 x3 x4 x5 x6 x7 x8 A c L.length L _ rfl hbig (by omega) (by omega) _ _ _ _ _ _ _ _ _ ?_ FA h1 h2 w hL
      intro W hW
      rw [h64] at hW hc ⊢
      exact RFrom_words A c (fromL L) (by simp [fromL]) (fromL_u32 L hB) hc W (by rw [e]; exact hW)
    · rw [show fromRow L = ZR from if_neg h64] at FA
      by_cases hlt : L.length < 64
      · rw [show fromErr L = 9 by unfold fromErr; rw [if_neg h64, if_pos hlt]] at FA
        exact DataBytes_less x0 x1 x2 x3 x4 x5 x6 x7 x8 A c L.length L _ rfl hbig hlt FA h1 h2 w hL
      · rw [show fromErr L = 3 by unfold fromErr; rw [if_neg h64, if_neg hlt]] at FA
        exact DataBytes_more x0 x1 x2 x3 x4 x5 x6 x7 x8 A c L.length L _ rfl hbig hlt (by omega) FA h1 h2 w hL
end Go.Proofs.Ytgfmeiddicodoaa.H
