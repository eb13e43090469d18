/- Lemmas for this claim: A policy with a rule put in; what it says. (Some lines were printed for this seat by the kit's print.sh; wip/pack.py has put the needed ones together.) -/
import Derived.LoopTactic
import Derived.StillTailTactics
import Derived.Test.YtekpbgmmogpbdaaZC1
namespace Go.Proofs.Ytekpbgmmogpbdaa.P
open Go.RowKit Go.Proofs.Ytekpbgmmogpbdaa.H Go.Proofs.YtekpbgmmogpbdaaW.PrintWords Go.Proofs.YtekpbgmmogpbdaaW.PrintLast Go.Proofs.YtekpbgmmogpbdaaW.PrintMore
attribute [local go_sem] max2_int min2_int max_two min_two max_three min_three max_four min_four
set_option linter.unusedVariables false
set_option linter.unusedSimpArgs false
def IsS65 (w0 W : World) (g : Nat) (f0 : ByteArray) (f1 : Bool) (f2 : Bool) : Prop := W.heap[g]? = some (.cells #[.string f0, .bool f1, .bool f2] 65 (0, 0)) ∧ w0.heap.size ≤ g
theorem IsS65.grown {w0 W : World} {g : Nat} {f0 : ByteArray} {f1 : Bool} {f2 : Bool} {W1 : World} {row : Option Nat} (h : IsS65 w0 W g f0 f1 f2) (hw : W.grownBy W1 row) (hne : some g ≠ row) : IsS65 w0 W1 g f0 f1 f2 := by
  obtain ⟨hb, hg⟩ := h
  exact ⟨blk_grown hb hw hne, hg⟩
theorem IsS65.kept {w0 W : World} {g : Nat} {f0 : ByteArray} {f1 : Bool} {f2 : Bool} {W1 : World} {S : Nat → Prop} (h : IsS65 w0 W g f0 f1 f2) (hk : Kept W W1 S) (hne : ¬ S g) : IsS65 w0 W1 g f0 f1 f2 := by
  obtain ⟨hb, hg⟩ := h
  exact ⟨blk_kept hb hk hne, hg⟩
theorem IsS65.below {w0 W : World} {g : Nat} {f0 : ByteArray} {f1 : Bool} {f2 : Bool} {W1 : World} (h : IsS65 w0 W g f0 f1 f2) (hw : Below W.heap.size W W1) : IsS65 w0 W1 g f0 f1 f2 := h.grown (grown_of_below hw none) (by simp)
theorem IsS65.alloc {w0 W : World} {g : Nat} {f0 : ByteArray} {f1 : Bool} {f2 : Bool} (h : IsS65 w0 W g f0 f1 f2) (o : Obj) : IsS65 w0 (W.alloc o) g f0 f1 f2 := h.below (below_alloc (Below.refl _ _) o)
theorem IsS65.drewN {w0 W : World} {g : Nat} {f0 : ByteArray} {f1 : Bool} {f2 : Bool} (h : IsS65 w0 W g f0 f1 f2) (m : Nat) : IsS65 w0 (W.drewN m) g f0 f1 f2 := h
theorem IsS65.drew {w0 W : World} {g : Nat} {f0 : ByteArray} {f1 : Bool} {f2 : Bool} (h : IsS65 w0 W g f0 f1 f2) : IsS65 w0 W.drew g f0 f1 f2 := h
theorem IsS65.at_ {w0 W : World} {g : Nat} {f0 : ByteArray} {f1 : Bool} {f2 : Bool} {w' : World} {m : Nat} (hq : W.drewN m = w') (h : IsS65 w0 W g f0 f1 f2) : IsS65 w0 w' g f0 f1 f2 := by subst hq; exact IsS65.drewN h m
theorem IsS65.apart {w0 W : World} {g : Nat} {f0 : ByteArray} {f1 : Bool} {f2 : Bool} {α : Type} {d : Kd α} {e : Nat} {base : Nat} {ok : Nat → Prop} {v : Value} {xs : List α} (h : IsS65 w0 W g f0 f1 f2) (ho : d.R e W base ok v xs) (ht : ∀ q, q ∈ e :: d.E → q ≠ 65) : d.R e W base (fun k => ok k ∧ k ≠ g) v xs := by
  obtain ⟨hb, hg⟩ := h
  exact Kd.R_types ho hb ht
theorem IsS65.own_ne {w0 W : World} {g : Nat} {f0 : ByteArray} {f1 : Bool} {f2 : Bool} {α : Type} {d : Kd α} {e : Nat} {base : Nat} {ok : Nat → Prop} {v : Value} {xs : List α} (h : IsS65 w0 W g f0 f1 f2) (ho : d.R e W base ok v xs) (ht : e ≠ 65) : some g ≠ v.ownBlock := by
  obtain ⟨hb, hg⟩ := h
  exact Kd.R_ne ho hb ht
theorem IsS65.own_neS {w0 W : World} {g : Nat} {f0 : ByteArray} {f1 : Bool} {f2 : Bool} {α : Type} {d : Kd α} {e : Nat} {base : Nat} {ok : Nat → Prop} {v : Value} {xs : List α} (h : IsS65 w0 W g f0 f1 f2) (ho : d.S e W base ok v xs) (ht : e ≠ 65) : some g ≠ v.ownBlock := by
  obtain ⟨hb, hg⟩ := h
  exact Kd.S_ne ho hb ht
theorem IsS65.lt {w0 W : World} {g : Nat} {f0 : ByteArray} {f1 : Bool} {f2 : Bool} (h : IsS65 w0 W g f0 f1 f2) : g < W.heap.size := by
  obtain ⟨hb, hg⟩ := h
  exact blk_lt hb
theorem IsS65.ge {w0 W : World} {g : Nat} {f0 : ByteArray} {f1 : Bool} {f2 : Bool} (h : IsS65 w0 W g f0 f1 f2) : w0.heap.size ≤ g := by
  obtain ⟨hb, hg⟩ := h
  exact hg
theorem IsS65.far {w0 W : World} {g : Nat} {f0 : ByteArray} {f1 : Bool} {f2 : Bool} {p : Addr} (h : IsS65 w0 W g f0 f1 f2) (hne : g ≠ p.block) (u : Value) : IsS65 w0 (W.setCell p u) g f0 f1 f2 := by
  obtain ⟨hb, hg⟩ := h
  exact ⟨blk_far hb hne u, hg⟩
theorem cellS65_0 {W : World} {g : Nat} {f0 : ByteArray} {f1 : Bool} {f2 : Bool} (h : W.heap[g]? = some (.cells #[.string f0, .bool f1, .bool f2] 65 (0, 0))) : W.cell? ⟨g, 0, none⟩ = some (.string f0) := (blk_cell h 0).trans rfl
theorem IsS65.set_0 {w0 W : World} {g : Nat} {f0 : ByteArray} {f1 : Bool} {f2 : Bool} (h : IsS65 w0 W g f0 f1 f2) (x : ByteArray) : IsS65 w0 (W.setCell ⟨g, 0, none⟩ (.string x)) g x f1 f2 := by
  obtain ⟨hb, hg⟩ := h
  exact ⟨by simpa using blk_set hb 0 (.string x), hg⟩
theorem cellS65_1 {W : World} {g : Nat} {f0 : ByteArray} {f1 : Bool} {f2 : Bool} (h : W.heap[g]? = some (.cells #[.string f0, .bool f1, .bool f2] 65 (0, 0))) : W.cell? ⟨g, 1, none⟩ = some (.bool f1) := (blk_cell h 1).trans rfl
theorem IsS65.set_1 {w0 W : World} {g : Nat} {f0 : ByteArray} {f1 : Bool} {f2 : Bool} (h : IsS65 w0 W g f0 f1 f2) (x : Bool) : IsS65 w0 (W.setCell ⟨g, 1, none⟩ (.bool x)) g f0 x f2 := by
  obtain ⟨hb, hg⟩ := h
  exact ⟨by simpa using blk_set hb 1 (.bool x), hg⟩
theorem cellS65_2 {W : World} {g : Nat} {f0 : ByteArray} {f1 : Bool} {f2 : Bool} (h : W.heap[g]? = some (.cells #[.string f0, .bool f1, .bool f2] 65 (0, 0))) : W.cell? ⟨g, 2, none⟩ = some (.bool f2) := (blk_cell h 2).trans rfl
theorem IsS65.set_2 {w0 W : World} {g : Nat} {f0 : ByteArray} {f1 : Bool} {f2 : Bool} (h : IsS65 w0 W g f0 f1 f2) (x : Bool) : IsS65 w0 (W.setCell ⟨g, 2, none⟩ (.bool x)) g f0 f1 x := by
  obtain ⟨hb, hg⟩ := h
  exact ⟨by simpa using blk_set hb 2 (.bool x), hg⟩
def policy_reader_must.f (s0_0 : ByteArray) (s0_1 : Bool) (s0_2 : Bool) (a1 : Int) : Option (ByteArray × Bool × Bool) := if s0_2 = true then (some (s0_0, s0_1, true)) else (some (s0_0, s0_1, (a1 != 0)))
set_option maxHeartbeats 8000000 in
set_option maxRecDepth 100000 in
theorem policy_reader_must.calls (g : Nat) (s0_0 : ByteArray) (s0_1 : Bool) (s0_2 : Bool) (a1 : Int) (r1 : ByteArray) (r2 : Bool) (r3 : Bool) (w0 w : World) (hI : IsS65 w0 w g s0_0 s0_1 s0_2) (hB : Below w0.heap.size w0 w) (h : policy_reader_must.f s0_0 s0_1 s0_2 a1 = some (r1, r2, r3)) :
    Calls Try.prog 40 #[.pointer (some ⟨g, 0, none⟩), .int .i64 a1] w fun e w' => e = .returned (.tuple #[]) ∧ IsS65 w0 w' g r1 r2 r3 ∧ Below w0.heap.size w0 w' ∧ KeepBut w w' g none := by
  have HI0 := Aside0.mk hI
  have HK := Aside0.mk (KeepBut.refl w g none)
  have HL := Aside0.mk hB.size
  clear hI
  have HW0 := Aside0.mk hB.size
  have HB := Aside0.mk hB
  clear hB
  have H : (if s0_2 = true then (some (s0_0, s0_1, true)) else (some (s0_0, s0_1, (a1 != 0)))) = some (r1, r2, r3) := h
  clear h
  by_cases c3 : s0_2 = true
  · subst c3
    have H1 : (some (s0_0, s0_1, true)) = some (r1, r2, r3) := by rw [if_pos rfl] at H; exact H
    clear H
    have H := H1
    clear H1
    simp only [Option.some.injEq, Prod.mk.injEq] at H
    obtain ⟨rfl, rfl, rfl⟩ := H
    obtain ⟨HGz4, hgz4⟩ := HI0.out
    have hcz4_0 := cellS65_0 HGz4
    have hcz4_1 := cellS65_1 HGz4
    have hcz4_2 := cellS65_2 HGz4
    have hfz4_0 := blk_frozen HGz4 0
    have hfz4_1 := blk_frozen HGz4 1
    have hfz4_2 := blk_frozen HGz4 2
    clear HGz4 hgz4
    go_enter Try.func40, Try.ntmps40
    go_wp2
    first | go_end0 | ((try simp only [Exit.inBlock, Exit.then]); refine bodyPost_ret (results_none rfl _ _ _) rfl ?_)
    exact ⟨by first | rfl | (simp [errW_none, errW_some] <;> rfl) | (simp [*, errW_none, errW_some] <;> rfl), by repeat (first | (with_reducible first | exact HI0.out | apply IsS65.alloc | apply IsS65.drewN | apply IsS65.drew | apply IsS65.set_0 | apply IsS65.set_1 | apply IsS65.set_2) | exact HI0.out), by repeat (first | (with_reducible first | exact HB.out | apply below_alloc | apply pw_below_drewN | apply below_drew1 | refine below_set ?_ (IsS65.ge HI0.out)) | exact HB.out), by repeat (first | (with_reducible first | exact HK.out | apply KeepBut.set_ | apply keep_drewN | apply keep_drew | apply keep_alloc) | exact HK.out)⟩
  · replace c3 := Bool.eq_false_iff.mpr c3
    subst c3
    have H1 : (some (s0_0, s0_1, (a1 != 0))) = some (r1, r2, r3) := by rw [if_neg (show ¬ (false = true) by decide)] at H; exact H
    clear H
    have H := H1
    clear H1
    simp only [Option.some.injEq, Prod.mk.injEq] at H
    obtain ⟨rfl, rfl, rfl⟩ := H
    obtain ⟨HGz5, hgz5⟩ := HI0.out
    have hcz5_0 := cellS65_0 HGz5
    have hcz5_1 := cellS65_1 HGz5
    have hcz5_2 := cellS65_2 HGz5
    have hfz5_0 := blk_frozen HGz5 0
    have hfz5_1 := blk_frozen HGz5 1
    have hfz5_2 := blk_frozen HGz5 2
    clear HGz5 hgz5
    go_enter Try.func40, Try.ntmps40
    go_wp2
    first | go_end0 | ((try simp only [Exit.inBlock, Exit.then]); refine bodyPost_ret (results_none rfl _ _ _) rfl ?_)
    exact ⟨by first | rfl | (simp [errW_none, errW_some] <;> rfl) | (simp [*, errW_none, errW_some] <;> rfl), by repeat (first | (with_reducible first | exact HI0.out | apply IsS65.alloc | apply IsS65.drewN | apply IsS65.drew | apply IsS65.set_0 | apply IsS65.set_1 | apply IsS65.set_2) | exact HI0.out), by repeat (first | (with_reducible first | exact HB.out | apply below_alloc | apply pw_below_drewN | apply below_drew1 | refine below_set ?_ (IsS65.ge HI0.out)) | exact HB.out), by repeat (first | (with_reducible first | exact HK.out | apply KeepBut.set_ | apply keep_drewN | apply keep_drew | apply keep_alloc) | exact HK.out)⟩
end Go.Proofs.Ytekpbgmmogpbdaa.P
set_option linter.unusedVariables false
set_option linter.unusedSimpArgs false
set_option maxRecDepth 100000
namespace Go.Proofs.Ytekpbgmmogpbdaa.H
open Go.RowKit Go.Proofs.YtekpbgmmogpbdaaW.PrintWords
def wordF (s : ByteArray) (e b : Bool) : ByteArray × ByteArray × Bool × Bool :=
  if e = true then (⟨#[]⟩, s, true, true) else if (32 : UInt8) ∈ s.data.toList then (ofBytes (cutL s.data.toList).1, ofBytes (cutL s.data.toList).2, false, b) else (s, s, true, b)
def RdRow (W : World) (g : Nat) (s : ByteArray) (e b : Bool) : Prop := W.heap[g]? = some (.cells #[.string s, .bool e, .bool b] 65 (0, 0))
theorem below_far {g j : Nat} {w w1 : World} (h : Below g w w1) (u : Value) : Below g w (w1.setCell ⟨g, j, none⟩ u) :=
  h.trans ⟨rfl, rfl, rfl, by simp [World.setCell], fun q hq => heap_setCell_other _ _ _ _ (by simp; omega)⟩
def WordEnd (g : Nat) (w : World) (r s : ByteArray) (e b : Bool) (en : Ending) (w' : World) : Prop := en = .returned (.string r) ∧ RdRow w' g s e b ∧ KeepBut w w' g none ∧ Below g w w'
set_option maxHeartbeats 2000000 in
theorem word_end (g : Nat) (s : ByteArray) (b : Bool) (w : World) (hg : RdRow w g s true b) :
    Calls Try.prog 37 #[.pointer (some ⟨g, 0, none⟩)] w (WordEnd g w ⟨#[]⟩ s true true) := by
  unfold RdRow at hg
  have c0 := (blk_cell hg 0 : w.cell? ⟨g, 0, none⟩ = _)
  have c1 := (blk_cell hg 1 : w.cell? ⟨g, 1, none⟩ = _)
  have c2 := (blk_cell hg 2 : w.cell? ⟨g, 2, none⟩ = _)
  have f2 : w.frozen? ⟨g, 2, none⟩ = false := blk_frozen hg 2
  have HG := Lib.hid hg
  clear hg
  go_enter Try.func37, Try.ntmps37
  go_wp2
  go_ret
  exact ⟨rfl, blk_set HG.out 2 _, (KeepBut.refl w g none).set_ 2 _, below_far (Below.refl _ _) _⟩
theorem mem32 (s : ByteArray) (pos : Nat) (h : pos < s.size) (h32 : (s[pos]'h).toNat = 32) : (32 : UInt8) ∈ s.data.toList := by
  have := ba_get s pos h
  have e : s[pos]'h = 32 := UInt8.toNat_inj.1 h32
  rw [e] at this
  exact List.mem_of_getElem? this
theorem not_mem32 (s : ByteArray) (hb : ∀ j (hj : j < s.size), (s[j]'hj).toNat ≠ 32) : (32 : UInt8) ∉ s.data.toList := by
  intro hm
  obtain ⟨j, hj⟩ := List.mem_iff_getElem?.1 hm
  by_cases h : j < s.size
  · rw [ba_get s j h] at hj
    injection hj with hj
    exact hb j h (by rw [hj]; rfl)
  · rw [List.getElem?_eq_none (by simp; omega)] at hj
    simp at hj
set_option maxHeartbeats 2000000 in
theorem word_go (g : Nat) (s : ByteArray) (b : Bool) (hsz : s.size ≤ 140737488351232) (w : World) (hg : RdRow w g s false b) :
    Calls Try.prog 37 #[.pointer (some ⟨g, 0, none⟩)] w (WordEnd g w (wordF s false b).1 (wordF s false b).2.1 (wordF s false b).2.2.1 (wordF s false b).2.2.2) := by
  obtain ⟨r1, hr1⟩ : ∃ r, ofBytes (cutL s.data.toList).1 = r := ⟨_, rfl⟩
  obtain ⟨r2, hr2⟩ : ∃ r, ofBytes (cutL s.data.toList).2 = r := ⟨_, rfl⟩
  have HF := Lib.hid (fun pos h h32 hb => hr1 ▸ hr2 ▸ cut_found s pos h h32 hb)
  have HW := Lib.hid (show (32 : UInt8) ∈ s.data.toList → wordF s false b = (r1, r2, false, b) from fun h => by unfold wordF; rw [if_neg (by decide), if_pos h, hr1, hr2])
  have HV := Lib.hid (show (32 : UInt8) ∉ s.data.toList → wordF s false b = (s, s, true, b) from fun h => by unfold wordF; rw [if_neg (by decide), if_neg h])
  generalize wordF s false b = wf at *
  clear hr1 hr2
  unfold RdRow at hg
  have c0 := (blk_cell hg 0 : w.cell? ⟨g, 0, none⟩ = _)
  have c1 := (blk_cell hg 1 : w.cell? ⟨g, 1, none⟩ = _)
  have c2 := (blk_cell hg 2 : w.cell? ⟨g, 2, none⟩ = _)
  have HG := Lib.hid hg
  clear hg
  go_enter Try.func37, Try.ntmps37
  go_wp2_with fail
  clear c0 c1 c2
  go_loopw [3, 4] (fun _ _ wr => CutRel w s wr) (fun _ _ wr => s.size - wr.iterPos w.heap.size)
  case atStart => exact ⟨0, rfl, by omega, fun j hj h => by omega⟩
  case round =>
    obtain ⟨pos, rfl, hp, hbef⟩ := hrel
    have HBF := Lib.hid hbef
    clear hbef
    by_cases hlt : pos < s.size
    · by_cases ha : (s[pos]'hlt).toNat < 128
      · have hnx : ∀ ty, (Instr.next (.pointer (some ⟨w.heap.size, 0, none⟩)) true ty).run Try.prog (w.iter s pos) = _ := fun ty => run_next_ascii w s pos ty hlt ha
        obtain ⟨c, hc⟩ : ∃ c, (s[pos]'hlt).toNat = c := ⟨_, rfl⟩
        rw [hc] at hnx
        have HC := Lib.hid hc
        clear hc ha
        by_cases h32 : c = 32
        · subst h32
          have HF2 := Lib.hid (HF.out pos hlt HC.out HBF.out)
          have hm := mem32 s pos hlt HC.out
          have HWF := Lib.hid (HW.out hm)
          clear hm
          have hpi : (0 : Int) ≤ (pos : Int) ∧ (pos : Int) ≤ (s.size : Int) ∧ (pos : Int) + 1 ≤ (s.size : Int) := by omega
          obtain ⟨hp1, hp2, hp3⟩ := hpi
          have hb2 := iter_below w s (pos + 1)
          have hg2 := blk_below HG.out hb2
          have HB2 := Lib.hid hb2
          have HG2 := Lib.hid hg2
          have d0 := (blk_cell hg2 0 : (w.iter s (pos + 1)).cell? ⟨g, 0, none⟩ = _)
          have f0 : (w.iter s (pos + 1)).frozen? ⟨g, 0, none⟩ = false := blk_frozen hg2 0
          clear hb2 hg2
          go_wp2_with fail
          have hlt2 := Lib.hid (blk_lt HG.out)
          go_ret
          rw [HWF.out]
          exact ⟨by show _ = Ending.returned (Value.string r1); rw [← HF2.out.1]; rfl, by unfold RdRow; rw [← HF2.out.2]; exact blk_set HG2.out 0 _, (KeepBut.of_below HB2.out g none).set_ 0 _, below_far (HB2.out.mono (Nat.le_of_lt hlt2.out)) _⟩
        · have h32' : ((c : Int) == 32) = false := by simp; omega
          go_wp2_with fail
          go_roundw
          case rel => exact ⟨pos + 1, rfl, by omega, fun j hj h => by
            by_cases e : j = pos
            · subst e; rw [HC.out]; exact h32
            · exact HBF.out j hj (by omega)⟩
          case measure => simp; omega
      · have hnx : ∀ ty, (Instr.next (.pointer (some ⟨w.heap.size, 0, none⟩)) true ty).run Try.prog (w.iter s pos) = _ := fun ty => run_next_any w s pos ty hlt
        have hb := decode_high s pos hlt (by omega)
        have hle := decode_le s pos
        have HS := Lib.hid (decode_span s pos hlt (by omega))
        clear ha
        generalize (Utf8.decode s pos).1 = c at *
        generalize (Utf8.decode s pos).2 = p2 at *
        have h32' : ((c : Int) == 32) = false := by simp; omega
        go_wp2_with fail
        go_roundw
        case rel => exact ⟨pos + p2, rfl, HS.out.2.1, fun j hj h => by
          by_cases e : j < pos
          · exact HBF.out j hj e
          · have := HS.out.2.2 j hj (by omega) h; omega⟩
        case measure => have := HS.out.2.1; have := HS.out.1; simp; omega
    · have hnx : ∀ ty, (Instr.next (.pointer (some ⟨w.heap.size, 0, none⟩)) true ty).run Try.prog (w.iter s pos) = _ := fun ty => run_next_end w s pos ty hlt
      have HWF := Lib.hid (HV.out (not_mem32 s (fun j hj => HBF.out j hj (by omega))))
      have hb2 := iter_below w s pos
      have hg2 := blk_below HG.out hb2
      have HB2 := Lib.hid hb2
      have HG2 := Lib.hid hg2
      have d0 := (blk_cell hg2 0 : (w.iter s pos).cell? ⟨g, 0, none⟩ = _)
      have d1 := (blk_cell hg2 1 : (w.iter s pos).cell? ⟨g, 1, none⟩ = _)
      have f1 : (w.iter s pos).frozen? ⟨g, 1, none⟩ = false := blk_frozen hg2 1
      have hlt2 := Lib.hid (blk_lt HG.out)
      clear hb2 hg2
      go_wp2
      go_ret
      rw [HWF.out]
      exact ⟨rfl, blk_set HG2.out 1 _, (KeepBut.of_below HB2.out g none).set_ 1 _, below_far (HB2.out.mono (Nat.le_of_lt hlt2.out)) _⟩
theorem word_walk (g : Nat) (s : ByteArray) (e b : Bool) (hsz : s.size ≤ 140737488351232) (w : World) (hg : RdRow w g s e b) :
    Calls Try.prog 37 #[.pointer (some ⟨g, 0, none⟩)] w (WordEnd g w (wordF s e b).1 (wordF s e b).2.1 (wordF s e b).2.2.1 (wordF s e b).2.2.2) := by
  cases e with
  | true => exact word_end g s b w hg
  | false => exact word_go g s b hsz w hg
end Go.Proofs.Ytekpbgmmogpbdaa.H
set_option linter.unusedVariables false
set_option linter.unusedSimpArgs false
set_option maxRecDepth 100000
namespace Go.Proofs.Ytekpbgmmogpbdaa.H
open Go.RowKit Go.Proofs.YtekpbgmmogpbdaaW.PrintWords
def policy_reader_word.f (s : ByteArray) (e b : Bool) : Option (ByteArray × ByteArray × Bool × Bool) := if s.size ≤ 140737488351232 then some (wordF s e b) else none
theorem policy_reader_word.calls (g : Nat) (s0_0 : ByteArray) (s0_1 : Bool) (s0_2 : Bool) (r1 : ByteArray) (r2 : ByteArray) (r3 : Bool) (r4 : Bool) (w0 w : World) (hI : P.IsS65 w0 w g s0_0 s0_1 s0_2) (hB : Below w0.heap.size w0 w) (h : policy_reader_word.f s0_0 s0_1 s0_2 = some (r1, r2, r3, r4)) :
    Calls Try.prog 37 #[.pointer (some ⟨g, 0, none⟩)] w fun e w' => e = .returned (.string r1) ∧ P.IsS65 w0 w' g r2 r3 r4 ∧ Below w0.heap.size w0 w' ∧ KeepBut w w' g none := by
  unfold policy_reader_word.f at h
  split at h
  · rename_i hs
    have hw := Option.some.inj h
    refine (word_walk g s0_0 s0_1 s0_2 hs w hI.1).mono ?_
    rintro e w' ⟨h1, h2, h3, h4⟩
    rw [hw] at h1 h2
    exact ⟨h1, ⟨h2, hI.2⟩, hB.trans (h4.mono hI.2), h3⟩
  · simp at h
end Go.Proofs.Ytekpbgmmogpbdaa.H
namespace Go.Proofs.Ytekpbgmmogpbdaa.P
open Go.RowKit Go.Proofs.Ytekpbgmmogpbdaa.H Go.Proofs.YtekpbgmmogpbdaaW.PrintWords Go.Proofs.YtekpbgmmogpbdaaW.PrintLast Go.Proofs.YtekpbgmmogpbdaaW.PrintMore
attribute [local go_sem] max2_int min2_int max_two min_two max_three min_three max_four min_four
set_option linter.unusedVariables false
set_option linter.unusedSimpArgs false
def policy_reader_condition.f (s0_0 : ByteArray) (s0_1 : Bool) (s0_2 : Bool) : Option (Int × Int × Int × Int × ByteArray × Bool × Bool) := (policy_reader_word.f s0_0 s0_1 s0_2).bind fun bt133 => (if bt133.1.size + 1 ≤ 9223372036854775807 then ((policy_reader_word.f bt133.2.1 bt133.2.2.1 bt133.2.2.2).bind fun bt137 => (if (bt133.1 ++ (⟨#[32]⟩ : ByteArray)).size + bt137.1.size ≤ 9223372036854775807 then (if ((bt133.1 ++ (⟨#[32]⟩ : ByteArray)) ++ bt137.1).size + 1 ≤ 9223372036854775807 then ((policy_reader_word.f bt137.2.1 bt137.2.2.1 bt137.2.2.2).bind fun bt141 => (if (((bt133.1 ++ (⟨#[32]⟩ : ByteArray)) ++ bt137.1) ++ (⟨#[32]⟩ : ByteArray)).size + bt141.1.size ≤ 9223372036854775807 then (if ((((bt133.1 ++ (⟨#[32]⟩ : ByteArray)) ++ bt137.1) ++ (⟨#[32]⟩ : ByteArray)) ++ bt141.1).size + 1 ≤ 9223372036854775807 then ((policy_reader_word.f bt141.2.1 bt141.2.2.1 bt141.2.2.2).bind fun bt145 => (if (((((bt133.1 ++ (⟨#[32]⟩ : ByteArray)) ++ bt137.1) ++ (⟨#[32]⟩ : ByteArray)) ++ bt141.1) ++ (⟨#[32]⟩ : ByteArray)).size + bt145.1.size ≤ 9223372036854775807 then ((cond_Parse.f ((((((bt133.1 ++ (⟨#[32]⟩ : ByteArray)) ++ bt137.1) ++ (⟨#[32]⟩ : ByteArray)) ++ bt141.1) ++ (⟨#[32]⟩ : ByteArray)) ++ bt145.1)).bind fun bt149 => ((policy_reader_must.f bt145.2.1 bt145.2.2.1 bt145.2.2.2 bt149.2.2.2.2).bind fun bt155 => (some (bt149.1, bt149.2.1, bt149.2.2.1, bt149.2.2.2.1, bt155.1, bt155.2.1, bt155.2.2)))) else (none))) else (none)) else (none))) else (none)) else (none))) else (none))
set_option maxHeartbeats 8000000 in
set_option maxRecDepth 100000 in
theorem policy_reader_condition.calls (g : Nat) (s0_0 : ByteArray) (s0_1 : Bool) (s0_2 : Bool) (r1 : Int) (r2 : Int) (r3 : Int) (r4 : Int) (r5 : ByteArray) (r6 : Bool) (r7 : Bool) (w0 w : World) (hI : IsS65 w0 w g s0_0 s0_1 s0_2) (hB : Below w0.heap.size w0 w) (h : policy_reader_condition.f s0_0 s0_1 s0_2 = some (r1, r2, r3, r4, r5, r6, r7)) :
    Calls Try.prog 61 #[.pointer (some ⟨g, 0, none⟩)] w fun e w' => e = .returned (.agg #[.int .i64 r1, .int .i64 r2, .int .u64 r3, .int .u64 r4]) ∧ IsS65 w0 w' g r5 r6 r7 ∧ Below w0.heap.size w0 w' ∧ KeepBut w w' g none := by
  have hu61 := Try.underlying61
  have HI0 := Aside0.mk hI
  have HK := Aside0.mk (KeepBut.refl w g none)
  have HL := Aside0.mk hB.size
  clear hI
  have HW0 := Aside0.mk hB.size
  have HB := Aside0.mk hB
  clear hB
  have H : ((policy_reader_word.f s0_0 s0_1 s0_2).bind fun bt133 => (if bt133.1.size + 1 ≤ 9223372036854775807 then ((policy_reader_word.f bt133.2.1 bt133.2.2.1 bt133.2.2.2).bind fun bt137 => (if (bt133.1 ++ (⟨#[32]⟩ : ByteArray)).size + bt137.1.size ≤ 9223372036854775807 then (if ((bt133.1 ++ (⟨#[32]⟩ : ByteArray)) ++ bt137.1).size + 1 ≤ 9223372036854775807 then ((policy_reader_word.f bt137.2.1 bt137.2.2.1 bt137.2.2.2).bind fun bt141 => (if (((bt133.1 ++ (⟨#[32]⟩ : ByteArray)) ++ bt137.1) ++ (⟨#[32]⟩ : ByteArray)).size + bt141.1.size ≤ 9223372036854775807 then (if ((((bt133.1 ++ (⟨#[32]⟩ : ByteArray)) ++ bt137.1) ++ (⟨#[32]⟩ : ByteArray)) ++ bt141.1).size + 1 ≤ 9223372036854775807 then ((policy_reader_word.f bt141.2.1 bt141.2.2.1 bt141.2.2.2).bind fun bt145 => (if (((((bt133.1 ++ (⟨#[32]⟩ : ByteArray)) ++ bt137.1) ++ (⟨#[32]⟩ : ByteArray)) ++ bt141.1) ++ (⟨#[32]⟩ : ByteArray)).size + bt145.1.size ≤ 9223372036854775807 then ((cond_Parse.f ((((((bt133.1 ++ (⟨#[32]⟩ : ByteArray)) ++ bt137.1) ++ (⟨#[32]⟩ : ByteArray)) ++ bt141.1) ++ (⟨#[32]⟩ : ByteArray)) ++ bt145.1)).bind fun bt149 => ((policy_reader_must.f bt145.2.1 bt145.2.2.1 bt145.2.2.2 bt149.2.2.2.2).bind fun bt155 => (some (bt149.1, bt149.2.1, bt149.2.2.1, bt149.2.2.2.1, bt155.1, bt155.2.1, bt155.2.2)))) else (none))) else (none)) else (none))) else (none)) else (none))) else (none))) = some (r1, r2, r3, r4, r5, r6, r7) := h
  clear h
  replace H := Option.bind_eq_some_iff.mp H
  obtain ⟨⟨t133, t134, t135, t136⟩, A20, H⟩ := H
  replace H : (if t133.size + 1 ≤ 9223372036854775807 then ((policy_reader_word.f t134 t135 t136).bind fun bt137 => (if (t133 ++ (⟨#[32]⟩ : ByteArray)).size + bt137.1.size ≤ 9223372036854775807 then (if ((t133 ++ (⟨#[32]⟩ : ByteArray)) ++ bt137.1).size + 1 ≤ 9223372036854775807 then ((policy_reader_word.f bt137.2.1 bt137.2.2.1 bt137.2.2.2).bind fun bt141 => (if (((t133 ++ (⟨#[32]⟩ : ByteArray)) ++ bt137.1) ++ (⟨#[32]⟩ : ByteArray)).size + bt141.1.size ≤ 9223372036854775807 then (if ((((t133 ++ (⟨#[32]⟩ : ByteArray)) ++ bt137.1) ++ (⟨#[32]⟩ : ByteArray)) ++ bt141.1).size + 1 ≤ 9223372036854775807 then ((policy_reader_word.f bt141.2.1 bt141.2.2.1 bt141.2.2.2).bind fun bt145 => (if (((((t133 ++ (⟨#[32]⟩ : ByteArray)) ++ bt137.1) ++ (⟨#[32]⟩ : ByteArray)) ++ bt141.1) ++ (⟨#[32]⟩ : ByteArray)).size + bt145.1.size ≤ 9223372036854775807 then ((cond_Parse.f ((((((t133 ++ (⟨#[32]⟩ : ByteArray)) ++ bt137.1) ++ (⟨#[32]⟩ : ByteArray)) ++ bt141.1) ++ (⟨#[32]⟩ : ByteArray)) ++ bt145.1)).bind fun bt149 => ((policy_reader_must.f bt145.2.1 bt145.2.2.1 bt145.2.2.2 bt149.2.2.2.2).bind fun bt155 => (some (bt149.1, bt149.2.1, bt149.2.2.1, bt149.2.2.2.1, bt155.1, bt155.2.1, bt155.2.2)))) else (none))) else (none)) else (none))) else (none)) else (none))) else (none)) = some (r1, r2, r3, r4, r5, r6, r7) := H
  have A2 := Aside0.mk A20
  clear A20
  by_cases c3 : t133.size + 1 ≤ 9223372036854775807
  · rw [if_pos c3] at H
    have c3b0 := eq_true c3
    have c3b1 : decide (t133.size + 1 ≤ 9223372036854775807) = true := decide_eq_true c3
    try have c3b2 : (9223372036854775807 < t133.size + 1) = False := eq_false (Nat.not_lt.2 c3)
    replace H := Option.bind_eq_some_iff.mp H
    obtain ⟨⟨t137, t138, t139, t140⟩, A40, H⟩ := H
    replace H : (if (t133 ++ (⟨#[32]⟩ : ByteArray)).size + t137.size ≤ 9223372036854775807 then (if ((t133 ++ (⟨#[32]⟩ : ByteArray)) ++ t137).size + 1 ≤ 9223372036854775807 then ((policy_reader_word.f t138 t139 t140).bind fun bt141 => (if (((t133 ++ (⟨#[32]⟩ : ByteArray)) ++ t137) ++ (⟨#[32]⟩ : ByteArray)).size + bt141.1.size ≤ 9223372036854775807 then (if ((((t133 ++ (⟨#[32]⟩ : ByteArray)) ++ t137) ++ (⟨#[32]⟩ : ByteArray)) ++ bt141.1).size + 1 ≤ 9223372036854775807 then ((policy_reader_word.f bt141.2.1 bt141.2.2.1 bt141.2.2.2).bind fun bt145 => (if (((((t133 ++ (⟨#[32]⟩ : ByteArray)) ++ t137) ++ (⟨#[32]⟩ : ByteArray)) ++ bt141.1) ++ (⟨#[32]⟩ : ByteArray)).size + bt145.1.size ≤ 9223372036854775807 then ((cond_Parse.f ((((((t133 ++ (⟨#[32]⟩ : ByteArray)) ++ t137) ++ (⟨#[32]⟩ : ByteArray)) ++ bt141.1) ++ (⟨#[32]⟩ : ByteArray)) ++ bt145.1)).bind fun bt149 => ((policy_reader_must.f bt145.2.1 bt145.2.2.1 bt145.2.2.2 bt149.2.2.2.2).bind fun bt155 => (some (bt149.1, bt149.2.1, bt149.2.2.1, bt149.2.2.2.1, bt155.1, bt155.2.1, bt155.2.2)))) else (none))) else (none)) else (none))) else (none)) else (none)) = some (r1, r2, r3, r4, r5, r6, r7) := H
    have A4 := Aside0.mk A40
    clear A40
    by_cases c5 : (t133 ++ (⟨#[32]⟩ : ByteArray)).size + t137.size ≤ 9223372036854775807
    · rw [if_pos c5] at H
      have c5b0 := eq_true c5
      have c5b1 : decide ((t133 ++ (⟨#[32]⟩ : ByteArray)).size + t137.size ≤ 9223372036854775807) = true := decide_eq_true c5
      try have c5b2 : (9223372036854775807 < (t133 ++ (⟨#[32]⟩ : ByteArray)).size + t137.size) = False := eq_false (Nat.not_lt.2 c5)
      try have c5b3 : (9223372036854775807 < t133.size + 1 + t137.size) = False := by have h := c5b2; simp only [ByteArray.size_append] at h; exact h
      by_cases c6 : ((t133 ++ (⟨#[32]⟩ : ByteArray)) ++ t137).size + 1 ≤ 9223372036854775807
      · rw [if_pos c6] at H
        have c6b0 := eq_true c6
        have c6b1 : decide (((t133 ++ (⟨#[32]⟩ : ByteArray)) ++ t137).size + 1 ≤ 9223372036854775807) = true := decide_eq_true c6
        try have c6b2 : (9223372036854775807 < ((t133 ++ (⟨#[32]⟩ : ByteArray)) ++ t137).size + 1) = False := eq_false (Nat.not_lt.2 c6)
        try have c6b3 : (9223372036854775807 < t133.size + 1 + t137.size + 1) = False := by have h := c6b2; simp only [ByteArray.size_append] at h; exact h
        replace H := Option.bind_eq_some_iff.mp H
        obtain ⟨⟨t141, t142, t143, t144⟩, A70, H⟩ := H
        replace H : (if (((t133 ++ (⟨#[32]⟩ : ByteArray)) ++ t137) ++ (⟨#[32]⟩ : ByteArray)).size + t141.size ≤ 9223372036854775807 then (if ((((t133 ++ (⟨#[32]⟩ : ByteArray)) ++ t137) ++ (⟨#[32]⟩ : ByteArray)) ++ t141).size + 1 ≤ 9223372036854775807 then ((policy_reader_word.f t142 t143 t144).bind fun bt145 => (if (((((t133 ++ (⟨#[32]⟩ : ByteArray)) ++ t137) ++ (⟨#[32]⟩ : ByteArray)) ++ t141) ++ (⟨#[32]⟩ : ByteArray)).size + bt145.1.size ≤ 9223372036854775807 then ((cond_Parse.f ((((((t133 ++ (⟨#[32]⟩ : ByteArray)) ++ t137) ++ (⟨#[32]⟩ : ByteArray)) ++ t141) ++ (⟨#[32]⟩ : ByteArray)) ++ bt145.1)).bind fun bt149 => ((policy_reader_must.f bt145.2.1 bt145.2.2.1 bt145.2.2.2 bt149.2.2.2.2).bind fun bt155 => (some (bt149.1, bt149.2.1, bt149.2.2.1, bt149.2.2.2.1, bt155.1, bt155.2.1, bt155.2.2)))) else (none))) else (none)) else (none)) = some (r1, r2, r3, r4, r5, r6, r7) := H
        have A7 := Aside0.mk A70
        clear A70
        by_cases c8 : (((t133 ++ (⟨#[32]⟩ : ByteArray)) ++ t137) ++ (⟨#[32]⟩ : ByteArray)).size + t141.size ≤ 9223372036854775807
        · rw [if_pos c8] at H
          have c8b0 := eq_true c8
          have c8b1 : decide ((((t133 ++ (⟨#[32]⟩ : ByteArray)) ++ t137) ++ (⟨#[32]⟩ : ByteArray)).size + t141.size ≤ 9223372036854775807) = true := decide_eq_true c8
          try have c8b2 : (9223372036854775807 < (((t133 ++ (⟨#[32]⟩ : ByteArray)) ++ t137) ++ (⟨#[32]⟩ : ByteArray)).size + t141.size) = False := eq_false (Nat.not_lt.2 c8)
          try have c8b3 : (9223372036854775807 < t133.size + 1 + t137.size + 1 + t141.size) = False := by have h := c8b2; simp only [ByteArray.size_append] at h; exact h
          by_cases c9 : ((((t133 ++ (⟨#[32]⟩ : ByteArray)) ++ t137) ++ (⟨#[32]⟩ : ByteArray)) ++ t141).size + 1 ≤ 9223372036854775807
          · rw [if_pos c9] at H
            have c9b0 := eq_true c9
            have c9b1 : decide (((((t133 ++ (⟨#[32]⟩ : ByteArray)) ++ t137) ++ (⟨#[32]⟩ : ByteArray)) ++ t141).size + 1 ≤ 9223372036854775807) = true := decide_eq_true c9
            try have c9b2 : (9223372036854775807 < ((((t133 ++ (⟨#[32]⟩ : ByteArray)) ++ t137) ++ (⟨#[32]⟩ : ByteArray)) ++ t141).size + 1) = False := eq_false (Nat.not_lt.2 c9)
            try have c9b3 : (9223372036854775807 < t133.size + 1 + t137.size + 1 + t141.size + 1) = False := by have h := c9b2; simp only [ByteArray.size_append] at h; exact h
            replace H := Option.bind_eq_some_iff.mp H
            obtain ⟨⟨t145, t146, t147, t148⟩, A100, H⟩ := H
            replace H : (if (((((t133 ++ (⟨#[32]⟩ : ByteArray)) ++ t137) ++ (⟨#[32]⟩ : ByteArray)) ++ t141) ++ (⟨#[32]⟩ : ByteArray)).size + t145.size ≤ 9223372036854775807 then ((cond_Parse.f ((((((t133 ++ (⟨#[32]⟩ : ByteArray)) ++ t137) ++ (⟨#[32]⟩ : ByteArray)) ++ t141) ++ (⟨#[32]⟩ : ByteArray)) ++ t145)).bind fun bt149 => ((policy_reader_must.f t146 t147 t148 bt149.2.2.2.2).bind fun bt155 => (some (bt149.1, bt149.2.1, bt149.2.2.1, bt149.2.2.2.1, bt155.1, bt155.2.1, bt155.2.2)))) else (none)) = some (r1, r2, r3, r4, r5, r6, r7) := H
            have A10 := Aside0.mk A100
            clear A100
            by_cases c11 : (((((t133 ++ (⟨#[32]⟩ : ByteArray)) ++ t137) ++ (⟨#[32]⟩ : ByteArray)) ++ t141) ++ (⟨#[32]⟩ : ByteArray)).size + t145.size ≤ 9223372036854775807
            · rw [if_pos c11] at H
              have c11b0 := eq_true c11
              have c11b1 : decide ((((((t133 ++ (⟨#[32]⟩ : ByteArray)) ++ t137) ++ (⟨#[32]⟩ : ByteArray)) ++ t141) ++ (⟨#[32]⟩ : ByteArray)).size + t145.size ≤ 9223372036854775807) = true := decide_eq_true c11
              try have c11b2 : (9223372036854775807 < (((((t133 ++ (⟨#[32]⟩ : ByteArray)) ++ t137) ++ (⟨#[32]⟩ : ByteArray)) ++ t141) ++ (⟨#[32]⟩ : ByteArray)).size + t145.size) = False := eq_false (Nat.not_lt.2 c11)
              try have c11b3 : (9223372036854775807 < t133.size + 1 + t137.size + 1 + t141.size + 1 + t145.size) = False := by have h := c11b2; simp only [ByteArray.size_append] at h; exact h
              replace H := Option.bind_eq_some_iff.mp H
              obtain ⟨⟨t149, t150, t151, t152, t153⟩, A120, H⟩ := H
              replace H : ((policy_reader_must.f t146 t147 t148 t153).bind fun bt155 => (some (t149, t150, t151, t152, bt155.1, bt155.2.1, bt155.2.2))) = some (r1, r2, r3, r4, r5, r6, r7) := H
              have A12 := Aside0.mk A120
              clear A120
              replace H := Option.bind_eq_some_iff.mp H
              obtain ⟨⟨t155, t156, t157⟩, A130, H⟩ := H
              replace H : (some (t149, t150, t151, t152, t155, t156, t157)) = some (r1, r2, r3, r4, r5, r6, r7) := H
              have A13 := Aside0.mk A130
              clear A130
              simp only [Option.some.injEq, Prod.mk.injEq] at H
              obtain ⟨rfl, rfl, rfl, rfl, rfl, rfl, rfl⟩ := H
              go_enter Try.func61, Try.ntmps61
              go_wp2_with (first | ((with_reducible refine gate_dst (N := 2) rfl ?_); refine box_event ?hg (N := 2) ?hd (cs := #[.int .i64 0, .int .i64 0, .int .u64 0, .int .u64 0]) (t := 61) ?hr ?_; (case hd => rfl); (case hg => rfl); (case hr => first | (go_simp; done) | (go_simp; rfl)); intro gb132 hg w14 hbox hb; have n0_ := Aside0.mk (IsS65.below (by repeat (first | (with_reducible first | exact HI0.out | apply IsS65.alloc | apply IsS65.drewN | apply IsS65.drew | apply IsS65.set_0 | apply IsS65.set_1 | apply IsS65.set_2) | exact HI0.out)) hb); have n1_ := Aside0.mk (KeepBut.trans (by repeat (first | (with_reducible first | exact HK.out | apply KeepBut.set_ | apply keep_drewN | apply keep_drew | apply keep_alloc) | exact HK.out)) (KeepBut.of_below hb g none) (.inl rfl)); have n2_ := Aside0.mk (below_step (by repeat (first | (with_reducible first | exact HB.out | apply below_alloc | apply pw_below_drewN | apply below_drew1 | refine below_set ?_ (IsS65.ge HI0.out)) | exact HB.out)) hb); have n3_ := Aside0.mk (hbox); have n4_ := Aside0.mk ((by rw [hg]; exact (keep_size (w := w) (g := g) (row := none) (by repeat (first | (with_reducible first | exact HK.out | apply KeepBut.set_ | apply keep_drewN | apply keep_drew | apply keep_alloc) | exact HK.out))) : w.heap.size ≤ gb132)); have n5_ := Aside0.mk ((Nat.le_trans HW0.out (by rw [hg]; exact (keep_size (w := w) (g := g) (row := none) (by repeat (first | (with_reducible first | exact HK.out | apply KeepBut.set_ | apply keep_drewN | apply keep_drew | apply keep_alloc) | exact HK.out))) : w.heap.size ≤ gb132) : w0.heap.size ≤ gb132)); have n6_ := Aside0.mk ((by rw [hg]; exact Nat.ne_of_lt (IsS65.lt (show IsS65 w0 _ g s0_0 s0_1 s0_2 from by repeat (first | (with_reducible first | exact HI0.out | apply IsS65.alloc | apply IsS65.drewN | apply IsS65.drew | apply IsS65.set_0 | apply IsS65.set_1 | apply IsS65.set_2) | exact HI0.out))) : g ≠ gb132)); have n7_ := Aside0.mk ((by rw [hg]; exact Nat.ne_of_gt (IsS65.lt (show IsS65 w0 _ g s0_0 s0_1 s0_2 from by repeat (first | (with_reducible first | exact HI0.out | apply IsS65.alloc | apply IsS65.drewN | apply IsS65.drew | apply IsS65.set_0 | apply IsS65.set_1 | apply IsS65.set_2) | exact HI0.out))) : gb132 ≠ g)); clear HI0; clear HK; clear HB; have HI0 := n0_; have HK := n1_; have HB := n2_; have BK132 := n3_; have GW132 := n4_; have GE132 := n5_; have NB0_132 := n6_; have NB132_0 := n7_; clear n0_ n1_ n2_ n3_ n4_ n5_ n6_ n7_; clear hb hbox hg) | ((with_reducible refine gate_callee (f := 37) rfl ?_); refine goesL_ (some 7) rfl rfl Try.func37 (by kernel_rfl) rfl #[.pointer (some ⟨g, 0, none⟩)] rfl (by (try simp only [List.map_toArray, List.map_cons, List.map_nil]); first | done | rfl | (simp only [List.length_drop, List.length_take]; rfl)) ?_; (with_reducible refine (policy_reader_word.calls g s0_0 s0_1 s0_2 t133 t134 t135 t136 w0 _ ?side1 ?side2 A2.out).mono ?_); (case side1 => repeat (first | (with_reducible first | exact HI0.out | apply IsS65.alloc | apply IsS65.drewN | apply IsS65.drew | apply IsS65.set_0 | apply IsS65.set_1 | apply IsS65.set_2 | refine IsS65.far ?_ NB0_132.out _) | exact HI0.out)); (case side2 => repeat (first | (with_reducible first | exact HB.out | apply below_alloc | apply pw_below_drewN | apply below_drew1 | refine below_set ?_ (IsS65.ge HI0.out) | refine below_set ?_ GE132.out) | exact HB.out)); rintro e w15 ⟨rfl, hi, hb, hk⟩; refine ⟨_, rfl, ?_⟩; have n0_ := Aside0.mk (KeepBut.blk hk (g' := gb132) (o := .cells #[.int .i64 0, .int .i64 0, .int .u64 0, .int .u64 0] 61 (0, 0)) (by (with_reducible repeat (first | refine blk_drewN ?_ _ | refine blk_drew ?_ | refine blk_alloc ?_ _)); exact BK132.out) NB132_0.out (by simp)); have n1_ := Aside0.mk (KeepBut.trans (by repeat (first | (with_reducible first | exact HK.out | apply KeepBut.set_ | apply keep_drewN | apply keep_drew | apply keep_alloc | refine keep_far ?_ GW132.out _) | exact HK.out)) hk (.inl rfl)); have n2_ := Aside0.mk (hb); have n3_ := Aside0.mk (hi); clear BK132; clear HK; clear HB; clear HI0; have BK132 := n0_; have HK := n1_; have HB := n2_; have HI0 := n3_; clear n0_ n1_ n2_ n3_; (try clear hb); (try clear hb2); (try clear hk); (try clear hi)) | ((with_reducible refine gate_callee (f := 37) rfl ?_); refine goesL_ (some 10) rfl rfl Try.func37 (by kernel_rfl) rfl #[.pointer (some ⟨g, 0, none⟩)] rfl (by (try simp only [List.map_toArray, List.map_cons, List.map_nil]); first | done | rfl | (simp only [List.length_drop, List.length_take]; rfl)) ?_; (with_reducible refine (policy_reader_word.calls g t134 t135 t136 t137 t138 t139 t140 w0 _ ?side1 ?side2 A4.out).mono ?_); (case side1 => repeat (first | (with_reducible first | exact HI0.out | apply IsS65.alloc | apply IsS65.drewN | apply IsS65.drew | apply IsS65.set_0 | apply IsS65.set_1 | apply IsS65.set_2 | refine IsS65.far ?_ NB0_132.out _) | exact HI0.out)); (case side2 => repeat (first | (with_reducible first | exact HB.out | apply below_alloc | apply pw_below_drewN | apply below_drew1 | refine below_set ?_ (IsS65.ge HI0.out) | refine below_set ?_ GE132.out) | exact HB.out)); rintro e w16 ⟨rfl, hi, hb, hk⟩; refine ⟨_, rfl, ?_⟩; have n0_ := Aside0.mk (KeepBut.blk hk (g' := gb132) (o := .cells #[.int .i64 0, .int .i64 0, .int .u64 0, .int .u64 0] 61 (0, 0)) (by (with_reducible repeat (first | refine blk_drewN ?_ _ | refine blk_drew ?_ | refine blk_alloc ?_ _)); exact BK132.out) NB132_0.out (by simp)); have n1_ := Aside0.mk (KeepBut.trans (by repeat (first | (with_reducible first | exact HK.out | apply KeepBut.set_ | apply keep_drewN | apply keep_drew | apply keep_alloc | refine keep_far ?_ GW132.out _) | exact HK.out)) hk (.inl rfl)); have n2_ := Aside0.mk (hb); have n3_ := Aside0.mk (hi); clear BK132; clear HK; clear HB; clear HI0; have BK132 := n0_; have HK := n1_; have HB := n2_; have HI0 := n3_; clear n0_ n1_ n2_ n3_; (try clear hb); (try clear hb2); (try clear hk); (try clear hi)) | ((with_reducible refine gate_callee (f := 37) rfl ?_); refine goesL_ (some 14) rfl rfl Try.func37 (by kernel_rfl) rfl #[.pointer (some ⟨g, 0, none⟩)] rfl (by (try simp only [List.map_toArray, List.map_cons, List.map_nil]); first | done | rfl | (simp only [List.length_drop, List.length_take]; rfl)) ?_; (with_reducible refine (policy_reader_word.calls g t138 t139 t140 t141 t142 t143 t144 w0 _ ?side1 ?side2 A7.out).mono ?_); (case side1 => repeat (first | (with_reducible first | exact HI0.out | apply IsS65.alloc | apply IsS65.drewN | apply IsS65.drew | apply IsS65.set_0 | apply IsS65.set_1 | apply IsS65.set_2 | refine IsS65.far ?_ NB0_132.out _) | exact HI0.out)); (case side2 => repeat (first | (with_reducible first | exact HB.out | apply below_alloc | apply pw_below_drewN | apply below_drew1 | refine below_set ?_ (IsS65.ge HI0.out) | refine below_set ?_ GE132.out) | exact HB.out)); rintro e w17 ⟨rfl, hi, hb, hk⟩; refine ⟨_, rfl, ?_⟩; have n0_ := Aside0.mk (KeepBut.blk hk (g' := gb132) (o := .cells #[.int .i64 0, .int .i64 0, .int .u64 0, .int .u64 0] 61 (0, 0)) (by (with_reducible repeat (first | refine blk_drewN ?_ _ | refine blk_drew ?_ | refine blk_alloc ?_ _)); exact BK132.out) NB132_0.out (by simp)); have n1_ := Aside0.mk (KeepBut.trans (by repeat (first | (with_reducible first | exact HK.out | apply KeepBut.set_ | apply keep_drewN | apply keep_drew | apply keep_alloc | refine keep_far ?_ GW132.out _) | exact HK.out)) hk (.inl rfl)); have n2_ := Aside0.mk (hb); have n3_ := Aside0.mk (hi); clear BK132; clear HK; clear HB; clear HI0; have BK132 := n0_; have HK := n1_; have HB := n2_; have HI0 := n3_; clear n0_ n1_ n2_ n3_; (try clear hb); (try clear hb2); (try clear hk); (try clear hi)) | ((with_reducible refine gate_callee (f := 37) rfl ?_); refine goesL_ (some 18) rfl rfl Try.func37 (by kernel_rfl) rfl #[.pointer (some ⟨g, 0, none⟩)] rfl (by (try simp only [List.map_toArray, List.map_cons, List.map_nil]); first | done | rfl | (simp only [List.length_drop, List.length_take]; rfl)) ?_; (with_reducible refine (policy_reader_word.calls g t142 t143 t144 t145 t146 t147 t148 w0 _ ?side1 ?side2 A10.out).mono ?_); (case side1 => repeat (first | (with_reducible first | exact HI0.out | apply IsS65.alloc | apply IsS65.drewN | apply IsS65.drew | apply IsS65.set_0 | apply IsS65.set_1 | apply IsS65.set_2 | refine IsS65.far ?_ NB0_132.out _) | exact HI0.out)); (case side2 => repeat (first | (with_reducible first | exact HB.out | apply below_alloc | apply pw_below_drewN | apply below_drew1 | refine below_set ?_ (IsS65.ge HI0.out) | refine below_set ?_ GE132.out) | exact HB.out)); rintro e w18 ⟨rfl, hi, hb, hk⟩; refine ⟨_, rfl, ?_⟩; have n0_ := Aside0.mk (KeepBut.blk hk (g' := gb132) (o := .cells #[.int .i64 0, .int .i64 0, .int .u64 0, .int .u64 0] 61 (0, 0)) (by (with_reducible repeat (first | refine blk_drewN ?_ _ | refine blk_drew ?_ | refine blk_alloc ?_ _)); exact BK132.out) NB132_0.out (by simp)); have n1_ := Aside0.mk (KeepBut.trans (by repeat (first | (with_reducible first | exact HK.out | apply KeepBut.set_ | apply keep_drewN | apply keep_drew | apply keep_alloc | refine keep_far ?_ GW132.out _) | exact HK.out)) hk (.inl rfl)); have n2_ := Aside0.mk (hb); have n3_ := Aside0.mk (hi); clear BK132; clear HK; clear HB; clear HI0; have BK132 := n0_; have HK := n1_; have HB := n2_; have HI0 := n3_; clear n0_ n1_ n2_ n3_; (try clear hb); (try clear hb2); (try clear hk); (try clear hi)) | ((with_reducible refine gate_callee (f := 77) rfl ?_); refine goesL_ (some 22) rfl rfl Try.func77 (by kernel_rfl) rfl #[.string ((((((t133 ++ (⟨#[32]⟩ : ByteArray)) ++ t137) ++ (⟨#[32]⟩ : ByteArray)) ++ t141) ++ (⟨#[32]⟩ : ByteArray)) ++ t145)] rfl (by (try simp only [List.map_toArray, List.map_cons, List.map_nil]); first | done | rfl | (simp only [List.length_drop, List.length_take]; rfl)) ?_; (with_reducible refine (cond_Parse.calls ((((((t133 ++ (⟨#[32]⟩ : ByteArray)) ++ t137) ++ (⟨#[32]⟩ : ByteArray)) ++ t141) ++ (⟨#[32]⟩ : ByteArray)) ++ t145) t149 t150 t151 t152 t153 _ A12.out).mono ?_); rintro e w19 ⟨rfl, hb⟩; refine ⟨_, rfl, ?_⟩; have n0_ := Aside0.mk (IsS65.below (by repeat (first | (with_reducible first | exact HI0.out | apply IsS65.alloc | apply IsS65.drewN | apply IsS65.drew | apply IsS65.set_0 | apply IsS65.set_1 | apply IsS65.set_2 | refine IsS65.far ?_ NB0_132.out _) | exact HI0.out)) hb); have n1_ := Aside0.mk (blk_below (g := gb132) (o := .cells #[.int .i64 0, .int .i64 0, .int .u64 0, .int .u64 0] 61 (0, 0)) (by (with_reducible repeat (first | refine blk_drewN ?_ _ | refine blk_drew ?_ | refine blk_alloc ?_ _)); exact BK132.out) hb); have n2_ := Aside0.mk (KeepBut.trans (by repeat (first | (with_reducible first | exact HK.out | apply KeepBut.set_ | apply keep_drewN | apply keep_drew | apply keep_alloc | refine keep_far ?_ GW132.out _) | exact HK.out)) (KeepBut.of_below hb g none) (.inl rfl)); have n3_ := Aside0.mk (below_step (by repeat (first | (with_reducible first | exact HB.out | apply below_alloc | apply pw_below_drewN | apply below_drew1 | refine below_set ?_ (IsS65.ge HI0.out) | refine below_set ?_ GE132.out) | exact HB.out)) hb); clear HI0; clear BK132; clear HK; clear HB; have HI0 := n0_; have BK132 := n1_; have HK := n2_; have HB := n3_; clear n0_ n1_ n2_ n3_; (try clear hb); (try clear hb2); (try clear hk); (try clear hi)) | ((with_reducible refine gate_dst (N := 4) rfl ?_); refine box_event ?hg (N := 4) ?hd (cs := #[.int .i64 0, .int .i64 0, .int .u64 0, .int .u64 0]) (t := 61) ?hr ?_; (case hd => rfl); (case hg => rfl); (case hr => first | (go_simp; done) | (go_simp; rfl)); intro gb154 hg w20 hbox hb; have n0_ := Aside0.mk (IsS65.below (by repeat (first | (with_reducible first | exact HI0.out | apply IsS65.alloc | apply IsS65.drewN | apply IsS65.drew | apply IsS65.set_0 | apply IsS65.set_1 | apply IsS65.set_2 | refine IsS65.far ?_ NB0_132.out _) | exact HI0.out)) hb); have n1_ := Aside0.mk (blk_below (g := gb132) (o := .cells #[.int .i64 0, .int .i64 0, .int .u64 0, .int .u64 0] 61 (0, 0)) (by (with_reducible repeat (first | refine blk_drewN ?_ _ | refine blk_drew ?_ | refine blk_alloc ?_ _)); exact BK132.out) hb); have n2_ := Aside0.mk (KeepBut.trans (by repeat (first | (with_reducible first | exact HK.out | apply KeepBut.set_ | apply keep_drewN | apply keep_drew | apply keep_alloc | refine keep_far ?_ GW132.out _) | exact HK.out)) (KeepBut.of_below hb g none) (.inl rfl)); have n3_ := Aside0.mk (below_step (by repeat (first | (with_reducible first | exact HB.out | apply below_alloc | apply pw_below_drewN | apply below_drew1 | refine below_set ?_ (IsS65.ge HI0.out) | refine below_set ?_ GE132.out) | exact HB.out)) hb); have n4_ := Aside0.mk (hbox); have n5_ := Aside0.mk ((by rw [hg]; exact (keep_size (w := w) (g := g) (row := none) (by repeat (first | (with_reducible first | exact HK.out | apply KeepBut.set_ | apply keep_drewN | apply keep_drew | apply keep_alloc | refine keep_far ?_ GW132.out _) | exact HK.out))) : w.heap.size ≤ gb154)); have n6_ := Aside0.mk ((Nat.le_trans HW0.out (by rw [hg]; exact (keep_size (w := w) (g := g) (row := none) (by repeat (first | (with_reducible first | exact HK.out | apply KeepBut.set_ | apply keep_drewN | apply keep_drew | apply keep_alloc | refine keep_far ?_ GW132.out _) | exact HK.out))) : w.heap.size ≤ gb154) : w0.heap.size ≤ gb154)); have n7_ := Aside0.mk ((by rw [hg]; exact Nat.ne_of_lt (blk_lt (g := gb132) (o := .cells #[.int .i64 0, .int .i64 0, .int .u64 0, .int .u64 0] 61 (0, 0)) (by (with_reducible repeat (first | refine blk_drewN ?_ _ | refine blk_drew ?_ | refine blk_alloc ?_ _)); exact BK132.out)) : gb132 ≠ gb154)); have n8_ := Aside0.mk ((by rw [hg]; exact Nat.ne_of_gt (blk_lt (g := gb132) (o := .cells #[.int .i64 0, .int .i64 0, .int .u64 0, .int .u64 0] 61 (0, 0)) (by (with_reducible repeat (first | refine blk_drewN ?_ _ | refine blk_drew ?_ | refine blk_alloc ?_ _)); exact BK132.out)) : gb154 ≠ gb132)); have n9_ := Aside0.mk ((by rw [hg]; exact Nat.ne_of_lt (IsS65.lt (show IsS65 w0 _ g t146 t147 t148 from by repeat (first | (with_reducible first | exact HI0.out | apply IsS65.alloc | apply IsS65.drewN | apply IsS65.drew | apply IsS65.set_0 | apply IsS65.set_1 | apply IsS65.set_2 | refine IsS65.far ?_ NB0_132.out _) | exact HI0.out))) : g ≠ gb154)); have n10_ := Aside0.mk ((by rw [hg]; exact Nat.ne_of_gt (IsS65.lt (show IsS65 w0 _ g t146 t147 t148 from by repeat (first | (with_reducible first | exact HI0.out | apply IsS65.alloc | apply IsS65.drewN | apply IsS65.drew | apply IsS65.set_0 | apply IsS65.set_1 | apply IsS65.set_2 | refine IsS65.far ?_ NB0_132.out _) | exact HI0.out))) : gb154 ≠ g)); clear HI0; clear BK132; clear HK; clear HB; have HI0 := n0_; have BK132 := n1_; have HK := n2_; have HB := n3_; have BK154 := n4_; have GW154 := n5_; have GE154 := n6_; have NB132_154 := n7_; have NB154_132 := n8_; have NB0_154 := n9_; have NB154_0 := n10_; clear n0_ n1_ n2_ n3_ n4_ n5_ n6_ n7_ n8_ n9_ n10_; clear hb hbox hg; have hnb21 := NB154_132.out; have hnc21 := NB132_154.out; have hnb22 := NB154_0.out; have hnc22 := NB0_154.out; have hcz23_0 : w20.cell? ⟨gb154, 0, none⟩ = some (.int .i64 0) := (blk_cell BK154.out 0).trans rfl; have hcz23_1 : w20.cell? ⟨gb154, 1, none⟩ = some (.int .i64 0) := (blk_cell BK154.out 1).trans rfl; have hcz23_2 : w20.cell? ⟨gb154, 2, none⟩ = some (.int .u64 0) := (blk_cell BK154.out 2).trans rfl; have hcz23_3 : w20.cell? ⟨gb154, 3, none⟩ = some (.int .u64 0) := (blk_cell BK154.out 3).trans rfl; have hfz23_0 := blk_frozen BK154.out 0; have hfz23_1 := blk_frozen BK154.out 1; have hfz23_2 := blk_frozen BK154.out 2; have hfz23_3 := blk_frozen BK154.out 3) | ((with_reducible refine gate_callee (f := 40) rfl ?_); refine goesL_ (some 27) rfl rfl Try.func40 (by kernel_rfl) rfl #[.pointer (some ⟨g, 0, none⟩), .int .i64 t153] rfl (by (try simp only [List.map_toArray, List.map_cons, List.map_nil]); first | done | rfl | (simp only [List.length_drop, List.length_take]; rfl)) ?_; (with_reducible refine (policy_reader_must.calls g t146 t147 t148 t153 t155 t156 t157 w0 _ ?side1 ?side2 A13.out).mono ?_); (case side1 => repeat (first | (with_reducible first | exact HI0.out | apply IsS65.alloc | apply IsS65.drewN | apply IsS65.drew | apply IsS65.set_0 | apply IsS65.set_1 | apply IsS65.set_2 | refine IsS65.far ?_ NB0_132.out _ | refine IsS65.far ?_ NB0_154.out _) | exact HI0.out)); (case side2 => repeat (first | (with_reducible first | exact HB.out | apply below_alloc | apply pw_below_drewN | apply below_drew1 | refine below_set ?_ (IsS65.ge HI0.out) | refine below_set ?_ GE132.out | refine below_set ?_ GE154.out) | exact HB.out)); rintro e w24 ⟨rfl, hi, hb, hk⟩; refine ⟨_, rfl, ?_⟩; have n0_ := Aside0.mk (KeepBut.blk hk (g' := gb132) (o := .cells #[.int .i64 0, .int .i64 0, .int .u64 0, .int .u64 0] 61 (0, 0)) (by (with_reducible repeat (first | refine blk_drewN ?_ _ | refine blk_drew ?_ | refine blk_alloc ?_ _)); refine blk_far ?_ NB132_154.out _; (with_reducible repeat (first | refine blk_drewN ?_ _ | refine blk_drew ?_ | refine blk_alloc ?_ _)); refine blk_far ?_ NB132_154.out _; (with_reducible repeat (first | refine blk_drewN ?_ _ | refine blk_drew ?_ | refine blk_alloc ?_ _)); refine blk_far ?_ NB132_154.out _; (with_reducible repeat (first | refine blk_drewN ?_ _ | refine blk_drew ?_ | refine blk_alloc ?_ _)); refine blk_far ?_ NB132_154.out _; (with_reducible repeat (first | refine blk_drewN ?_ _ | refine blk_drew ?_ | refine blk_alloc ?_ _)); exact BK132.out) NB132_0.out (by simp)); have n1_ := Aside0.mk (KeepBut.blk hk (g' := gb154) (o := .cells #[.int .i64 t149, .int .i64 t150, .int .u64 t151, .int .u64 t152] 61 (0, 0)) (by (with_reducible repeat (first | refine blk_drewN ?_ _ | refine blk_drew ?_ | refine blk_alloc ?_ _)); refine blk_put (cs := #[.int .i64 t149, .int .i64 t150, .int .u64 t151, .int .u64 0]) ?_ 3 _ rfl; (with_reducible repeat (first | refine blk_drewN ?_ _ | refine blk_drew ?_ | refine blk_alloc ?_ _)); refine blk_put (cs := #[.int .i64 t149, .int .i64 t150, .int .u64 0, .int .u64 0]) ?_ 2 _ rfl; (with_reducible repeat (first | refine blk_drewN ?_ _ | refine blk_drew ?_ | refine blk_alloc ?_ _)); refine blk_put (cs := #[.int .i64 t149, .int .i64 0, .int .u64 0, .int .u64 0]) ?_ 1 _ rfl; (with_reducible repeat (first | refine blk_drewN ?_ _ | refine blk_drew ?_ | refine blk_alloc ?_ _)); refine blk_put (cs := #[.int .i64 0, .int .i64 0, .int .u64 0, .int .u64 0]) ?_ 0 _ rfl; (with_reducible repeat (first | refine blk_drewN ?_ _ | refine blk_drew ?_ | refine blk_alloc ?_ _)); exact BK154.out) NB154_0.out (by simp)); have n2_ := Aside0.mk (KeepBut.trans (by repeat (first | (with_reducible first | exact HK.out | apply KeepBut.set_ | apply keep_drewN | apply keep_drew | apply keep_alloc | refine keep_far ?_ GW132.out _ | refine keep_far ?_ GW154.out _) | exact HK.out)) hk (.inl rfl)); have n3_ := Aside0.mk (hb); have n4_ := Aside0.mk (hi); clear BK132; clear BK154; clear HK; clear HB; clear HI0; have BK132 := n0_; have BK154 := n1_; have HK := n2_; have HB := n3_; have HI0 := n4_; clear n0_ n1_ n2_ n3_ n4_; (try clear hb); (try clear hb2); (try clear hk); (try clear hi); have hcz25_0 : w24.cell? ⟨gb154, 0, none⟩ = some (.int .i64 t149) := (blk_cell BK154.out 0).trans rfl; have hcz25_1 : w24.cell? ⟨gb154, 1, none⟩ = some (.int .i64 t150) := (blk_cell BK154.out 1).trans rfl; have hcz25_2 : w24.cell? ⟨gb154, 2, none⟩ = some (.int .u64 t151) := (blk_cell BK154.out 2).trans rfl; have hcz25_3 : w24.cell? ⟨gb154, 3, none⟩ = some (.int .u64 t152) := (blk_cell BK154.out 3).trans rfl; have hfz25_0 := blk_frozen BK154.out 0; have hfz25_1 := blk_frozen BK154.out 1; have hfz25_2 := blk_frozen BK154.out 2; have hfz25_3 := blk_frozen BK154.out 3; have hnb26 := NB132_0.out; have hnc26 := NB0_132.out; have hcz27_0 : w24.cell? ⟨gb132, 0, none⟩ = some (.int .i64 0) := (blk_cell BK132.out 0).trans rfl; have hcz27_1 : w24.cell? ⟨gb132, 1, none⟩ = some (.int .i64 0) := (blk_cell BK132.out 1).trans rfl; have hcz27_2 : w24.cell? ⟨gb132, 2, none⟩ = some (.int .u64 0) := (blk_cell BK132.out 2).trans rfl; have hcz27_3 : w24.cell? ⟨gb132, 3, none⟩ = some (.int .u64 0) := (blk_cell BK132.out 3).trans rfl; have hfz27_0 := blk_frozen BK132.out 0; have hfz27_1 := blk_frozen BK132.out 1; have hfz27_2 := blk_frozen BK132.out 2; have hfz27_3 := blk_frozen BK132.out 3))
              refine bodyPost_ret (results_cell_row rfl _ _ gb132 61 #[.int .i64 t149, .int .i64 t150, .int .u64 t151, .int .u64 t152] (0, 0) _ rfl (by (with_reducible repeat (first | refine blk_drewN ?_ _ | refine blk_drew ?_ | refine blk_alloc ?_ _)); refine blk_put (cs := #[.int .i64 t149, .int .i64 t150, .int .u64 t151, .int .u64 0]) ?_ 3 _ rfl; (with_reducible repeat (first | refine blk_drewN ?_ _ | refine blk_drew ?_ | refine blk_alloc ?_ _)); refine blk_put (cs := #[.int .i64 t149, .int .i64 t150, .int .u64 0, .int .u64 0]) ?_ 2 _ rfl; (with_reducible repeat (first | refine blk_drewN ?_ _ | refine blk_drew ?_ | refine blk_alloc ?_ _)); refine blk_put (cs := #[.int .i64 t149, .int .i64 0, .int .u64 0, .int .u64 0]) ?_ 1 _ rfl; (with_reducible repeat (first | refine blk_drewN ?_ _ | refine blk_drew ?_ | refine blk_alloc ?_ _)); refine blk_put (cs := #[.int .i64 0, .int .i64 0, .int .u64 0, .int .u64 0]) ?_ 0 _ rfl; (with_reducible repeat (first | refine blk_drewN ?_ _ | refine blk_drew ?_ | refine blk_alloc ?_ _)); exact BK132.out) Try.underlying61 rfl (by kernel_rfl)) rfl ?_
              exact ⟨by first | rfl | (simp [errW_none, errW_some] <;> rfl) | (simp [*, errW_none, errW_some] <;> rfl), by repeat (first | (with_reducible first | exact HI0.out | apply IsS65.alloc | apply IsS65.drewN | apply IsS65.drew | apply IsS65.set_0 | apply IsS65.set_1 | apply IsS65.set_2 | refine IsS65.far ?_ NB0_132.out _ | refine IsS65.far ?_ NB0_154.out _) | exact HI0.out), by repeat (first | (with_reducible first | exact HB.out | apply below_alloc | apply pw_below_drewN | apply below_drew1 | refine below_set ?_ (IsS65.ge HI0.out) | refine below_set ?_ GE132.out | refine below_set ?_ GE154.out) | exact HB.out), by repeat (first | (with_reducible first | exact HK.out | apply KeepBut.set_ | apply keep_drewN | apply keep_drew | apply keep_alloc | refine keep_far ?_ GW132.out _ | refine keep_far ?_ GW154.out _) | exact HK.out)⟩
            · rw [if_neg c11] at H
              exact absurd H (by simp)
          · rw [if_neg c9] at H
            exact absurd H (by simp)
        · rw [if_neg c8] at H
          exact absurd H (by simp)
      · rw [if_neg c6] at H
        exact absurd H (by simp)
    · rw [if_neg c5] at H
      exact absurd H (by simp)
  · rw [if_neg c3] at H
    exact absurd H (by simp)
end Go.Proofs.Ytekpbgmmogpbdaa.P
namespace Go.Proofs.Ytekpbgmmogpbdaa.P
open Go.RowKit Go.Proofs.Ytekpbgmmogpbdaa.H Go.Proofs.YtekpbgmmogpbdaaW.PrintWords Go.Proofs.YtekpbgmmogpbdaaW.PrintLast Go.Proofs.YtekpbgmmogpbdaaW.PrintMore
attribute [local go_sem] max2_int min2_int max_two min_two max_three min_three max_four min_four
set_option linter.unusedVariables false
set_option linter.unusedSimpArgs false
mutual
def policy_reader_rest.l0 : Nat → ByteArray → ByteArray → Bool → Bool → Int → Int → List (S61) → Int → Option (Int × Int × (List (S61)) × Int × ByteArray × Bool × Bool)
  | 0, _, _, _, _, _, _, _, _ => none
  | k + 1, x5, x1000, x1001, x1002, x160000, x160001, x160002, x160003 => if x1001 = true then (policy_reader_rest.j1 k x5 false x1000 x1001 x1002 x160000 x160001 x160002 x160003) else (policy_reader_rest.j1 k x5 (!x1002) x1000 x1001 x1002 x160000 x160001 x160002 x160003)
def policy_reader_rest.j1 : Nat → ByteArray → Bool → ByteArray → Bool → Bool → Int → Int → List (S61) → Int → Option (Int × Int × (List (S61)) × Int × ByteArray × Bool × Bool)
  | 0, _, _, _, _, _, _, _, _, _ => none
  | k + 1, x5, x49, x1000, x1001, x1002, x160000, x160001, x160002, x160003 => if x49 = true then ((policy_reader_word.f x1000 x1001 x1002).bind fun bt187 => (if bt187.1.toList = x5.toList then ((policy_reader_condition.f bt187.2.1 bt187.2.2.1 bt187.2.2.2).bind fun bt191 => (if x160002.length < 4398046511104 then (policy_reader_rest.l0 k (⟨#[97, 110, 100]⟩ : ByteArray) bt191.2.2.2.2.1 bt191.2.2.2.2.2.1 bt191.2.2.2.2.2.2 x160000 x160001 (x160002 ++ [(⟨bt191.1, bt191.2.1, bt191.2.2.1, bt191.2.2.2.1⟩ : S61)]) x160003) else (none))) else ((policy_reader_condition.f bt187.2.1 bt187.2.2.1 true).bind fun bt201 => (if x160002.length < 4398046511104 then (policy_reader_rest.l0 k (⟨#[97, 110, 100]⟩ : ByteArray) bt201.2.2.2.2.1 bt201.2.2.2.2.2.1 bt201.2.2.2.2.2.2 x160000 x160001 (x160002 ++ [(⟨bt201.1, bt201.2.1, bt201.2.2.1, bt201.2.2.2.1⟩ : S61)]) x160003) else (none))))) else (if x1002 = true then (some (x160000, x160001, x160002, x160003, x1000, x1001, true)) else (some (x160000, x160001, x160002, x160003, x1000, x1001, decide ((x160002.length : Int) > 4))))
end
def policy_reader_rest.f (k : Nat) (s0_0 : ByteArray) (s0_1 : Bool) (s0_2 : Bool) : Option (Int × Int × (List (S61)) × Int × ByteArray × Bool × Bool) := (policy_reader_word.f s0_0 s0_1 s0_2).bind fun bt160 => ((names_ReadMachine.f bt160.1).bind fun bt164 => ((policy_reader_must.f bt160.2.1 bt160.2.2.1 bt160.2.2.2 bt164.2).bind fun bt166 => ((policy_reader_word.f bt166.1 bt166.2.1 bt166.2.2).bind fun bt169 => ((names_ReadCall.f bt164.1 bt169.1).bind fun bt173 => ((policy_reader_must.f bt169.2.1 bt169.2.2.1 bt169.2.2.2 bt173.2).bind fun bt175 => ((policy_reader_word.f bt175.1 bt175.2.1 bt175.2.2).bind fun bt178 => ((names_ReadAction.f bt178.1).bind fun bt182 => ((policy_reader_must.f bt178.2.1 bt178.2.2.1 bt178.2.2.2 bt182.2).bind fun bt184 => (policy_reader_rest.l0 k (⟨#[105, 102]⟩ : ByteArray) bt184.1 bt184.2.1 bt184.2.2 bt164.1 bt173.1 ([] : List (S61)) bt182.1)))))))))
def policy_reader_rest.T5 : Bool × List (List Nat × List Nat) := (true, [([], []), ([0], [0]), ([], []), ([2], [2]), ([1, 3, 3], [1, 3]), ([4], [4]), ([5], [5]), ([5], [5]), ([0, 1, 2, 3, 4, 5, 6], []), ([8, 6, 4, 0, 1, 2, 3, 4, 5, 6], [6, 8]), ([7, 9, 0, 1, 2, 3, 4, 5, 6, 7, 8, 9], [7])])
def policy_reader_rest.B5 : List Nat := [0, 1, 0, 4, 15, 31, 63, 63, 127, 383, 1023]
theorem policy_reader_rest.tab5 : rtab .any (opsOf Try.f38 5) = policy_reader_rest.T5 := by kernel_rfl
theorem policy_reader_rest.bits5 : waitsOk policy_reader_rest.T5.2 policy_reader_rest.B5 = true := by kernel_rfl
def policy_reader_rest.T13 : Bool × List (List Nat × List Nat) := (true, [([], []), ([0], [0]), ([], []), ([2], [2]), ([3], [3]), ([1, 4, 3], [1, 4]), ([0, 1, 2, 3, 4, 5], []), ([6, 5, 5, 0, 1, 2, 3, 4, 5], [5, 6])])
def policy_reader_rest.B13 : List Nat := [0, 1, 0, 4, 12, 31, 63, 127]
theorem policy_reader_rest.tab13 : rtab .any (opsOf Try.f38 13) = policy_reader_rest.T13 := by kernel_rfl
theorem policy_reader_rest.bits13 : waitsOk policy_reader_rest.T13.2 policy_reader_rest.B13 = true := by kernel_rfl
set_option maxHeartbeats 8000000 in
set_option maxRecDepth 100000 in
theorem policy_reader_rest.calls (k : Nat) (g : Nat) (s0_0 : ByteArray) (s0_1 : Bool) (s0_2 : Bool) (r1 : Int) (r2 : Int) (r3 : List (S61)) (r4 : Int) (r5 : ByteArray) (r6 : Bool) (r7 : Bool) (w0 w : World) (hI : IsS65 w0 w g s0_0 s0_1 s0_2) (hB : Below w0.heap.size w0 w) (h : policy_reader_rest.f k s0_0 s0_1 s0_2 = some (r1, r2, r3, r4, r5, r6, r7)) :
    Calls Try.prog 38 #[.pointer (some ⟨g, 0, none⟩)] w fun e w' => ∃ v2_ : Value, e = .returned (.agg #[.int .u32 r1, .int .u32 r2, v2_, .int .u32 r4]) ∧ Kd.R k61 61 w' w.heap.size (fun _ => True) v2_ r3 ∧ IsS65 w0 w' g r5 r6 r7 ∧ Below w0.heap.size w0 w' ∧ KeepBut w w' g none := by
  have hu40 := Try.underlying40
  have HI0 := Aside0.mk hI
  have HK := Aside0.mk (KeepBut.refl w g none)
  have HL := Aside0.mk hB.size
  clear hI
  have HW0 := Aside0.mk hB.size
  have HB := Aside0.mk hB
  clear hB
  have H : ((policy_reader_word.f s0_0 s0_1 s0_2).bind fun bt160 => ((names_ReadMachine.f bt160.1).bind fun bt164 => ((policy_reader_must.f bt160.2.1 bt160.2.2.1 bt160.2.2.2 bt164.2).bind fun bt166 => ((policy_reader_word.f bt166.1 bt166.2.1 bt166.2.2).bind fun bt169 => ((names_ReadCall.f bt164.1 bt169.1).bind fun bt173 => ((policy_reader_must.f bt169.2.1 bt169.2.2.1 bt169.2.2.2 bt173.2).bind fun bt175 => ((policy_reader_word.f bt175.1 bt175.2.1 bt175.2.2).bind fun bt178 => ((names_ReadAction.f bt178.1).bind fun bt182 => ((policy_reader_must.f bt178.2.1 bt178.2.2.1 bt178.2.2.2 bt182.2).bind fun bt184 => (policy_reader_rest.l0 k (⟨#[105, 102]⟩ : ByteArray) bt184.1 bt184.2.1 bt184.2.2 bt164.1 bt173.1 ([] : List (S61)) bt182.1)))))))))) = some (r1, r2, r3, r4, r5, r6, r7) := h
  clear h
  replace H := Option.bind_eq_some_iff.mp H
  obtain ⟨⟨t160, t161, t162, t163⟩, A20, H⟩ := H
  replace H : ((names_ReadMachine.f t160).bind fun bt164 => ((policy_reader_must.f t161 t162 t163 bt164.2).bind fun bt166 => ((policy_reader_word.f bt166.1 bt166.2.1 bt166.2.2).bind fun bt169 => ((names_ReadCall.f bt164.1 bt169.1).bind fun bt173 => ((policy_reader_must.f bt169.2.1 bt169.2.2.1 bt169.2.2.2 bt173.2).bind fun bt175 => ((policy_reader_word.f bt175.1 bt175.2.1 bt175.2.2).bind fun bt178 => ((names_ReadAction.f bt178.1).bind fun bt182 => ((policy_reader_must.f bt178.2.1 bt178.2.2.1 bt178.2.2.2 bt182.2).bind fun bt184 => (policy_reader_rest.l0 k (⟨#[105, 102]⟩ : ByteArray) bt184.1 bt184.2.1 bt184.2.2 bt164.1 bt173.1 ([] : List (S61)) bt182.1))))))))) = some (r1, r2, r3, r4, r5, r6, r7) := H
  have A2 := Aside0.mk A20
  clear A20
  replace H := Option.bind_eq_some_iff.mp H
  obtain ⟨⟨t164, t165⟩, A30, H⟩ := H
  replace H : ((policy_reader_must.f t161 t162 t163 t165).bind fun bt166 => ((policy_reader_word.f bt166.1 bt166.2.1 bt166.2.2).bind fun bt169 => ((names_ReadCall.f t164 bt169.1).bind fun bt173 => ((policy_reader_must.f bt169.2.1 bt169.2.2.1 bt169.2.2.2 bt173.2).bind fun bt175 => ((policy_reader_word.f bt175.1 bt175.2.1 bt175.2.2).bind fun bt178 => ((names_ReadAction.f bt178.1).bind fun bt182 => ((policy_reader_must.f bt178.2.1 bt178.2.2.1 bt178.2.2.2 bt182.2).bind fun bt184 => (policy_reader_rest.l0 k (⟨#[105, 102]⟩ : ByteArray) bt184.1 bt184.2.1 bt184.2.2 t164 bt173.1 ([] : List (S61)) bt182.1)))))))) = some (r1, r2, r3, r4, r5, r6, r7) := H
  have A3 := Aside0.mk A30
  clear A30
  replace H := Option.bind_eq_some_iff.mp H
  obtain ⟨⟨t166, t167, t168⟩, A40, H⟩ := H
  replace H : ((policy_reader_word.f t166 t167 t168).bind fun bt169 => ((names_ReadCall.f t164 bt169.1).bind fun bt173 => ((policy_reader_must.f bt169.2.1 bt169.2.2.1 bt169.2.2.2 bt173.2).bind fun bt175 => ((policy_reader_word.f bt175.1 bt175.2.1 bt175.2.2).bind fun bt178 => ((names_ReadAction.f bt178.1).bind fun bt182 => ((policy_reader_must.f bt178.2.1 bt178.2.2.1 bt178.2.2.2 bt182.2).bind fun bt184 => (policy_reader_rest.l0 k (⟨#[105, 102]⟩ : ByteArray) bt184.1 bt184.2.1 bt184.2.2 t164 bt173.1 ([] : List (S61)) bt182.1))))))) = some (r1, r2, r3, r4, r5, r6, r7) := H
  have A4 := Aside0.mk A40
  clear A40
  replace H := Option.bind_eq_some_iff.mp H
  obtain ⟨⟨t169, t170, t171, t172⟩, A50, H⟩ := H
  replace H : ((names_ReadCall.f t164 t169).bind fun bt173 => ((policy_reader_must.f t170 t171 t172 bt173.2).bind fun bt175 => ((policy_reader_word.f bt175.1 bt175.2.1 bt175.2.2).bind fun bt178 => ((names_ReadAction.f bt178.1).bind fun bt182 => ((policy_reader_must.f bt178.2.1 bt178.2.2.1 bt178.2.2.2 bt182.2).bind fun bt184 => (policy_reader_rest.l0 k (⟨#[105, 102]⟩ : ByteArray) bt184.1 bt184.2.1 bt184.2.2 t164 bt173.1 ([] : List (S61)) bt182.1)))))) = some (r1, r2, r3, r4, r5, r6, r7) := H
  have A5 := Aside0.mk A50
  clear A50
  replace H := Option.bind_eq_some_iff.mp H
  obtain ⟨⟨t173, t174⟩, A60, H⟩ := H
  replace H : ((policy_reader_must.f t170 t171 t172 t174).bind fun bt175 => ((policy_reader_word.f bt175.1 bt175.2.1 bt175.2.2).bind fun bt178 => ((names_ReadAction.f bt178.1).bind fun bt182 => ((policy_reader_must.f bt178.2.1 bt178.2.2.1 bt178.2.2.2 bt182.2).bind fun bt184 => (policy_reader_rest.l0 k (⟨#[105, 102]⟩ : ByteArray) bt184.1 bt184.2.1 bt184.2.2 t164 t173 ([] : List (S61)) bt182.1))))) = some (r1, r2, r3, r4, r5, r6, r7) := H
  have A6 := Aside0.mk A60
  clear A60
  replace H := Option.bind_eq_some_iff.mp H
  obtain ⟨⟨t175, t176, t177⟩, A70, H⟩ := H
  replace H : ((policy_reader_word.f t175 t176 t177).bind fun bt178 => ((names_ReadAction.f bt178.1).bind fun bt182 => ((policy_reader_must.f bt178.2.1 bt178.2.2.1 bt178.2.2.2 bt182.2).bind fun bt184 => (policy_reader_rest.l0 k (⟨#[105, 102]⟩ : ByteArray) bt184.1 bt184.2.1 bt184.2.2 t164 t173 ([] : List (S61)) bt182.1)))) = some (r1, r2, r3, r4, r5, r6, r7) := H
  have A7 := Aside0.mk A70
  clear A70
  replace H := Option.bind_eq_some_iff.mp H
  obtain ⟨⟨t178, t179, t180, t181⟩, A80, H⟩ := H
  replace H : ((names_ReadAction.f t178).bind fun bt182 => ((policy_reader_must.f t179 t180 t181 bt182.2).bind fun bt184 => (policy_reader_rest.l0 k (⟨#[105, 102]⟩ : ByteArray) bt184.1 bt184.2.1 bt184.2.2 t164 t173 ([] : List (S61)) bt182.1))) = some (r1, r2, r3, r4, r5, r6, r7) := H
  have A8 := Aside0.mk A80
  clear A80
  replace H := Option.bind_eq_some_iff.mp H
  obtain ⟨⟨t182, t183⟩, A90, H⟩ := H
  replace H : ((policy_reader_must.f t179 t180 t181 t183).bind fun bt184 => (policy_reader_rest.l0 k (⟨#[105, 102]⟩ : ByteArray) bt184.1 bt184.2.1 bt184.2.2 t164 t173 ([] : List (S61)) t182)) = some (r1, r2, r3, r4, r5, r6, r7) := H
  have A9 := Aside0.mk A90
  clear A90
  replace H := Option.bind_eq_some_iff.mp H
  obtain ⟨⟨t184, t185, t186⟩, A100, H⟩ := H
  replace H : (policy_reader_rest.l0 k (⟨#[105, 102]⟩ : ByteArray) t184 t185 t186 t164 t173 ([] : List (S61)) t182) = some (r1, r2, r3, r4, r5, r6, r7) := H
  have A10 := Aside0.mk A100
  clear A100
  have H' := Aside0.mk H
  clear H
  go_enter Try.func38, Try.ntmps38
  try go_wp2_with (first | ((with_reducible refine gate_dst (N := 2) rfl ?_); (try (refine gate_guard (by rfl) ?_; dsimp only)); refine box_event ?hg (N := 2) ?hd (cs := #[.int .u32 0, .int .u32 0, .slice none 0 0, .int .u32 0]) (t := 40) ?hr ?_; (case hd => rfl); (case hg => rfl); (case hr => first | (go_simp; done) | (go_simp; rfl)); intro gb158 hg w11 hbox hb; have n0_ := Aside0.mk (IsS65.below (by repeat (first | (with_reducible first | exact HI0.out | apply IsS65.alloc | apply IsS65.drewN | apply IsS65.drew | apply IsS65.set_0 | apply IsS65.set_1 | apply IsS65.set_2) | exact HI0.out)) hb); have n1_ := Aside0.mk (KeepBut.trans (by repeat (first | (with_reducible first | exact HK.out | apply KeepBut.set_ | apply keep_drewN | apply keep_drew | apply keep_alloc) | exact HK.out)) (KeepBut.of_below hb g none) (.inl rfl)); have n2_ := Aside0.mk (below_step (by repeat (first | (with_reducible first | exact HB.out | apply below_alloc | apply pw_below_drewN | apply below_drew1 | refine below_set ?_ (IsS65.ge HI0.out)) | exact HB.out)) hb); have n3_ := Aside0.mk (hbox); have n4_ := Aside0.mk ((by rw [hg]; exact (keep_size (w := w) (g := g) (row := none) (by repeat (first | (with_reducible first | exact HK.out | apply KeepBut.set_ | apply keep_drewN | apply keep_drew | apply keep_alloc) | exact HK.out))) : w.heap.size ≤ gb158)); have n5_ := Aside0.mk ((Nat.le_trans HW0.out (by rw [hg]; exact (keep_size (w := w) (g := g) (row := none) (by repeat (first | (with_reducible first | exact HK.out | apply KeepBut.set_ | apply keep_drewN | apply keep_drew | apply keep_alloc) | exact HK.out))) : w.heap.size ≤ gb158) : w0.heap.size ≤ gb158)); have n6_ := Aside0.mk ((by rw [hg]; exact Nat.ne_of_lt (IsS65.lt (show IsS65 w0 _ g s0_0 s0_1 s0_2 from by repeat (first | (with_reducible first | exact HI0.out | apply IsS65.alloc | apply IsS65.drewN | apply IsS65.drew | apply IsS65.set_0 | apply IsS65.set_1 | apply IsS65.set_2) | exact HI0.out))) : g ≠ gb158)); have n7_ := Aside0.mk ((by rw [hg]; exact Nat.ne_of_gt (IsS65.lt (show IsS65 w0 _ g s0_0 s0_1 s0_2 from by repeat (first | (with_reducible first | exact HI0.out | apply IsS65.alloc | apply IsS65.drewN | apply IsS65.drew | apply IsS65.set_0 | apply IsS65.set_1 | apply IsS65.set_2) | exact HI0.out))) : gb158 ≠ g)); clear HI0; clear HK; clear HB; have HI0 := n0_; have HK := n1_; have HB := n2_; have BK158 := n3_; have GW158 := n4_; have GE158 := n5_; have NB0_158 := n6_; have NB158_0 := n7_; clear n0_ n1_ n2_ n3_ n4_ n5_ n6_ n7_; clear hb hbox hg) | ((with_reducible refine gate_dst (N := 3) rfl ?_); (try (refine gate_guard (by rfl) ?_; dsimp only)); refine box_event ?hg (N := 3) ?hd (cs := #[.int .u32 0, .int .u32 0, .slice none 0 0, .int .u32 0]) (t := 40) ?hr ?_; (case hd => rfl); (case hg => rfl); (case hr => first | (go_simp; done) | (go_simp; rfl)); intro gb159 hg w12 hbox hb; have n0_ := Aside0.mk (IsS65.below (by repeat (first | (with_reducible first | exact HI0.out | apply IsS65.alloc | apply IsS65.drewN | apply IsS65.drew | apply IsS65.set_0 | apply IsS65.set_1 | apply IsS65.set_2 | refine IsS65.far ?_ NB0_158.out _) | exact HI0.out)) hb); have n1_ := Aside0.mk (blk_below (g := gb158) (o := .cells #[.int .u32 0, .int .u32 0, .slice none 0 0, .int .u32 0] 40 (0, 0)) (by (with_reducible repeat (first | refine blk_drewN ?_ _ | refine blk_drew ?_ | refine blk_alloc ?_ _)); exact BK158.out) hb); have n2_ := Aside0.mk (KeepBut.trans (by repeat (first | (with_reducible first | exact HK.out | apply KeepBut.set_ | apply keep_drewN | apply keep_drew | apply keep_alloc | refine keep_far ?_ GW158.out _) | exact HK.out)) (KeepBut.of_below hb g none) (.inl rfl)); have n3_ := Aside0.mk (below_step (by repeat (first | (with_reducible first | exact HB.out | apply below_alloc | apply pw_below_drewN | apply below_drew1 | refine below_set ?_ (IsS65.ge HI0.out) | refine below_set ?_ GE158.out) | exact HB.out)) hb); have n4_ := Aside0.mk (hbox); have n5_ := Aside0.mk ((by rw [hg]; exact (keep_size (w := w) (g := g) (row := none) (by repeat (first | (with_reducible first | exact HK.out | apply KeepBut.set_ | apply keep_drewN | apply keep_drew | apply keep_alloc | refine keep_far ?_ GW158.out _) | exact HK.out))) : w.heap.size ≤ gb159)); have n6_ := Aside0.mk ((Nat.le_trans HW0.out (by rw [hg]; exact (keep_size (w := w) (g := g) (row := none) (by repeat (first | (with_reducible first | exact HK.out | apply KeepBut.set_ | apply keep_drewN | apply keep_drew | apply keep_alloc | refine keep_far ?_ GW158.out _) | exact HK.out))) : w.heap.size ≤ gb159) : w0.heap.size ≤ gb159)); have n7_ := Aside0.mk ((by rw [hg]; exact Nat.ne_of_lt (blk_lt (g := gb158) (o := .cells #[.int .u32 0, .int .u32 0, .slice none 0 0, .int .u32 0] 40 (0, 0)) (by (with_reducible repeat (first | refine blk_drewN ?_ _ | refine blk_drew ?_ | refine blk_alloc ?_ _)); exact BK158.out)) : gb158 ≠ gb159)); have n8_ := Aside0.mk ((by rw [hg]; exact Nat.ne_of_gt (blk_lt (g := gb158) (o := .cells #[.int .u32 0, .int .u32 0, .slice none 0 0, .int .u32 0] 40 (0, 0)) (by (with_reducible repeat (first | refine blk_drewN ?_ _ | refine blk_drew ?_ | refine blk_alloc ?_ _)); exact BK158.out)) : gb159 ≠ gb158)); have n9_ := Aside0.mk ((by rw [hg]; exact Nat.ne_of_lt (IsS65.lt (show IsS65 w0 _ g s0_0 s0_1 s0_2 from by repeat (first | (with_reducible first | exact HI0.out | apply IsS65.alloc | apply IsS65.drewN | apply IsS65.drew | apply IsS65.set_0 | apply IsS65.set_1 | apply IsS65.set_2 | refine IsS65.far ?_ NB0_158.out _) | exact HI0.out))) : g ≠ gb159)); have n10_ := Aside0.mk ((by rw [hg]; exact Nat.ne_of_gt (IsS65.lt (show IsS65 w0 _ g s0_0 s0_1 s0_2 from by repeat (first | (with_reducible first | exact HI0.out | apply IsS65.alloc | apply IsS65.drewN | apply IsS65.drew | apply IsS65.set_0 | apply IsS65.set_1 | apply IsS65.set_2 | refine IsS65.far ?_ NB0_158.out _) | exact HI0.out))) : gb159 ≠ g)); clear HI0; clear BK158; clear HK; clear HB; have HI0 := n0_; have BK158 := n1_; have HK := n2_; have HB := n3_; have BK159 := n4_; have GW159 := n5_; have GE159 := n6_; have NB158_159 := n7_; have NB159_158 := n8_; have NB0_159 := n9_; have NB159_0 := n10_; clear n0_ n1_ n2_ n3_ n4_ n5_ n6_ n7_ n8_ n9_ n10_; clear hb hbox hg) | ((with_reducible refine gate_callee (f := 37) rfl ?_); refine goesL_ (some 8) rfl rfl Try.func37 (by kernel_rfl) rfl #[.pointer (some ⟨g, 0, none⟩)] rfl (by (try simp only [List.map_toArray, List.map_cons, List.map_nil]); first | done | rfl | (simp only [List.length_drop, List.length_take]; rfl)) ?_; (with_reducible refine (policy_reader_word.calls g s0_0 s0_1 s0_2 t160 t161 t162 t163 w0 _ ?side1 ?side2 A2.out).mono ?_); (case side1 => repeat (first | (with_reducible first | exact HI0.out | apply IsS65.alloc | apply IsS65.drewN | apply IsS65.drew | apply IsS65.set_0 | apply IsS65.set_1 | apply IsS65.set_2 | refine IsS65.far ?_ NB0_158.out _ | refine IsS65.far ?_ NB0_159.out _) | exact HI0.out)); (case side2 => repeat (first | (with_reducible first | exact HB.out | apply below_alloc | apply pw_below_drewN | apply below_drew1 | refine below_set ?_ (IsS65.ge HI0.out) | refine below_set ?_ GE158.out | refine below_set ?_ GE159.out) | exact HB.out)); rintro e w13 ⟨rfl, hi, hb, hk⟩; refine ⟨_, rfl, ?_⟩; have n0_ := Aside0.mk (KeepBut.blk hk (g' := gb158) (o := .cells #[.int .u32 0, .int .u32 0, .slice none 0 0, .int .u32 0] 40 (0, 0)) (by (with_reducible repeat (first | refine blk_drewN ?_ _ | refine blk_drew ?_ | refine blk_alloc ?_ _)); exact BK158.out) NB158_0.out (by simp)); have n1_ := Aside0.mk (KeepBut.blk hk (g' := gb159) (o := .cells #[.int .u32 0, .int .u32 0, .slice none 0 0, .int .u32 0] 40 (0, 0)) (by (with_reducible repeat (first | refine blk_drewN ?_ _ | refine blk_drew ?_ | refine blk_alloc ?_ _)); exact BK159.out) NB159_0.out (by simp)); have n2_ := Aside0.mk (KeepBut.trans (by repeat (first | (with_reducible first | exact HK.out | apply KeepBut.set_ | apply keep_drewN | apply keep_drew | apply keep_alloc | refine keep_far ?_ GW158.out _ | refine keep_far ?_ GW159.out _) | exact HK.out)) hk (.inl rfl)); have n3_ := Aside0.mk (hb); have n4_ := Aside0.mk (hi); clear BK158; clear BK159; clear HK; clear HB; clear HI0; have BK158 := n0_; have BK159 := n1_; have HK := n2_; have HB := n3_; have HI0 := n4_; clear n0_ n1_ n2_ n3_ n4_; (try clear hb); (try clear hb2); (try clear hk); (try clear hi)) | ((with_reducible refine gate_callee (f := 59) rfl ?_); refine goesL_ (some 9) rfl rfl Try.func59 (by kernel_rfl) rfl #[.string t160] rfl (by (try simp only [List.map_toArray, List.map_cons, List.map_nil]); first | done | rfl | (simp only [List.length_drop, List.length_take]; rfl)) ?_; (with_reducible refine (names_ReadMachine.calls t160 t164 t165 _ A3.out).mono ?_); rintro e w14 ⟨rfl, hb⟩; refine ⟨_, rfl, ?_⟩; have n0_ := Aside0.mk (IsS65.below (by repeat (first | (with_reducible first | exact HI0.out | apply IsS65.alloc | apply IsS65.drewN | apply IsS65.drew | apply IsS65.set_0 | apply IsS65.set_1 | apply IsS65.set_2 | refine IsS65.far ?_ NB0_158.out _ | refine IsS65.far ?_ NB0_159.out _) | exact HI0.out)) hb); have n1_ := Aside0.mk (blk_below (g := gb158) (o := .cells #[.int .u32 0, .int .u32 0, .slice none 0 0, .int .u32 0] 40 (0, 0)) (by (with_reducible repeat (first | refine blk_drewN ?_ _ | refine blk_drew ?_ | refine blk_alloc ?_ _)); exact BK158.out) hb); have n2_ := Aside0.mk (blk_below (g := gb159) (o := .cells #[.int .u32 0, .int .u32 0, .slice none 0 0, .int .u32 0] 40 (0, 0)) (by (with_reducible repeat (first | refine blk_drewN ?_ _ | refine blk_drew ?_ | refine blk_alloc ?_ _)); exact BK159.out) hb); have n3_ := Aside0.mk (KeepBut.trans (by repeat (first | (with_reducible first | exact HK.out | apply KeepBut.set_ | apply keep_drewN | apply keep_drew | apply keep_alloc | refine keep_far ?_ GW158.out _ | refine keep_far ?_ GW159.out _) | exact HK.out)) (KeepBut.of_below hb g none) (.inl rfl)); have n4_ := Aside0.mk (below_step (by repeat (first | (with_reducible first | exact HB.out | apply below_alloc | apply pw_below_drewN | apply below_drew1 | refine below_set ?_ (IsS65.ge HI0.out) | refine below_set ?_ GE158.out | refine below_set ?_ GE159.out) | exact HB.out)) hb); clear HI0; clear BK158; clear BK159; clear HK; clear HB; have HI0 := n0_; have BK158 := n1_; have BK159 := n2_; have HK := n3_; have HB := n4_; clear n0_ n1_ n2_ n3_ n4_; (try clear hb); (try clear hb2); (try clear hk); (try clear hi); have hnb15 := NB159_158.out; have hnc15 := NB158_159.out; have hnb16 := NB159_0.out; have hnc16 := NB0_159.out; have hcz17_0 : w14.cell? ⟨gb159, 0, none⟩ = some (.int .u32 0) := (blk_cell BK159.out 0).trans rfl; have hcz17_1 : w14.cell? ⟨gb159, 1, none⟩ = some (.int .u32 0) := (blk_cell BK159.out 1).trans rfl; have hcz17_2 : w14.cell? ⟨gb159, 2, none⟩ = some (.slice none 0 0) := (blk_cell BK159.out 2).trans rfl; have hcz17_3 : w14.cell? ⟨gb159, 3, none⟩ = some (.int .u32 0) := (blk_cell BK159.out 3).trans rfl; have hfz17_0 := blk_frozen BK159.out 0; have hfz17_1 := blk_frozen BK159.out 1; have hfz17_2 := blk_frozen BK159.out 2; have hfz17_3 := blk_frozen BK159.out 3) | ((with_reducible refine gate_callee (f := 40) rfl ?_); refine goesL_ (some 15) rfl rfl Try.func40 (by kernel_rfl) rfl #[.pointer (some ⟨g, 0, none⟩), .int .i64 t165] rfl (by (try simp only [List.map_toArray, List.map_cons, List.map_nil]); first | done | rfl | (simp only [List.length_drop, List.length_take]; rfl)) ?_; (with_reducible refine (policy_reader_must.calls g t161 t162 t163 t165 t166 t167 t168 w0 _ ?side1 ?side2 A4.out).mono ?_); (case side1 => repeat (first | (with_reducible first | exact HI0.out | apply IsS65.alloc | apply IsS65.drewN | apply IsS65.drew | apply IsS65.set_0 | apply IsS65.set_1 | apply IsS65.set_2 | refine IsS65.far ?_ NB0_158.out _ | refine IsS65.far ?_ NB0_159.out _) | exact HI0.out)); (case side2 => repeat (first | (with_reducible first | exact HB.out | apply below_alloc | apply pw_below_drewN | apply below_drew1 | refine below_set ?_ (IsS65.ge HI0.out) | refine below_set ?_ GE158.out | refine below_set ?_ GE159.out) | exact HB.out)); rintro e w18 ⟨rfl, hi, hb, hk⟩; refine ⟨_, rfl, ?_⟩; have n0_ := Aside0.mk (KeepBut.blk hk (g' := gb158) (o := .cells #[.int .u32 0, .int .u32 0, .slice none 0 0, .int .u32 0] 40 (0, 0)) (by (with_reducible repeat (first | refine blk_drewN ?_ _ | refine blk_drew ?_ | refine blk_alloc ?_ _)); refine blk_far ?_ NB158_159.out _; (with_reducible repeat (first | refine blk_drewN ?_ _ | refine blk_drew ?_ | refine blk_alloc ?_ _)); exact BK158.out) NB158_0.out (by simp)); have n1_ := Aside0.mk (KeepBut.blk hk (g' := gb159) (o := .cells #[.int .u32 t164, .int .u32 0, .slice none 0 0, .int .u32 0] 40 (0, 0)) (by (with_reducible repeat (first | refine blk_drewN ?_ _ | refine blk_drew ?_ | refine blk_alloc ?_ _)); refine blk_put (cs := #[.int .u32 0, .int .u32 0, .slice none 0 0, .int .u32 0]) ?_ 0 _ rfl; (with_reducible repeat (first | refine blk_drewN ?_ _ | refine blk_drew ?_ | refine blk_alloc ?_ _)); exact BK159.out) NB159_0.out (by simp)); have n2_ := Aside0.mk (KeepBut.trans (by repeat (first | (with_reducible first | exact HK.out | apply KeepBut.set_ | apply keep_drewN | apply keep_drew | apply keep_alloc | refine keep_far ?_ GW158.out _ | refine keep_far ?_ GW159.out _) | exact HK.out)) hk (.inl rfl)); have n3_ := Aside0.mk (hb); have n4_ := Aside0.mk (hi); clear BK158; clear BK159; clear HK; clear HB; clear HI0; have BK158 := n0_; have BK159 := n1_; have HK := n2_; have HB := n3_; have HI0 := n4_; clear n0_ n1_ n2_ n3_ n4_; (try clear hb); (try clear hb2); (try clear hk); (try clear hi)))
  have n0_ := Aside0.mk (blk_drew BK158.out)
  have n1_ := Aside0.mk (blk_drew BK159.out)
  have n2_ := Aside0.mk (IsS65.drew HI0.out)
  have n3_ := Aside0.mk (keep_drew HK.out)
  have n4_ := Aside0.mk (below_drew1 HB.out)
  clear BK158
  clear BK159
  clear HI0
  clear HK
  clear HB
  have BK158 := n0_
  have BK159 := n1_
  have HI0 := n2_
  have HK := n3_
  have HB := n4_
  clear n0_ n1_ n2_ n3_ n4_
  refine start_ (n := 11) (S := fun w' => w'.cell? ⟨gb159, 0, none⟩ = some (.int .u32 t164) ∧ w'.cell? ⟨gb159, 1, none⟩ = some (.int .u32 0) ∧ w'.cell? ⟨gb159, 2, none⟩ = some (.slice none 0 0) ∧ w'.cell? ⟨gb159, 3, none⟩ = some (.int .u32 0)) (ds := [9]) #[false, false, false, false, false, false, false, false, false, false, false] (by kernel_rfl) rfl rfl ⟨(blk_cell BK159.out 0).trans rfl, (blk_cell BK159.out 1).trans rfl, (blk_cell BK159.out 2).trans rfl, (blk_cell BK159.out 3).trans rfl⟩ (fun hHeld => ?_); refine with_tabW policy_reader_rest.tab5 policy_reader_rest.bits5 (fun HT_ HW_ => ?_)
  generalize w18.drew = w19 at BK158 BK159 HI0 HK HB hHeld ⊢
  refine pure_ (i := 0) (N := some 17) (v := ?_) (a' := ?_) #[true, false, false, false, false, false, false, false, false, false, false] rfl rfl (any_of HT_.out (by kernel_rfl)) (fun _ _ _ h => h) (Or.inl ⟨by rfl, ?_⟩) ?_ ?_
  rotate_left
  · intro w'
    go_simp
    with_reducible rfl
  rotate_left
  · simp only [Act.put, List.setIfInBounds_toArray, List.set_cons_zero, List.set_cons_succ, i64_w, i32_w]
    rfl
  refine pure_ (i := 2) (N := some 19) (v := ?_) (a' := ?_) #[true, false, true, false, false, false, false, false, false, false, false] rfl rfl (any_of HT_.out (by kernel_rfl)) (fun _ _ _ h => h) (Or.inl ⟨by rfl, ?_⟩) ?_ ?_
  rotate_left
  · intro w'
    go_simp
    with_reducible rfl
  rotate_left
  · simp only [Act.put, List.setIfInBounds_toArray, List.set_cons_zero, List.set_cons_succ, i64_w, i32_w]
    rfl
  refine take_ (i := 1) (N := some 18) (v := ?_) (a' := ?_) #[true, true, true, false, false, false, false, false, false, false, false] rfl rfl (take_ofW HT_.out HW_.out (by kernel_rfl)) (fun _ _ _ h => h) (Or.inl ⟨by rfl, ?_⟩) hHeld ?_ ?_
  rotate_left
  · rintro w' ⟨s0, s1, s2, s3⟩
    go_simp
    with_reducible rfl
  rotate_left
  · simp only [Act.put, List.setIfInBounds_toArray, List.set_cons_zero, List.set_cons_succ, i64_w, i32_w]
    rfl
  refine one_ (i := 3) (N := some 20) #[true, true, true, true, false, false, false, false, false, false, false] rfl rfl (one_of HT_.out (by kernel_rfl)) (by decide) (fun K hK => ?_)
  refine goes_ Try.func37 (by kernel_rfl) rfl #[.pointer (some ⟨g, 0, none⟩)] (by rfl) rfl rfl (by (try simp only [List.map_toArray, List.map_cons, List.map_nil]); first | done | rfl | (simp only [List.length_drop, List.length_take]; rfl)) ?_
  with_reducible refine (policy_reader_word.calls g t166 t167 t168 t169 t170 t171 t172 w0 _ ?side1 ?side2 A5.out).mono ?_
  (case side1 => repeat (first | (with_reducible first | exact HI0.out | apply IsS65.alloc | apply IsS65.drewN | apply IsS65.drew | apply IsS65.set_0 | apply IsS65.set_1 | apply IsS65.set_2 | refine IsS65.far ?_ NB0_158.out _ | refine IsS65.far ?_ NB0_159.out _) | exact HI0.out))
  (case side2 => repeat (first | (with_reducible first | exact HB.out | apply below_alloc | apply pw_below_drewN | apply below_drew1 | refine below_set ?_ (IsS65.ge HI0.out) | refine below_set ?_ GE158.out | refine below_set ?_ GE159.out) | exact HB.out))
  rintro e w20 ⟨rfl, hi, hb, hk⟩
  refine ⟨_, rfl, ?_⟩
  have n0_ := Aside0.mk (KeepBut.blk hk (g' := gb158) (o := .cells #[.int .u32 0, .int .u32 0, .slice none 0 0, .int .u32 0] 40 (0, 0)) (by (with_reducible repeat (first | refine blk_drewN ?_ _ | refine blk_drew ?_ | refine blk_alloc ?_ _)); exact BK158.out) NB158_0.out (by simp))
  have n1_ := Aside0.mk (KeepBut.blk hk (g' := gb159) (o := .cells #[.int .u32 t164, .int .u32 0, .slice none 0 0, .int .u32 0] 40 (0, 0)) (by (with_reducible repeat (first | refine blk_drewN ?_ _ | refine blk_drew ?_ | refine blk_alloc ?_ _)); exact BK159.out) NB159_0.out (by simp))
  have n2_ := Aside0.mk (KeepBut.trans (by repeat (first | (with_reducible first | exact HK.out | apply KeepBut.set_ | apply keep_drewN | apply keep_drew | apply keep_alloc | refine keep_far ?_ GW158.out _ | refine keep_far ?_ GW159.out _) | exact HK.out)) hk (.inl rfl))
  have n3_ := Aside0.mk (hb)
  have n4_ := Aside0.mk (hi)
  clear BK158
  clear BK159
  clear HK
  clear HB
  clear HI0
  have BK158 := n0_
  have BK159 := n1_
  have HK := n2_
  have HB := n3_
  have HI0 := n4_
  clear n0_ n1_ n2_ n3_ n4_
  (try clear hb)
  (try clear hb2)
  (try clear hk)
  (try clear hi)
  refine hK.out _ _ ⟨(blk_cell BK159.out 0).trans rfl, (blk_cell BK159.out 1).trans rfl, (blk_cell BK159.out 2).trans rfl, (blk_cell BK159.out 3).trans rfl⟩ (fun hHeld => ?_)
  clear hK K
  refine norm_ (a' := ?_) ?_ ?_
  rotate_left
  · show Act.put _ (some 20) _ = _
    simp only [Act.put, List.setIfInBounds_toArray, List.set_cons_zero, List.set_cons_succ, i64_w, i32_w]
    rfl
  refine one_ (i := 4) (N := some 21) #[true, true, true, true, true, false, false, false, false, false, false] rfl rfl (one_of HT_.out (by kernel_rfl)) (by decide) (fun K hK => ?_)
  refine goes_ Try.func60 (by kernel_rfl) rfl #[.int .u32 t164, .string t169] (by rfl) rfl rfl (by (try simp only [List.map_toArray, List.map_cons, List.map_nil]); first | done | rfl | (simp only [List.length_drop, List.length_take]; rfl)) ?_
  with_reducible refine (names_ReadCall.calls t164 t169 t173 t174 _ A6.out).mono ?_
  rintro e w21 ⟨rfl, hb⟩
  refine ⟨_, rfl, ?_⟩
  have n0_ := Aside0.mk (IsS65.below (by repeat (first | (with_reducible first | exact HI0.out | apply IsS65.alloc | apply IsS65.drewN | apply IsS65.drew | apply IsS65.set_0 | apply IsS65.set_1 | apply IsS65.set_2 | refine IsS65.far ?_ NB0_158.out _ | refine IsS65.far ?_ NB0_159.out _) | exact HI0.out)) hb)
  have n1_ := Aside0.mk (blk_below (g := gb158) (o := .cells #[.int .u32 0, .int .u32 0, .slice none 0 0, .int .u32 0] 40 (0, 0)) (by (with_reducible repeat (first | refine blk_drewN ?_ _ | refine blk_drew ?_ | refine blk_alloc ?_ _)); exact BK158.out) hb)
  have n2_ := Aside0.mk (blk_below (g := gb159) (o := .cells #[.int .u32 t164, .int .u32 0, .slice none 0 0, .int .u32 0] 40 (0, 0)) (by (with_reducible repeat (first | refine blk_drewN ?_ _ | refine blk_drew ?_ | refine blk_alloc ?_ _)); exact BK159.out) hb)
  have n3_ := Aside0.mk (KeepBut.trans (by repeat (first | (with_reducible first | exact HK.out | apply KeepBut.set_ | apply keep_drewN | apply keep_drew | apply keep_alloc | refine keep_far ?_ GW158.out _ | refine keep_far ?_ GW159.out _) | exact HK.out)) (KeepBut.of_below hb g none) (.inl rfl))
  have n4_ := Aside0.mk (below_step (by repeat (first | (with_reducible first | exact HB.out | apply below_alloc | apply pw_below_drewN | apply below_drew1 | refine below_set ?_ (IsS65.ge HI0.out) | refine below_set ?_ GE158.out | refine below_set ?_ GE159.out) | exact HB.out)) hb)
  clear HI0
  clear BK158
  clear BK159
  clear HK
  clear HB
  have HI0 := n0_
  have BK158 := n1_
  have BK159 := n2_
  have HK := n3_
  have HB := n4_
  clear n0_ n1_ n2_ n3_ n4_
  (try clear hb)
  (try clear hb2)
  (try clear hk)
  (try clear hi)
  refine hK.out _ _ ⟨(blk_cell BK159.out 0).trans rfl, (blk_cell BK159.out 1).trans rfl, (blk_cell BK159.out 2).trans rfl, (blk_cell BK159.out 3).trans rfl⟩ (fun hHeld => ?_)
  clear hK K
  refine norm_ (a' := ?_) ?_ ?_
  rotate_left
  · show Act.put _ (some 21) _ = _
    simp only [Act.put, List.setIfInBounds_toArray, List.set_cons_zero, List.set_cons_succ, i64_w, i32_w]
    rfl
  refine pure_ (i := 5) (N := some 16) (v := ?_) (a' := ?_) #[true, true, true, true, true, true, false, false, false, false, false] rfl rfl (any_of HT_.out (by kernel_rfl)) (fun _ _ _ h => h) (Or.inl ⟨by rfl, ?_⟩) ?_ ?_
  rotate_left
  · intro w'
    go_simp
    with_reducible rfl
  rotate_left
  · simp only [Act.put, List.setIfInBounds_toArray, List.set_cons_zero, List.set_cons_succ, i64_w, i32_w]
    rfl
  refine pure_ (i := 6) (N := some 22) (v := ?_) (a' := ?_) #[true, true, true, true, true, true, true, false, false, false, false] rfl rfl (any_of HT_.out (by kernel_rfl)) (fun _ _ _ h => h) (Or.inl ⟨by rfl, ?_⟩) ?_ ?_
  rotate_left
  · intro w'
    go_simp
    with_reducible rfl
  rotate_left
  · simp only [Act.put, List.setIfInBounds_toArray, List.set_cons_zero, List.set_cons_succ, i64_w, i32_w]
    rfl
  refine pure_ (i := 7) (N := some 23) (v := ?_) (a' := ?_) #[true, true, true, true, true, true, true, true, false, false, false] rfl rfl (any_of HT_.out (by kernel_rfl)) (fun _ _ _ h => h) (Or.inl ⟨by rfl, ?_⟩) ?_ ?_
  rotate_left
  · intro w'
    go_simp
    with_reducible rfl
  rotate_left
  · simp only [Act.put, List.setIfInBounds_toArray, List.set_cons_zero, List.set_cons_succ, i64_w, i32_w]
    rfl
  refine pure_ (i := 8) (N := some 24) (v := ?_) (a' := ?_) #[true, true, true, true, true, true, true, true, true, false, false] rfl rfl (any_of HT_.out (by kernel_rfl)) (fun _ _ _ h => h) (Or.inl ⟨by rfl, ?_⟩) ?_ ?_
  rotate_left
  · intro w'
    go_simp
    with_reducible rfl
  rotate_left
  · simp only [Act.put, List.setIfInBounds_toArray, List.set_cons_zero, List.set_cons_succ, i64_w, i32_w]
    rfl
  refine last_ (i := 9) (N := none) #[true, true, true, true, true, true, true, true, true, true, false] rfl rfl (one_of HT_.out (by kernel_rfl)) (by decide) (fun K hK => ?_)
  have hs22 : w21.cell? ⟨gb159, 1, none⟩ = some (.int .u32 0) := (blk_cell BK159.out 1).trans rfl
  have hfs22 := blk_frozen BK159.out 1
  have hns22_0 := NB158_159.out
  have hms22_0 := NB159_158.out
  refine skip_ (w1 := ?_) (by rfl) rfl ?_ ?_
  rotate_left
  · go_simp
    rfl
  refine hK.out _ _ ?_
  clear hK K
  refine pure_ (i := 10) (N := some 4) (v := ?_) (a' := ?_) #[true, true, true, true, true, true, true, true, true, true, true] rfl rfl (any_of HT_.out (by kernel_rfl)) (fun _ _ _ h => h) (Or.inl ⟨by rfl, ?_⟩) ?_ ?_
  rotate_left
  · intro w'
    go_simp
    with_reducible rfl
  rotate_left
  · simp only [Act.put, List.setIfInBounds_toArray, List.set_cons_zero, List.set_cons_succ, i64_w, i32_w]
    rfl
  refine done_ (done_of HT_.out (by kernel_rfl)) ?_
  try go_wp2_with (first | ((with_reducible refine gate_callee (f := 40) rfl ?_); refine goesL_ (some 27) rfl rfl Try.func40 (by kernel_rfl) rfl #[.pointer (some ⟨g, 0, none⟩), .int .i64 t174] rfl (by (try simp only [List.map_toArray, List.map_cons, List.map_nil]); first | done | rfl | (simp only [List.length_drop, List.length_take]; rfl)) ?_; (with_reducible refine (policy_reader_must.calls g t170 t171 t172 t174 t175 t176 t177 w0 _ ?side1 ?side2 A7.out).mono ?_); (case side1 => repeat (first | (with_reducible first | exact HI0.out | apply IsS65.alloc | apply IsS65.drewN | apply IsS65.drew | apply IsS65.set_0 | apply IsS65.set_1 | apply IsS65.set_2 | refine IsS65.far ?_ NB0_158.out _ | refine IsS65.far ?_ NB0_159.out _) | exact HI0.out)); (case side2 => repeat (first | (with_reducible first | exact HB.out | apply below_alloc | apply pw_below_drewN | apply below_drew1 | refine below_set ?_ (IsS65.ge HI0.out) | refine below_set ?_ GE158.out | refine below_set ?_ GE159.out) | exact HB.out)); rintro e w23 ⟨rfl, hi, hb, hk⟩; refine ⟨_, rfl, ?_⟩; have n0_ := Aside0.mk (KeepBut.blk hk (g' := gb158) (o := .cells #[.int .u32 0, .int .u32 0, .slice none 0 0, .int .u32 0] 40 (0, 0)) (by (with_reducible repeat (first | refine blk_drewN ?_ _ | refine blk_drew ?_ | refine blk_alloc ?_ _)); refine blk_far ?_ NB158_159.out _; (with_reducible repeat (first | refine blk_drewN ?_ _ | refine blk_drew ?_ | refine blk_alloc ?_ _)); exact BK158.out) NB158_0.out (by simp)); have n1_ := Aside0.mk (KeepBut.blk hk (g' := gb159) (o := .cells #[.int .u32 t164, .int .u32 t173, .slice none 0 0, .int .u32 0] 40 (0, 0)) (by (with_reducible repeat (first | refine blk_drewN ?_ _ | refine blk_drew ?_ | refine blk_alloc ?_ _)); refine blk_put (cs := #[.int .u32 t164, .int .u32 0, .slice none 0 0, .int .u32 0]) ?_ 1 _ rfl; (with_reducible repeat (first | refine blk_drewN ?_ _ | refine blk_drew ?_ | refine blk_alloc ?_ _)); exact BK159.out) NB159_0.out (by simp)); have n2_ := Aside0.mk (KeepBut.trans (by repeat (first | (with_reducible first | exact HK.out | apply KeepBut.set_ | apply keep_drewN | apply keep_drew | apply keep_alloc | refine keep_far ?_ GW158.out _ | refine keep_far ?_ GW159.out _) | exact HK.out)) hk (.inl rfl)); have n3_ := Aside0.mk (hb); have n4_ := Aside0.mk (hi); clear BK158; clear BK159; clear HK; clear HB; clear HI0; have BK158 := n0_; have BK159 := n1_; have HK := n2_; have HB := n3_; have HI0 := n4_; clear n0_ n1_ n2_ n3_ n4_; (try clear hb); (try clear hb2); (try clear hk); (try clear hi)) | ((with_reducible refine gate_callee (f := 37) rfl ?_); refine goesL_ (some 30) rfl rfl Try.func37 (by kernel_rfl) rfl #[.pointer (some ⟨g, 0, none⟩)] rfl (by (try simp only [List.map_toArray, List.map_cons, List.map_nil]); first | done | rfl | (simp only [List.length_drop, List.length_take]; rfl)) ?_; (with_reducible refine (policy_reader_word.calls g t175 t176 t177 t178 t179 t180 t181 w0 _ ?side1 ?side2 A8.out).mono ?_); (case side1 => repeat (first | (with_reducible first | exact HI0.out | apply IsS65.alloc | apply IsS65.drewN | apply IsS65.drew | apply IsS65.set_0 | apply IsS65.set_1 | apply IsS65.set_2 | refine IsS65.far ?_ NB0_158.out _ | refine IsS65.far ?_ NB0_159.out _) | exact HI0.out)); (case side2 => repeat (first | (with_reducible first | exact HB.out | apply below_alloc | apply pw_below_drewN | apply below_drew1 | refine below_set ?_ (IsS65.ge HI0.out) | refine below_set ?_ GE158.out | refine below_set ?_ GE159.out) | exact HB.out)); rintro e w24 ⟨rfl, hi, hb, hk⟩; refine ⟨_, rfl, ?_⟩; have n0_ := Aside0.mk (KeepBut.blk hk (g' := gb158) (o := .cells #[.int .u32 0, .int .u32 0, .slice none 0 0, .int .u32 0] 40 (0, 0)) (by (with_reducible repeat (first | refine blk_drewN ?_ _ | refine blk_drew ?_ | refine blk_alloc ?_ _)); exact BK158.out) NB158_0.out (by simp)); have n1_ := Aside0.mk (KeepBut.blk hk (g' := gb159) (o := .cells #[.int .u32 t164, .int .u32 t173, .slice none 0 0, .int .u32 0] 40 (0, 0)) (by (with_reducible repeat (first | refine blk_drewN ?_ _ | refine blk_drew ?_ | refine blk_alloc ?_ _)); exact BK159.out) NB159_0.out (by simp)); have n2_ := Aside0.mk (KeepBut.trans (by repeat (first | (with_reducible first | exact HK.out | apply KeepBut.set_ | apply keep_drewN | apply keep_drew | apply keep_alloc | refine keep_far ?_ GW158.out _ | refine keep_far ?_ GW159.out _) | exact HK.out)) hk (.inl rfl)); have n3_ := Aside0.mk (hb); have n4_ := Aside0.mk (hi); clear BK158; clear BK159; clear HK; clear HB; clear HI0; have BK158 := n0_; have BK159 := n1_; have HK := n2_; have HB := n3_; have HI0 := n4_; clear n0_ n1_ n2_ n3_ n4_; (try clear hb); (try clear hb2); (try clear hk); (try clear hi)) | ((with_reducible refine gate_callee (f := 39) rfl ?_); refine goesL_ (some 31) rfl rfl Try.func39 (by kernel_rfl) rfl #[.string t178] rfl (by (try simp only [List.map_toArray, List.map_cons, List.map_nil]); first | done | rfl | (simp only [List.length_drop, List.length_take]; rfl)) ?_; (with_reducible refine (names_ReadAction.calls t178 t182 t183 _ A9.out).mono ?_); rintro e w25 ⟨rfl, hb⟩; refine ⟨_, rfl, ?_⟩; have n0_ := Aside0.mk (IsS65.below (by repeat (first | (with_reducible first | exact HI0.out | apply IsS65.alloc | apply IsS65.drewN | apply IsS65.drew | apply IsS65.set_0 | apply IsS65.set_1 | apply IsS65.set_2 | refine IsS65.far ?_ NB0_158.out _ | refine IsS65.far ?_ NB0_159.out _) | exact HI0.out)) hb); have n1_ := Aside0.mk (blk_below (g := gb158) (o := .cells #[.int .u32 0, .int .u32 0, .slice none 0 0, .int .u32 0] 40 (0, 0)) (by (with_reducible repeat (first | refine blk_drewN ?_ _ | refine blk_drew ?_ | refine blk_alloc ?_ _)); exact BK158.out) hb); have n2_ := Aside0.mk (blk_below (g := gb159) (o := .cells #[.int .u32 t164, .int .u32 t173, .slice none 0 0, .int .u32 0] 40 (0, 0)) (by (with_reducible repeat (first | refine blk_drewN ?_ _ | refine blk_drew ?_ | refine blk_alloc ?_ _)); exact BK159.out) hb); have n3_ := Aside0.mk (KeepBut.trans (by repeat (first | (with_reducible first | exact HK.out | apply KeepBut.set_ | apply keep_drewN | apply keep_drew | apply keep_alloc | refine keep_far ?_ GW158.out _ | refine keep_far ?_ GW159.out _) | exact HK.out)) (KeepBut.of_below hb g none) (.inl rfl)); have n4_ := Aside0.mk (below_step (by repeat (first | (with_reducible first | exact HB.out | apply below_alloc | apply pw_below_drewN | apply below_drew1 | refine below_set ?_ (IsS65.ge HI0.out) | refine below_set ?_ GE158.out | refine below_set ?_ GE159.out) | exact HB.out)) hb); clear HI0; clear BK158; clear BK159; clear HK; clear HB; have HI0 := n0_; have BK158 := n1_; have BK159 := n2_; have HK := n3_; have HB := n4_; clear n0_ n1_ n2_ n3_ n4_; (try clear hb); (try clear hb2); (try clear hk); (try clear hi); have hcz26_0 : w25.cell? ⟨gb159, 0, none⟩ = some (.int .u32 t164) := (blk_cell BK159.out 0).trans rfl; have hcz26_1 : w25.cell? ⟨gb159, 1, none⟩ = some (.int .u32 t173) := (blk_cell BK159.out 1).trans rfl; have hcz26_2 : w25.cell? ⟨gb159, 2, none⟩ = some (.slice none 0 0) := (blk_cell BK159.out 2).trans rfl; have hcz26_3 : w25.cell? ⟨gb159, 3, none⟩ = some (.int .u32 0) := (blk_cell BK159.out 3).trans rfl; have hfz26_0 := blk_frozen BK159.out 0; have hfz26_1 := blk_frozen BK159.out 1; have hfz26_2 := blk_frozen BK159.out 2; have hfz26_3 := blk_frozen BK159.out 3) | ((with_reducible refine gate_callee (f := 40) rfl ?_); refine goesL_ (some 37) rfl rfl Try.func40 (by kernel_rfl) rfl #[.pointer (some ⟨g, 0, none⟩), .int .i64 t183] rfl (by (try simp only [List.map_toArray, List.map_cons, List.map_nil]); first | done | rfl | (simp only [List.length_drop, List.length_take]; rfl)) ?_; (with_reducible refine (policy_reader_must.calls g t179 t180 t181 t183 t184 t185 t186 w0 _ ?side1 ?side2 A10.out).mono ?_); (case side1 => repeat (first | (with_reducible first | exact HI0.out | apply IsS65.alloc | apply IsS65.drewN | apply IsS65.drew | apply IsS65.set_0 | apply IsS65.set_1 | apply IsS65.set_2 | refine IsS65.far ?_ NB0_158.out _ | refine IsS65.far ?_ NB0_159.out _) | exact HI0.out)); (case side2 => repeat (first | (with_reducible first | exact HB.out | apply below_alloc | apply pw_below_drewN | apply below_drew1 | refine below_set ?_ (IsS65.ge HI0.out) | refine below_set ?_ GE158.out | refine below_set ?_ GE159.out) | exact HB.out)); rintro e w27 ⟨rfl, hi, hb, hk⟩; refine ⟨_, rfl, ?_⟩; have n0_ := Aside0.mk (KeepBut.blk hk (g' := gb158) (o := .cells #[.int .u32 0, .int .u32 0, .slice none 0 0, .int .u32 0] 40 (0, 0)) (by (with_reducible repeat (first | refine blk_drewN ?_ _ | refine blk_drew ?_ | refine blk_alloc ?_ _)); refine blk_far ?_ NB158_159.out _; (with_reducible repeat (first | refine blk_drewN ?_ _ | refine blk_drew ?_ | refine blk_alloc ?_ _)); exact BK158.out) NB158_0.out (by simp)); have n1_ := Aside0.mk (KeepBut.blk hk (g' := gb159) (o := .cells #[.int .u32 t164, .int .u32 t173, .slice none 0 0, .int .u32 t182] 40 (0, 0)) (by (with_reducible repeat (first | refine blk_drewN ?_ _ | refine blk_drew ?_ | refine blk_alloc ?_ _)); refine blk_put (cs := #[.int .u32 t164, .int .u32 t173, .slice none 0 0, .int .u32 0]) ?_ 3 _ rfl; (with_reducible repeat (first | refine blk_drewN ?_ _ | refine blk_drew ?_ | refine blk_alloc ?_ _)); exact BK159.out) NB159_0.out (by simp)); have n2_ := Aside0.mk (KeepBut.trans (by repeat (first | (with_reducible first | exact HK.out | apply KeepBut.set_ | apply keep_drewN | apply keep_drew | apply keep_alloc | refine keep_far ?_ GW158.out _ | refine keep_far ?_ GW159.out _) | exact HK.out)) hk (.inl rfl)); have n3_ := Aside0.mk (hb); have n4_ := Aside0.mk (hi); clear BK158; clear BK159; clear HK; clear HB; clear HI0; have BK158 := n0_; have BK159 := n1_; have HK := n2_; have HB := n3_; have HI0 := n4_; clear n0_ n1_ n2_ n3_ n4_; (try clear hb); (try clear hb2); (try clear hk); (try clear hi)))
  go_loopg [5] k (fun kq v5 w' => ∃ (x5_1 : ByteArray) (x1000_1 : ByteArray) (x1001_1 : Bool) (x1002_1 : Bool) (x160002_1 : List (S61)) (u160002 : Value), v5 = .string x5_1 ∧ Aside0 (policy_reader_rest.l0 kq x5_1 x1000_1 x1001_1 x1002_1 t164 t173 x160002_1 t182 = some (r1, r2, r3, r4, r5, r6, r7)) ∧ Aside0 (kq ≤ k) ∧ Aside0 (Kd.R k61 61 w' w.heap.size (fun _ => True) u160002 x160002_1) ∧ Aside0 (w'.heap[gb158]? = some (.cells #[.int .u32 0, .int .u32 0, (.slice none 0 0), .int .u32 0] 40 (0, 0))) ∧ Aside0 (w'.heap[gb159]? = some (.cells #[.int .u32 t164, .int .u32 t173, u160002, .int .u32 t182] 40 (0, 0))) ∧ Aside0 (IsS65 w0 w' g x1000_1 x1001_1 x1002_1) ∧ Aside0 (KeepBut w w' g none) ∧ Aside0 (Below w0.heap.size w0 w'))
  case atStart => exact ⟨((⟨#[105, 102]⟩ : ByteArray)), (t184), (t185), (t186), (([] : List (S61))), (.slice none 0 0), (by first | rfl | (simp; done) | (simp [*]; done)), H', ⟨Nat.le_refl _⟩, ⟨by first | exact Kd.R_nil _ _ _ _ _ | exact Kd.N_nil _ _ _ _ _ | exact Kd.V_nil _ _ _ _ _ | exact Kd.Q_nil _ _ _ _ _ | exact Kd.S_nil _ _ _ _ _⟩, ⟨by (with_reducible repeat (first | refine blk_drewN ?_ _ | refine blk_drew ?_ | refine blk_alloc ?_ _)); exact BK158.out⟩, ⟨by (with_reducible repeat (first | refine blk_drewN ?_ _ | refine blk_drew ?_ | refine blk_alloc ?_ _)); exact BK159.out⟩, ⟨by repeat (first | (with_reducible first | exact HI0.out | apply IsS65.alloc | apply IsS65.drewN | apply IsS65.drew | apply IsS65.set_0 | apply IsS65.set_1 | apply IsS65.set_2 | refine IsS65.far ?_ NB0_158.out _ | refine IsS65.far ?_ NB0_159.out _) | exact HI0.out)⟩, ⟨by repeat (first | (with_reducible first | exact HK.out | apply KeepBut.set_ | apply keep_drewN | apply keep_drew | apply keep_alloc | refine keep_far ?_ GW158.out _ | refine keep_far ?_ GW159.out _) | exact HK.out)⟩, ⟨by repeat (first | (with_reducible first | exact HB.out | apply below_alloc | apply pw_below_drewN | apply below_drew1 | refine below_set ?_ (IsS65.ge HI0.out) | refine below_set ?_ GE158.out | refine below_set ?_ GE159.out) | exact HB.out)⟩⟩
  case round =>
    clear H'
    try clear c1
    try clear p2
    try clear c3
    try clear c4
    try clear c5
    try clear c6
    try clear c15
    try clear c16
    try clear hcz17_0
    try clear hcz17_1
    try clear hcz17_2
    try clear hcz17_3
    try clear hcz26_0
    try clear hcz26_1
    try clear hcz26_2
    try clear hcz26_3
    try clear hfz17_0
    try clear hfz17_1
    try clear hfz17_2
    try clear hfz17_3
    try clear hfz26_0
    try clear hfz26_1
    try clear hfz26_2
    try clear hfz26_3
    obtain ⟨x5_1, x1000_1, x1001_1, x1002_1, x160002_1, u160002, rfl, HA, HK1, HO_160002, BK158, BK159, HI0, HK, HB⟩ := hrel
    cases gk with
    | zero => exact absurd HA.out (by simp [policy_reader_rest.l0])
    | succ k1 =>
      have H := HA.out
      clear HA
      simp only [policy_reader_rest.l0] at H
      have HC28 := Aside0.mk H
      clear H
      go_upto_region 10 with (fail)
      go_cut [49] (fun v49 wc => ∃ (kq : Nat) (x49_27 : Bool), v49 = .bool x49_27 ∧ Aside0 (policy_reader_rest.j1 kq x5_1 x49_27 x1000_1 x1001_1 x1002_1 t164 t173 x160002_1 t182 = some (r1, r2, r3, r4, r5, r6, r7)) ∧ Aside0 (kq ≤ k1) ∧ Aside0 (Kd.R k61 61 wc w.heap.size (fun _ => True) u160002 x160002_1) ∧ Aside0 (wc.heap[gb158]? = some (.cells #[.int .u32 0, .int .u32 0, (.slice none 0 0), .int .u32 0] 40 (0, 0))) ∧ Aside0 (wc.heap[gb159]? = some (.cells #[.int .u32 t164, .int .u32 t173, u160002, .int .u32 t182] 40 (0, 0))) ∧ Aside0 (IsS65 w0 wc g x1000_1 x1001_1 x1002_1) ∧ Aside0 (KeepBut w wc g none) ∧ Aside0 (Below w0.heap.size w0 wc))
      case first =>
        have H := HC28.out
        clear HC28
        by_cases c29 : x1001_1 = true
        · subst c29
          have H1 : (policy_reader_rest.j1 k1 x5_1 false x1000_1 true x1002_1 t164 t173 x160002_1 t182) = some (r1, r2, r3, r4, r5, r6, r7) := by rw [if_pos rfl] at H; exact H
          clear H
          have H := H1
          clear H1
          have H' := Aside0.mk H
          clear H
          obtain ⟨HGz30, hgz30⟩ := HI0.out
          have hcz30_0 := cellS65_0 HGz30
          have hcz30_1 := cellS65_1 HGz30
          have hcz30_2 := cellS65_2 HGz30
          have hfz30_0 := blk_frozen HGz30 0
          have hfz30_1 := blk_frozen HGz30 1
          have hfz30_2 := blk_frozen HGz30 2
          clear HGz30 hgz30
          go_wp2
          go_meet
          case rel => exact ⟨_, (false), (by first | rfl | (simp; done) | (simp [*]; done)), H', ⟨by have := HK1.out; first | omega | exact Nat.le_refl _⟩, ⟨by (with_reducible repeat (first | apply Kd.R_alloc | apply Kd.R_drewN | apply Kd.R_drew)); exact HO_160002.out⟩, ⟨by (with_reducible repeat (first | refine blk_drewN ?_ _ | refine blk_drew ?_ | refine blk_alloc ?_ _)); exact BK158.out⟩, ⟨by (with_reducible repeat (first | refine blk_drewN ?_ _ | refine blk_drew ?_ | refine blk_alloc ?_ _)); exact BK159.out⟩, ⟨by repeat (first | (with_reducible first | exact HI0.out | apply IsS65.alloc | apply IsS65.drewN | apply IsS65.drew | apply IsS65.set_0 | apply IsS65.set_1 | apply IsS65.set_2 | refine IsS65.far ?_ NB0_158.out _ | refine IsS65.far ?_ NB0_159.out _) | exact HI0.out)⟩, ⟨by repeat (first | (with_reducible first | exact HK.out | apply KeepBut.set_ | apply keep_drewN | apply keep_drew | apply keep_alloc | refine keep_far ?_ GW158.out _ | refine keep_far ?_ GW159.out _) | exact HK.out)⟩, ⟨by repeat (first | (with_reducible first | exact HB.out | apply below_alloc | apply pw_below_drewN | apply below_drew1 | refine below_set ?_ (IsS65.ge HI0.out) | refine below_set ?_ GE158.out | refine below_set ?_ GE159.out) | exact HB.out)⟩⟩
        · replace c29 := Bool.eq_false_iff.mpr c29
          subst c29
          have H1 : (policy_reader_rest.j1 k1 x5_1 (!x1002_1) x1000_1 false x1002_1 t164 t173 x160002_1 t182) = some (r1, r2, r3, r4, r5, r6, r7) := by rw [if_neg (show ¬ (false = true) by decide)] at H; exact H
          clear H
          have H := H1
          clear H1
          have H' := Aside0.mk H
          clear H
          obtain ⟨HGz31, hgz31⟩ := HI0.out
          have hcz31_0 := cellS65_0 HGz31
          have hcz31_1 := cellS65_1 HGz31
          have hcz31_2 := cellS65_2 HGz31
          have hfz31_0 := blk_frozen HGz31 0
          have hfz31_1 := blk_frozen HGz31 1
          have hfz31_2 := blk_frozen HGz31 2
          clear HGz31 hgz31
          go_wp2
          go_meet
          case rel => exact ⟨_, (!x1002_1), (by first | rfl | (simp; done) | (simp [*]; done)), H', ⟨by have := HK1.out; first | omega | exact Nat.le_refl _⟩, ⟨by (with_reducible repeat (first | apply Kd.R_alloc | apply Kd.R_drewN | apply Kd.R_drew)); exact HO_160002.out⟩, ⟨by (with_reducible repeat (first | refine blk_drewN ?_ _ | refine blk_drew ?_ | refine blk_alloc ?_ _)); exact BK158.out⟩, ⟨by (with_reducible repeat (first | refine blk_drewN ?_ _ | refine blk_drew ?_ | refine blk_alloc ?_ _)); exact BK159.out⟩, ⟨by repeat (first | (with_reducible first | exact HI0.out | apply IsS65.alloc | apply IsS65.drewN | apply IsS65.drew | apply IsS65.set_0 | apply IsS65.set_1 | apply IsS65.set_2 | refine IsS65.far ?_ NB0_158.out _ | refine IsS65.far ?_ NB0_159.out _) | exact HI0.out)⟩, ⟨by repeat (first | (with_reducible first | exact HK.out | apply KeepBut.set_ | apply keep_drewN | apply keep_drew | apply keep_alloc | refine keep_far ?_ GW158.out _ | refine keep_far ?_ GW159.out _) | exact HK.out)⟩, ⟨by repeat (first | (with_reducible first | exact HB.out | apply below_alloc | apply pw_below_drewN | apply below_drew1 | refine below_set ?_ (IsS65.ge HI0.out) | refine below_set ?_ GE158.out | refine below_set ?_ GE159.out) | exact HB.out)⟩⟩
      case rest =>
        clear HC28
        try clear c1
        try clear c2
        try clear p2
        try clear c3
        try clear c4
        try clear c5
        try clear c6
        try clear c15
        try clear c16
        try clear c29
        try clear hcz17_0
        try clear hcz17_1
        try clear hcz17_2
        try clear hcz17_3
        try clear hcz26_0
        try clear hcz26_1
        try clear hcz26_2
        try clear hcz26_3
        try clear hcz30_0
        try clear hcz30_1
        try clear hcz30_2
        try clear hcz31_0
        try clear hcz31_1
        try clear hcz31_2
        try clear hfz17_0
        try clear hfz17_1
        try clear hfz17_2
        try clear hfz17_3
        try clear hfz26_0
        try clear hfz26_1
        try clear hfz26_2
        try clear hfz26_3
        try clear hfz30_0
        try clear hfz30_1
        try clear hfz30_2
        try clear hfz31_0
        try clear hfz31_1
        try clear hfz31_2
        try clear p2
        obtain ⟨kq, x49_27, rfl, HA, HJ27, HO_160002, BK158, BK159, HI0, HK, HB⟩ := hcut
        cases kq with
        | zero => exact absurd HA.out (by simp [policy_reader_rest.j1])
        | succ kj27 =>
          have H := HA.out
          clear HA
          simp only [policy_reader_rest.j1] at H
          by_cases c32 : x49_27 = true
          · subst c32
            have H1 : ((policy_reader_word.f x1000_1 x1001_1 x1002_1).bind fun bt187 => (if bt187.1.toList = x5_1.toList then ((policy_reader_condition.f bt187.2.1 bt187.2.2.1 bt187.2.2.2).bind fun bt191 => (if x160002_1.length < 4398046511104 then (policy_reader_rest.l0 kj27 (⟨#[97, 110, 100]⟩ : ByteArray) bt191.2.2.2.2.1 bt191.2.2.2.2.2.1 bt191.2.2.2.2.2.2 t164 t173 (x160002_1 ++ [(⟨bt191.1, bt191.2.1, bt191.2.2.1, bt191.2.2.2.1⟩ : S61)]) t182) else (none))) else ((policy_reader_condition.f bt187.2.1 bt187.2.2.1 true).bind fun bt201 => (if x160002_1.length < 4398046511104 then (policy_reader_rest.l0 kj27 (⟨#[97, 110, 100]⟩ : ByteArray) bt201.2.2.2.2.1 bt201.2.2.2.2.2.1 bt201.2.2.2.2.2.2 t164 t173 (x160002_1 ++ [(⟨bt201.1, bt201.2.1, bt201.2.2.1, bt201.2.2.2.1⟩ : S61)]) t182) else (none))))) = some (r1, r2, r3, r4, r5, r6, r7) := by rw [if_pos rfl] at H; exact H
            clear H
            have H := H1
            clear H1
            replace H := Option.bind_eq_some_iff.mp H
            obtain ⟨⟨t187, t188, t189, t190⟩, A330, H⟩ := H
            replace H : (if t187.toList = x5_1.toList then ((policy_reader_condition.f t188 t189 t190).bind fun bt191 => (if x160002_1.length < 4398046511104 then (policy_reader_rest.l0 kj27 (⟨#[97, 110, 100]⟩ : ByteArray) bt191.2.2.2.2.1 bt191.2.2.2.2.2.1 bt191.2.2.2.2.2.2 t164 t173 (x160002_1 ++ [(⟨bt191.1, bt191.2.1, bt191.2.2.1, bt191.2.2.2.1⟩ : S61)]) t182) else (none))) else ((policy_reader_condition.f t188 t189 true).bind fun bt201 => (if x160002_1.length < 4398046511104 then (policy_reader_rest.l0 kj27 (⟨#[97, 110, 100]⟩ : ByteArray) bt201.2.2.2.2.1 bt201.2.2.2.2.2.1 bt201.2.2.2.2.2.2 t164 t173 (x160002_1 ++ [(⟨bt201.1, bt201.2.1, bt201.2.2.1, bt201.2.2.2.1⟩ : S61)]) t182) else (none)))) = some (r1, r2, r3, r4, r5, r6, r7) := H
            have A33 := Aside0.mk A330
            clear A330
            by_cases c34 : t187.toList = x5_1.toList
            · rw [if_pos c34] at H
              have c34b0 : (t187.toList == x5_1.toList) = true := beq_iff_eq.mpr c34
              have c34b1 : (t187.toList != x5_1.toList) = false := bne_eq_false_iff_eq.mpr c34
              clear c34
              replace H := Option.bind_eq_some_iff.mp H
              obtain ⟨⟨t191, t192, t193, t194, t195, t196, t197⟩, A350, H⟩ := H
              replace H : (if x160002_1.length < 4398046511104 then (policy_reader_rest.l0 kj27 (⟨#[97, 110, 100]⟩ : ByteArray) t195 t196 t197 t164 t173 (x160002_1 ++ [(⟨t191, t192, t193, t194⟩ : S61)]) t182) else (none)) = some (r1, r2, r3, r4, r5, r6, r7) := H
              have A35 := Aside0.mk A350
              clear A350
              by_cases c36 : x160002_1.length < 4398046511104
              · rw [if_pos c36] at H
                have LMc36 := Aside0.mk c36
                clear c36
                obtain ⟨y198, hy198⟩ : ∃ y_ : List (S61), y_ = (x160002_1 ++ [(⟨t191, t192, t193, t194⟩ : S61)]) := ⟨_, rfl⟩
                replace H : (policy_reader_rest.l0 kj27 (⟨#[97, 110, 100]⟩ : ByteArray) t195 t196 t197 t164 t173 y198 t182) = some (r1, r2, r3, r4, r5, r6, r7) := by first | (rw [hy198]; with_reducible exact H) | (have H2_ := (Option.bind_some _ _).symm.trans H; rw [hy198]; with_reducible exact H2_) | (have H2_ := (Option.bind_some _ _).symm.trans H; with_reducible exact H2_) | with_reducible exact H | (rw [hy198]; exact H) | exact H
                have Ny198 := Aside0.mk hy198
                clear hy198
                have H' := Aside0.mk H
                clear H
                try go_wp2_with (first | ((with_reducible refine gate_callee (f := 37) rfl ?_); refine goesL_ (some 52) rfl rfl Try.func37 (by kernel_rfl) rfl #[.pointer (some ⟨g, 0, none⟩)] rfl (by (try simp only [List.map_toArray, List.map_cons, List.map_nil]); first | done | rfl | (simp only [List.length_drop, List.length_take]; rfl)) ?_; (with_reducible refine (policy_reader_word.calls g x1000_1 x1001_1 x1002_1 t187 t188 t189 t190 w0 _ ?side1 ?side2 A33.out).mono ?_); (case side1 => repeat (first | (with_reducible first | exact HI0.out | apply IsS65.alloc | apply IsS65.drewN | apply IsS65.drew | apply IsS65.set_0 | apply IsS65.set_1 | apply IsS65.set_2 | refine IsS65.far ?_ NB0_158.out _ | refine IsS65.far ?_ NB0_159.out _) | exact HI0.out)); (case side2 => repeat (first | (with_reducible first | exact HB.out | apply below_alloc | apply pw_below_drewN | apply below_drew1 | refine below_set ?_ (IsS65.ge HI0.out) | refine below_set ?_ GE158.out | refine below_set ?_ GE159.out) | exact HB.out)); rintro e w37 ⟨rfl, hi, hb, hk⟩; refine ⟨_, rfl, ?_⟩; have n0_ := Aside0.mk (Kd.R_mono (Kd.R_keep (IsS65.apart (show IsS65 w0 _ g x1000_1 x1001_1 x1002_1 from by repeat (first | (with_reducible first | exact HI0.out | apply IsS65.alloc | apply IsS65.drewN | apply IsS65.drew | apply IsS65.set_0 | apply IsS65.set_1 | apply IsS65.set_2 | refine IsS65.far ?_ NB0_158.out _ | refine IsS65.far ?_ NB0_159.out _) | exact HI0.out)) (by (with_reducible repeat (first | apply Kd.R_alloc | apply Kd.R_drewN | apply Kd.R_drew)); exact HO_160002.out) (by decide)) hk (fun _ h => h.2)) (fun _ h => h.1)); have n1_ := Aside0.mk (KeepBut.blk hk (g' := gb158) (o := .cells #[.int .u32 0, .int .u32 0, .slice none 0 0, .int .u32 0] 40 (0, 0)) (by (with_reducible repeat (first | refine blk_drewN ?_ _ | refine blk_drew ?_ | refine blk_alloc ?_ _)); exact BK158.out) NB158_0.out (by simp)); have n2_ := Aside0.mk (KeepBut.blk hk (g' := gb159) (o := .cells #[.int .u32 t164, .int .u32 t173, u160002, .int .u32 t182] 40 (0, 0)) (by (with_reducible repeat (first | refine blk_drewN ?_ _ | refine blk_drew ?_ | refine blk_alloc ?_ _)); exact BK159.out) NB159_0.out (by simp)); have n3_ := Aside0.mk (KeepBut.trans (by repeat (first | (with_reducible first | exact HK.out | apply KeepBut.set_ | apply keep_drewN | apply keep_drew | apply keep_alloc | refine keep_far ?_ GW158.out _ | refine keep_far ?_ GW159.out _) | exact HK.out)) hk (.inl rfl)); have n4_ := Aside0.mk (hb); have n5_ := Aside0.mk (hi); clear HO_160002; clear BK158; clear BK159; clear HK; clear HB; clear HI0; have HO_160002 := n0_; have BK158 := n1_; have BK159 := n2_; have HK := n3_; have HB := n4_; have HI0 := n5_; clear n0_ n1_ n2_ n3_ n4_ n5_; (try clear hb); (try clear hb2); (try clear hk); (try clear hi); obtain ⟨HGz38, hgz38⟩ := HI0.out; have hcz38_0 := cellS65_0 HGz38; have hcz38_1 := cellS65_1 HGz38; have hcz38_2 := cellS65_2 HGz38; have hfz38_0 := blk_frozen HGz38 0; have hfz38_1 := blk_frozen HGz38 1; have hfz38_2 := blk_frozen HGz38 2; clear HGz38 hgz38))
                have n0_ : Aside0 (Kd.R k61 61 (w37.setCell ⟨g, 2, none⟩ (.bool t190)) w.heap.size (fun _ => True) u160002 x160002_1) := ⟨by (with_reducible repeat (first | apply Kd.R_alloc | apply Kd.R_drewN | apply Kd.R_drew)); exact Kd.R_mono (Kd.R_far (p := ⟨g, 2, none⟩) (IsS65.apart HI0.out HO_160002.out (by decide)) (fun _ hk => hk.2) (.bool t190)) (fun _ hk => trivial)⟩
                have n1_ : Aside0 ((w37.setCell ⟨g, 2, none⟩ (.bool t190)).heap[gb158]? = some (.cells #[.int .u32 0, .int .u32 0, .slice none 0 0, .int .u32 0] 40 (0, 0))) := ⟨by (with_reducible repeat (first | refine blk_drewN ?_ _ | refine blk_drew ?_ | refine blk_alloc ?_ _)); refine blk_far ?_ NB158_0.out _; (with_reducible repeat (first | refine blk_drewN ?_ _ | refine blk_drew ?_ | refine blk_alloc ?_ _)); exact BK158.out⟩
                have n2_ : Aside0 ((w37.setCell ⟨g, 2, none⟩ (.bool t190)).heap[gb159]? = some (.cells #[.int .u32 t164, .int .u32 t173, u160002, .int .u32 t182] 40 (0, 0))) := ⟨by (with_reducible repeat (first | refine blk_drewN ?_ _ | refine blk_drew ?_ | refine blk_alloc ?_ _)); refine blk_far ?_ NB159_0.out _; (with_reducible repeat (first | refine blk_drewN ?_ _ | refine blk_drew ?_ | refine blk_alloc ?_ _)); exact BK159.out⟩
                have n3_ : Aside0 (IsS65 w0 (w37.setCell ⟨g, 2, none⟩ (.bool t190)) g t188 t189 t190) := ⟨by repeat (first | (with_reducible first | exact HI0.out | apply IsS65.alloc | apply IsS65.drewN | apply IsS65.drew | apply IsS65.set_0 | apply IsS65.set_1 | apply IsS65.set_2 | refine IsS65.far ?_ NB0_158.out _ | refine IsS65.far ?_ NB0_159.out _) | exact HI0.out)⟩
                have n4_ : Aside0 (KeepBut w (w37.setCell ⟨g, 2, none⟩ (.bool t190)) g none) := ⟨by repeat (first | (with_reducible first | exact HK.out | apply KeepBut.set_ | apply keep_drewN | apply keep_drew | apply keep_alloc | refine keep_far ?_ GW158.out _ | refine keep_far ?_ GW159.out _) | exact HK.out)⟩
                have n5_ : Aside0 (Below w0.heap.size w0 (w37.setCell ⟨g, 2, none⟩ (.bool t190))) := ⟨by repeat (first | (with_reducible first | exact HB.out | apply below_alloc | apply pw_below_drewN | apply below_drew1 | refine below_set ?_ (IsS65.ge HI0.out) | refine below_set ?_ GE158.out | refine below_set ?_ GE159.out) | exact HB.out)⟩
                (try clear HO_160002)
                (try clear BK158)
                (try clear BK159)
                (try clear HI0)
                (try clear HK)
                (try clear HB)
                generalize (w37.setCell ⟨g, 2, none⟩ (.bool t190)) = w39 at n0_ n1_ n2_ n3_ n4_ n5_ ⊢
                have HO_160002 := n0_
                have BK158 := n1_
                have BK159 := n2_
                have HI0 := n3_
                have HK := n4_
                have HB := n5_
                clear n0_ n1_ n2_ n3_ n4_ n5_
                have n0_ := Aside0.mk (Kd.R_drew HO_160002.out)
                have n1_ := Aside0.mk (blk_drew BK158.out)
                have n2_ := Aside0.mk (blk_drew BK159.out)
                have n3_ := Aside0.mk (IsS65.drew HI0.out)
                have n4_ := Aside0.mk (keep_drew HK.out)
                have n5_ := Aside0.mk (below_drew1 HB.out)
                clear HO_160002
                clear BK158
                clear BK159
                clear HI0
                clear HK
                clear HB
                have HO_160002 := n0_
                have BK158 := n1_
                have BK159 := n2_
                have HI0 := n3_
                have HK := n4_
                have HB := n5_
                clear n0_ n1_ n2_ n3_ n4_ n5_
                refine start_ (n := 8) (S := fun w' => w'.cell? ⟨gb159, 0, none⟩ = some (.int .u32 t164) ∧ w'.cell? ⟨gb159, 1, none⟩ = some (.int .u32 t173) ∧ w'.cell? ⟨gb159, 2, none⟩ = some (u160002) ∧ w'.cell? ⟨gb159, 3, none⟩ = some (.int .u32 t182)) (ds := [7]) #[false, false, false, false, false, false, false, false] (by kernel_rfl) rfl rfl ⟨(blk_cell BK159.out 0).trans rfl, (blk_cell BK159.out 1).trans rfl, (blk_cell BK159.out 2).trans rfl, (blk_cell BK159.out 3).trans rfl⟩ (fun hHeld => ?_); refine with_tabW policy_reader_rest.tab13 policy_reader_rest.bits13 (fun HT_ HW_ => ?_)
                generalize w39.drew = w40 at HO_160002 BK158 BK159 HI0 HK HB hHeld ⊢
                refine pure_ (i := 0) (N := some 63) (v := ?_) (a' := ?_) #[true, false, false, false, false, false, false, false] rfl rfl (any_of HT_.out (by kernel_rfl)) (fun _ _ _ h => h) (Or.inl ⟨by rfl, ?_⟩) ?_ ?_
                rotate_left
                · intro w'
                  go_simp
                  with_reducible rfl
                rotate_left
                · simp only [Act.put, List.setIfInBounds_toArray, List.set_cons_zero, List.set_cons_succ, i64_w, i32_w]
                  rfl
                refine pure_ (i := 2) (N := some 65) (v := ?_) (a' := ?_) #[true, false, true, false, false, false, false, false] rfl rfl (any_of HT_.out (by kernel_rfl)) (fun _ _ _ h => h) (Or.inl ⟨by rfl, ?_⟩) ?_ ?_
                rotate_left
                · intro w'
                  go_simp
                  with_reducible rfl
                rotate_left
                · simp only [Act.put, List.setIfInBounds_toArray, List.set_cons_zero, List.set_cons_succ, i64_w, i32_w]
                  rfl
                refine take_ (i := 1) (N := some 64) (v := ?_) (a' := ?_) #[true, true, true, false, false, false, false, false] rfl rfl (take_ofW HT_.out HW_.out (by kernel_rfl)) (fun _ _ _ h => h) (Or.inl ⟨by rfl, ?_⟩) hHeld ?_ ?_
                rotate_left
                · rintro w' ⟨s0, s1, s2, s3⟩
                  go_simp
                  with_reducible rfl
                rotate_left
                · simp only [Act.put, List.setIfInBounds_toArray, List.set_cons_zero, List.set_cons_succ, i64_w, i32_w]
                  rfl
                refine one_ (i := 3) (N := some 66) #[true, true, true, true, false, false, false, false] rfl rfl (one_of HT_.out (by kernel_rfl)) (by decide) (fun K hK => ?_)
                refine goes_ Try.func61 (by kernel_rfl) rfl #[.pointer (some ⟨g, 0, none⟩)] (by rfl) rfl rfl (by (try simp only [List.map_toArray, List.map_cons, List.map_nil]); first | done | rfl | (simp only [List.length_drop, List.length_take]; rfl)) ?_
                with_reducible refine (policy_reader_condition.calls g t188 t189 t190 t191 t192 t193 t194 t195 t196 t197 w0 _ ?side1 ?side2 A35.out).mono ?_
                (case side1 => repeat (first | (with_reducible first | exact HI0.out | apply IsS65.alloc | apply IsS65.drewN | apply IsS65.drew | apply IsS65.set_0 | apply IsS65.set_1 | apply IsS65.set_2 | refine IsS65.far ?_ NB0_158.out _ | refine IsS65.far ?_ NB0_159.out _) | exact HI0.out))
                (case side2 => repeat (first | (with_reducible first | exact HB.out | apply below_alloc | apply pw_below_drewN | apply below_drew1 | refine below_set ?_ (IsS65.ge HI0.out) | refine below_set ?_ GE158.out | refine below_set ?_ GE159.out) | exact HB.out))
                rintro e w41 ⟨rfl, hi, hb, hk⟩
                refine ⟨_, rfl, ?_⟩
                have n0_ := Aside0.mk (Kd.R_mono (Kd.R_keep (IsS65.apart (show IsS65 w0 _ g t188 t189 t190 from by repeat (first | (with_reducible first | exact HI0.out | apply IsS65.alloc | apply IsS65.drewN | apply IsS65.drew | apply IsS65.set_0 | apply IsS65.set_1 | apply IsS65.set_2 | refine IsS65.far ?_ NB0_158.out _ | refine IsS65.far ?_ NB0_159.out _) | exact HI0.out)) (by (with_reducible repeat (first | apply Kd.R_alloc | apply Kd.R_drewN | apply Kd.R_drew)); exact HO_160002.out) (by decide)) hk (fun _ h => h.2)) (fun _ h => h.1))
                have n1_ := Aside0.mk (KeepBut.blk hk (g' := gb158) (o := .cells #[.int .u32 0, .int .u32 0, .slice none 0 0, .int .u32 0] 40 (0, 0)) (by (with_reducible repeat (first | refine blk_drewN ?_ _ | refine blk_drew ?_ | refine blk_alloc ?_ _)); exact BK158.out) NB158_0.out (by simp))
                have n2_ := Aside0.mk (KeepBut.blk hk (g' := gb159) (o := .cells #[.int .u32 t164, .int .u32 t173, u160002, .int .u32 t182] 40 (0, 0)) (by (with_reducible repeat (first | refine blk_drewN ?_ _ | refine blk_drew ?_ | refine blk_alloc ?_ _)); exact BK159.out) NB159_0.out (by simp))
                have n3_ := Aside0.mk (KeepBut.trans (by repeat (first | (with_reducible first | exact HK.out | apply KeepBut.set_ | apply keep_drewN | apply keep_drew | apply keep_alloc | refine keep_far ?_ GW158.out _ | refine keep_far ?_ GW159.out _) | exact HK.out)) hk (.inl rfl))
                have n4_ := Aside0.mk (hb)
                have n5_ := Aside0.mk (hi)
                clear HO_160002
                clear BK158
                clear BK159
                clear HK
                clear HB
                clear HI0
                have HO_160002 := n0_
                have BK158 := n1_
                have BK159 := n2_
                have HK := n3_
                have HB := n4_
                have HI0 := n5_
                clear n0_ n1_ n2_ n3_ n4_ n5_
                (try clear hb)
                (try clear hb2)
                (try clear hk)
                (try clear hi)
                refine hK.out _ _ ⟨(blk_cell BK159.out 0).trans rfl, (blk_cell BK159.out 1).trans rfl, (blk_cell BK159.out 2).trans rfl, (blk_cell BK159.out 3).trans rfl⟩ (fun hHeld => ?_)
                clear hK K
                refine norm_ (a' := ?_) ?_ ?_
                rotate_left
                · show Act.put _ (some 66) _ = _
                  simp only [Act.put, List.setIfInBounds_toArray, List.set_cons_zero, List.set_cons_succ, i64_w, i32_w]
                  rfl
                refine one_ (i := 4) (N := some 67) #[true, true, true, true, true, false, false, false] rfl rfl (one_of HT_.out (by kernel_rfl)) (by decide) (fun K hK => ?_)
                refine value_ (w1 := ?_) (v := ?_) (by rfl) rfl ?_ ?_
                rotate_left 2
                · go_simp
                  constructor
                  · rfl
                  · rfl
                refine hK.out _ _ ⟨(blk_cell (blk_alloc BK159.out _) 0).trans rfl, (blk_cell (blk_alloc BK159.out _) 1).trans rfl, (blk_cell (blk_alloc BK159.out _) 2).trans rfl, (blk_cell (blk_alloc BK159.out _) 3).trans rfl⟩ (fun hHeld => ?_)
                clear hK K
                refine norm_ (a' := ?_) ?_ ?_
                rotate_left
                · show Act.put _ (some 67) _ = _
                  simp only [Act.put, List.setIfInBounds_toArray, List.set_cons_zero, List.set_cons_succ, i64_w, i32_w]
                  rfl
                refine one_ (i := 5) (N := some 68) #[true, true, true, true, true, true, false, false] rfl rfl (one_of HT_.out (by kernel_rfl)) (by decide) (fun K hK => ?_)
                refine Kd.R_append_step k61 w.heap.size (by rfl) (.tmp 64) (.tmp 67) 38 61 (.agg #[(.int .i64 0), (.int .i64 0), (.int .u64 0), (.int .u64 0)]) 32 rfl Try.underlying38 info61 rfl (by decide) (by omega) u160002 x160002_1 (⟨t191, t192, t193, t194⟩ : S61) [.int .i64 t191, .int .i64 t192, .int .u64 t193, .int .u64 t194] (fun _ => True) (fun _ => False) rfl rfl ?aP (fun _ hk => hk.elim) ?aF ?aO (Below.refl _ _) ?aS ?aL ?_
                (case aP => exact k61_mkM _ _ _ (⟨t191, t192, t193, t194⟩ : S61))
                (case aF => exact (fun _ _ => trivial))
                (case aO => exact (by (with_reducible repeat (first | apply Kd.R_alloc | apply Kd.R_drewN | apply Kd.R_drew)); exact HO_160002.out))
                (case aS => exact (keep_size (w := w) (g := g) (row := none) (by repeat (first | (with_reducible first | exact HK.out | apply KeepBut.set_ | apply keep_drewN | apply keep_drew | apply keep_alloc | refine keep_far ?_ GW158.out _ | refine keep_far ?_ GW159.out _) | exact HK.out))))
                (case aL => have := LMc36.out; omega)
                intro v199 w42 ho hb hg hat
                rw [← Ny198.out] at ho
                have n0_ := Aside0.mk (blk_grown (g := gb158) (o := .cells #[.int .u32 0, .int .u32 0, .slice none 0 0, .int .u32 0] 40 (0, 0)) (by (with_reducible repeat (first | refine blk_drewN ?_ _ | refine blk_drew ?_ | refine blk_alloc ?_ _)); exact BK158.out) hg (Kd.R_ne HO_160002.out BK158.out (by decide)))
                have n1_ := Aside0.mk (blk_grown (g := gb159) (o := .cells #[.int .u32 t164, .int .u32 t173, u160002, .int .u32 t182] 40 (0, 0)) (by (with_reducible repeat (first | refine blk_drewN ?_ _ | refine blk_drew ?_ | refine blk_alloc ?_ _)); exact BK159.out) hg (Kd.R_ne HO_160002.out BK159.out (by decide)))
                have n2_ := Aside0.mk (IsS65.grown (by repeat (first | (with_reducible first | exact HI0.out | apply IsS65.alloc | apply IsS65.drewN | apply IsS65.drew | apply IsS65.set_0 | apply IsS65.set_1 | apply IsS65.set_2 | refine IsS65.far ?_ NB0_158.out _ | refine IsS65.far ?_ NB0_159.out _) | exact HI0.out)) hg (IsS65.own_ne HI0.out HO_160002.out (by decide)))
                have n3_ := Aside0.mk (below_weaken (by repeat (first | (with_reducible first | exact HB.out | apply below_alloc | apply pw_below_drewN | apply below_drew1 | refine below_set ?_ (IsS65.ge HI0.out) | refine below_set ?_ GE158.out | refine below_set ?_ GE159.out) | exact HB.out)) HL.out hb)
                have n4_ := Aside0.mk (KeepBut.trans (by repeat (first | (with_reducible first | exact HK.out | apply KeepBut.set_ | apply keep_drewN | apply keep_drew | apply keep_alloc | refine keep_far ?_ GW158.out _ | refine keep_far ?_ GW159.out _) | exact HK.out)) (KeepBut.of_grown hg g) (Kd.R_base2 HO_160002.out))
                have n5_ := Aside0.mk (ho)
                clear BK158
                clear BK159
                clear HI0
                clear HB
                clear HK
                clear HO_160002
                have BK158 := n0_
                have BK159 := n1_
                have HI0 := n2_
                have HB := n3_
                have HK := n4_
                have HO200 := n5_
                clear n0_ n1_ n2_ n3_ n4_ n5_
                clear ho hb hg hat
                obtain ⟨Ao43, co43, eo43⟩ := Kd.R_slice HO200.out
                (first | subst eo43 | (injection eo43 with f1_ f2_ f3_; have f4_ := f1_.symm; have f5_ := f3_.symm; clear f1_ f2_ f3_; subst f4_; subst f5_))
                refine hK.out _ _ ⟨(blk_cell BK159.out 0).trans rfl, (blk_cell BK159.out 1).trans rfl, (blk_cell BK159.out 2).trans rfl, (blk_cell BK159.out 3).trans rfl⟩ (fun hHeld => ?_)
                clear hK K
                refine norm_ (a' := ?_) ?_ ?_
                rotate_left
                · show Act.put _ (some 68) _ = _
                  simp only [Act.put, List.setIfInBounds_toArray, List.set_cons_zero, List.set_cons_succ, i64_w, i32_w]
                  rfl
                refine pure_ (i := 6) (N := some 69) (v := ?_) (a' := ?_) #[true, true, true, true, true, true, true, false] rfl rfl (any_of HT_.out (by kernel_rfl)) (fun _ _ _ h => h) (Or.inl ⟨by rfl, ?_⟩) ?_ ?_
                rotate_left
                · intro w'
                  go_simp
                  with_reducible rfl
                rotate_left
                · simp only [Act.put, List.setIfInBounds_toArray, List.set_cons_zero, List.set_cons_succ, i64_w, i32_w]
                  rfl
                refine last_ (i := 7) (N := none) #[true, true, true, true, true, true, true, true] rfl rfl (one_of HT_.out (by kernel_rfl)) (by decide) (fun K hK => ?_)
                have hs44 : w42.cell? ⟨gb159, 2, none⟩ = some (u160002) := (blk_cell BK159.out 2).trans rfl
                have hfs44 := blk_frozen BK159.out 2
                have hns44_0 := NB158_159.out
                have hms44_0 := NB159_158.out
                refine skip_ (w1 := ?_) (by rfl) rfl ?_ ?_
                rotate_left
                · go_simp
                  rfl
                refine hK.out _ _ ?_
                clear hK K
                refine done_ (done_of HT_.out (by kernel_rfl)) ?_
                try go_wp2
                go_roundg kj27
                case measure => have := HK1.out; have := HJ27.out; omega
                case rel => exact ⟨((⟨#[97, 110, 100]⟩ : ByteArray)), (t195), (t196), (t197), (y198), (.slice Ao43 y198.length co43), (by first | rfl | (simp; done) | (simp [*]; done)), H', ⟨by have := HK1.out; have := HJ27.out; omega⟩, ⟨by (with_reducible repeat (first | apply Kd.R_alloc | apply Kd.R_drewN | apply Kd.R_drew)); exact Kd.R_mono (Kd.R_far (p := ⟨gb159, 2, none⟩) (Kd.R_types HO200.out BK159.out (by decide)) (fun _ hk => hk.2) (.slice Ao43 y198.length co43)) (fun _ hk => trivial)⟩, ⟨by (with_reducible repeat (first | refine blk_drewN ?_ _ | refine blk_drew ?_ | refine blk_alloc ?_ _)); refine blk_far ?_ NB158_159.out _; (with_reducible repeat (first | refine blk_drewN ?_ _ | refine blk_drew ?_ | refine blk_alloc ?_ _)); exact BK158.out⟩, ⟨by (with_reducible repeat (first | refine blk_drewN ?_ _ | refine blk_drew ?_ | refine blk_alloc ?_ _)); refine blk_put (cs := #[.int .u32 t164, .int .u32 t173, u160002, .int .u32 t182]) ?_ 2 _ rfl; (with_reducible repeat (first | refine blk_drewN ?_ _ | refine blk_drew ?_ | refine blk_alloc ?_ _)); exact BK159.out⟩, ⟨by repeat (first | (with_reducible first | exact HI0.out | apply IsS65.alloc | apply IsS65.drewN | apply IsS65.drew | apply IsS65.set_0 | apply IsS65.set_1 | apply IsS65.set_2 | refine IsS65.far ?_ NB0_158.out _ | refine IsS65.far ?_ NB0_159.out _) | exact HI0.out)⟩, ⟨by repeat (first | (with_reducible first | exact HK.out | apply KeepBut.set_ | apply keep_drewN | apply keep_drew | apply keep_alloc | refine keep_far ?_ GW158.out _ | refine keep_far ?_ GW159.out _) | exact HK.out)⟩, ⟨by repeat (first | (with_reducible first | exact HB.out | apply below_alloc | apply pw_below_drewN | apply below_drew1 | refine below_set ?_ (IsS65.ge HI0.out) | refine below_set ?_ GE158.out | refine below_set ?_ GE159.out) | exact HB.out)⟩⟩
              · rw [if_neg c36] at H
                exact absurd H (by simp)
            · rw [if_neg c34] at H
              have c34b0 : (t187.toList == x5_1.toList) = false := beq_eq_false_iff_ne.mpr c34
              have c34b1 : (t187.toList != x5_1.toList) = true := bne_iff_ne.mpr c34
              replace H := Option.bind_eq_some_iff.mp H
              obtain ⟨⟨t201, t202, t203, t204, t205, t206, t207⟩, A450, H⟩ := H
              replace H : (if x160002_1.length < 4398046511104 then (policy_reader_rest.l0 kj27 (⟨#[97, 110, 100]⟩ : ByteArray) t205 t206 t207 t164 t173 (x160002_1 ++ [(⟨t201, t202, t203, t204⟩ : S61)]) t182) else (none)) = some (r1, r2, r3, r4, r5, r6, r7) := H
              have A45 := Aside0.mk A450
              clear A450
              by_cases c46 : x160002_1.length < 4398046511104
              · rw [if_pos c46] at H
                have LMc46 := Aside0.mk c46
                clear c46
                obtain ⟨y208, hy208⟩ : ∃ y_ : List (S61), y_ = (x160002_1 ++ [(⟨t201, t202, t203, t204⟩ : S61)]) := ⟨_, rfl⟩
                replace H : (policy_reader_rest.l0 kj27 (⟨#[97, 110, 100]⟩ : ByteArray) t205 t206 t207 t164 t173 y208 t182) = some (r1, r2, r3, r4, r5, r6, r7) := by first | (rw [hy208]; with_reducible exact H) | (have H2_ := (Option.bind_some _ _).symm.trans H; rw [hy208]; with_reducible exact H2_) | (have H2_ := (Option.bind_some _ _).symm.trans H; with_reducible exact H2_) | with_reducible exact H | (rw [hy208]; exact H) | exact H
                have Ny208 := Aside0.mk hy208
                clear hy208
                have H' := Aside0.mk H
                clear H
                try go_wp2_with (first | ((with_reducible refine gate_callee (f := 37) rfl ?_); refine goesL_ (some 52) rfl rfl Try.func37 (by kernel_rfl) rfl #[.pointer (some ⟨g, 0, none⟩)] rfl (by (try simp only [List.map_toArray, List.map_cons, List.map_nil]); first | done | rfl | (simp only [List.length_drop, List.length_take]; rfl)) ?_; (with_reducible refine (policy_reader_word.calls g x1000_1 x1001_1 x1002_1 t187 t188 t189 t190 w0 _ ?side1 ?side2 A33.out).mono ?_); (case side1 => repeat (first | (with_reducible first | exact HI0.out | apply IsS65.alloc | apply IsS65.drewN | apply IsS65.drew | apply IsS65.set_0 | apply IsS65.set_1 | apply IsS65.set_2 | refine IsS65.far ?_ NB0_158.out _ | refine IsS65.far ?_ NB0_159.out _) | exact HI0.out)); (case side2 => repeat (first | (with_reducible first | exact HB.out | apply below_alloc | apply pw_below_drewN | apply below_drew1 | refine below_set ?_ (IsS65.ge HI0.out) | refine below_set ?_ GE158.out | refine below_set ?_ GE159.out) | exact HB.out)); rintro e w47 ⟨rfl, hi, hb, hk⟩; refine ⟨_, rfl, ?_⟩; have n0_ := Aside0.mk (Kd.R_mono (Kd.R_keep (IsS65.apart (show IsS65 w0 _ g x1000_1 x1001_1 x1002_1 from by repeat (first | (with_reducible first | exact HI0.out | apply IsS65.alloc | apply IsS65.drewN | apply IsS65.drew | apply IsS65.set_0 | apply IsS65.set_1 | apply IsS65.set_2 | refine IsS65.far ?_ NB0_158.out _ | refine IsS65.far ?_ NB0_159.out _) | exact HI0.out)) (by (with_reducible repeat (first | apply Kd.R_alloc | apply Kd.R_drewN | apply Kd.R_drew)); exact HO_160002.out) (by decide)) hk (fun _ h => h.2)) (fun _ h => h.1)); have n1_ := Aside0.mk (KeepBut.blk hk (g' := gb158) (o := .cells #[.int .u32 0, .int .u32 0, .slice none 0 0, .int .u32 0] 40 (0, 0)) (by (with_reducible repeat (first | refine blk_drewN ?_ _ | refine blk_drew ?_ | refine blk_alloc ?_ _)); exact BK158.out) NB158_0.out (by simp)); have n2_ := Aside0.mk (KeepBut.blk hk (g' := gb159) (o := .cells #[.int .u32 t164, .int .u32 t173, u160002, .int .u32 t182] 40 (0, 0)) (by (with_reducible repeat (first | refine blk_drewN ?_ _ | refine blk_drew ?_ | refine blk_alloc ?_ _)); exact BK159.out) NB159_0.out (by simp)); have n3_ := Aside0.mk (KeepBut.trans (by repeat (first | (with_reducible first | exact HK.out | apply KeepBut.set_ | apply keep_drewN | apply keep_drew | apply keep_alloc | refine keep_far ?_ GW158.out _ | refine keep_far ?_ GW159.out _) | exact HK.out)) hk (.inl rfl)); have n4_ := Aside0.mk (hb); have n5_ := Aside0.mk (hi); clear HO_160002; clear BK158; clear BK159; clear HK; clear HB; clear HI0; have HO_160002 := n0_; have BK158 := n1_; have BK159 := n2_; have HK := n3_; have HB := n4_; have HI0 := n5_; clear n0_ n1_ n2_ n3_ n4_ n5_; (try clear hb); (try clear hb2); (try clear hk); (try clear hi); obtain ⟨HGz48, hgz48⟩ := HI0.out; have hcz48_0 := cellS65_0 HGz48; have hcz48_1 := cellS65_1 HGz48; have hcz48_2 := cellS65_2 HGz48; have hfz48_0 := blk_frozen HGz48 0; have hfz48_1 := blk_frozen HGz48 1; have hfz48_2 := blk_frozen HGz48 2; clear HGz48 hgz48))
                have n0_ : Aside0 (Kd.R k61 61 (w47.setCell ⟨g, 2, none⟩ (.bool true)) w.heap.size (fun _ => True) u160002 x160002_1) := ⟨by (with_reducible repeat (first | apply Kd.R_alloc | apply Kd.R_drewN | apply Kd.R_drew)); exact Kd.R_mono (Kd.R_far (p := ⟨g, 2, none⟩) (IsS65.apart HI0.out HO_160002.out (by decide)) (fun _ hk => hk.2) (.bool true)) (fun _ hk => trivial)⟩
                have n1_ : Aside0 ((w47.setCell ⟨g, 2, none⟩ (.bool true)).heap[gb158]? = some (.cells #[.int .u32 0, .int .u32 0, .slice none 0 0, .int .u32 0] 40 (0, 0))) := ⟨by (with_reducible repeat (first | refine blk_drewN ?_ _ | refine blk_drew ?_ | refine blk_alloc ?_ _)); refine blk_far ?_ NB158_0.out _; (with_reducible repeat (first | refine blk_drewN ?_ _ | refine blk_drew ?_ | refine blk_alloc ?_ _)); exact BK158.out⟩
                have n2_ : Aside0 ((w47.setCell ⟨g, 2, none⟩ (.bool true)).heap[gb159]? = some (.cells #[.int .u32 t164, .int .u32 t173, u160002, .int .u32 t182] 40 (0, 0))) := ⟨by (with_reducible repeat (first | refine blk_drewN ?_ _ | refine blk_drew ?_ | refine blk_alloc ?_ _)); refine blk_far ?_ NB159_0.out _; (with_reducible repeat (first | refine blk_drewN ?_ _ | refine blk_drew ?_ | refine blk_alloc ?_ _)); exact BK159.out⟩
                have n3_ : Aside0 (IsS65 w0 (w47.setCell ⟨g, 2, none⟩ (.bool true)) g t188 t189 true) := ⟨by repeat (first | (with_reducible first | exact HI0.out | apply IsS65.alloc | apply IsS65.drewN | apply IsS65.drew | apply IsS65.set_0 | apply IsS65.set_1 | apply IsS65.set_2 | refine IsS65.far ?_ NB0_158.out _ | refine IsS65.far ?_ NB0_159.out _) | exact HI0.out)⟩
                have n4_ : Aside0 (KeepBut w (w47.setCell ⟨g, 2, none⟩ (.bool true)) g none) := ⟨by repeat (first | (with_reducible first | exact HK.out | apply KeepBut.set_ | apply keep_drewN | apply keep_drew | apply keep_alloc | refine keep_far ?_ GW158.out _ | refine keep_far ?_ GW159.out _) | exact HK.out)⟩
                have n5_ : Aside0 (Below w0.heap.size w0 (w47.setCell ⟨g, 2, none⟩ (.bool true))) := ⟨by repeat (first | (with_reducible first | exact HB.out | apply below_alloc | apply pw_below_drewN | apply below_drew1 | refine below_set ?_ (IsS65.ge HI0.out) | refine below_set ?_ GE158.out | refine below_set ?_ GE159.out) | exact HB.out)⟩
                (try clear HO_160002)
                (try clear BK158)
                (try clear BK159)
                (try clear HI0)
                (try clear HK)
                (try clear HB)
                generalize (w47.setCell ⟨g, 2, none⟩ (.bool true)) = w49 at n0_ n1_ n2_ n3_ n4_ n5_ ⊢
                have HO_160002 := n0_
                have BK158 := n1_
                have BK159 := n2_
                have HI0 := n3_
                have HK := n4_
                have HB := n5_
                clear n0_ n1_ n2_ n3_ n4_ n5_
                have n0_ := Aside0.mk (Kd.R_drew HO_160002.out)
                have n1_ := Aside0.mk (blk_drew BK158.out)
                have n2_ := Aside0.mk (blk_drew BK159.out)
                have n3_ := Aside0.mk (IsS65.drew HI0.out)
                have n4_ := Aside0.mk (keep_drew HK.out)
                have n5_ := Aside0.mk (below_drew1 HB.out)
                clear HO_160002
                clear BK158
                clear BK159
                clear HI0
                clear HK
                clear HB
                have HO_160002 := n0_
                have BK158 := n1_
                have BK159 := n2_
                have HI0 := n3_
                have HK := n4_
                have HB := n5_
                clear n0_ n1_ n2_ n3_ n4_ n5_
                refine start_ (n := 8) (S := fun w' => w'.cell? ⟨gb159, 0, none⟩ = some (.int .u32 t164) ∧ w'.cell? ⟨gb159, 1, none⟩ = some (.int .u32 t173) ∧ w'.cell? ⟨gb159, 2, none⟩ = some (u160002) ∧ w'.cell? ⟨gb159, 3, none⟩ = some (.int .u32 t182)) (ds := [7]) #[false, false, false, false, false, false, false, false] (by kernel_rfl) rfl rfl ⟨(blk_cell BK159.out 0).trans rfl, (blk_cell BK159.out 1).trans rfl, (blk_cell BK159.out 2).trans rfl, (blk_cell BK159.out 3).trans rfl⟩ (fun hHeld => ?_); refine with_tabW policy_reader_rest.tab13 policy_reader_rest.bits13 (fun HT_ HW_ => ?_)
                generalize w49.drew = w50 at HO_160002 BK158 BK159 HI0 HK HB hHeld ⊢
                refine pure_ (i := 0) (N := some 63) (v := ?_) (a' := ?_) #[true, false, false, false, false, false, false, false] rfl rfl (any_of HT_.out (by kernel_rfl)) (fun _ _ _ h => h) (Or.inl ⟨by rfl, ?_⟩) ?_ ?_
                rotate_left
                · intro w'
                  go_simp
                  with_reducible rfl
                rotate_left
                · simp only [Act.put, List.setIfInBounds_toArray, List.set_cons_zero, List.set_cons_succ, i64_w, i32_w]
                  rfl
                refine pure_ (i := 2) (N := some 65) (v := ?_) (a' := ?_) #[true, false, true, false, false, false, false, false] rfl rfl (any_of HT_.out (by kernel_rfl)) (fun _ _ _ h => h) (Or.inl ⟨by rfl, ?_⟩) ?_ ?_
                rotate_left
                · intro w'
                  go_simp
                  with_reducible rfl
                rotate_left
                · simp only [Act.put, List.setIfInBounds_toArray, List.set_cons_zero, List.set_cons_succ, i64_w, i32_w]
                  rfl
                refine take_ (i := 1) (N := some 64) (v := ?_) (a' := ?_) #[true, true, true, false, false, false, false, false] rfl rfl (take_ofW HT_.out HW_.out (by kernel_rfl)) (fun _ _ _ h => h) (Or.inl ⟨by rfl, ?_⟩) hHeld ?_ ?_
                rotate_left
                · rintro w' ⟨s0, s1, s2, s3⟩
                  go_simp
                  with_reducible rfl
                rotate_left
                · simp only [Act.put, List.setIfInBounds_toArray, List.set_cons_zero, List.set_cons_succ, i64_w, i32_w]
                  rfl
                refine one_ (i := 3) (N := some 66) #[true, true, true, true, false, false, false, false] rfl rfl (one_of HT_.out (by kernel_rfl)) (by decide) (fun K hK => ?_)
                refine goes_ Try.func61 (by kernel_rfl) rfl #[.pointer (some ⟨g, 0, none⟩)] (by rfl) rfl rfl (by (try simp only [List.map_toArray, List.map_cons, List.map_nil]); first | done | rfl | (simp only [List.length_drop, List.length_take]; rfl)) ?_
                with_reducible refine (policy_reader_condition.calls g t188 t189 true t201 t202 t203 t204 t205 t206 t207 w0 _ ?side1 ?side2 A45.out).mono ?_
                (case side1 => repeat (first | (with_reducible first | exact HI0.out | apply IsS65.alloc | apply IsS65.drewN | apply IsS65.drew | apply IsS65.set_0 | apply IsS65.set_1 | apply IsS65.set_2 | refine IsS65.far ?_ NB0_158.out _ | refine IsS65.far ?_ NB0_159.out _) | exact HI0.out))
                (case side2 => repeat (first | (with_reducible first | exact HB.out | apply below_alloc | apply pw_below_drewN | apply below_drew1 | refine below_set ?_ (IsS65.ge HI0.out) | refine below_set ?_ GE158.out | refine below_set ?_ GE159.out) | exact HB.out))
                rintro e w51 ⟨rfl, hi, hb, hk⟩
                refine ⟨_, rfl, ?_⟩
                have n0_ := Aside0.mk (Kd.R_mono (Kd.R_keep (IsS65.apart (show IsS65 w0 _ g t188 t189 true from by repeat (first | (with_reducible first | exact HI0.out | apply IsS65.alloc | apply IsS65.drewN | apply IsS65.drew | apply IsS65.set_0 | apply IsS65.set_1 | apply IsS65.set_2 | refine IsS65.far ?_ NB0_158.out _ | refine IsS65.far ?_ NB0_159.out _) | exact HI0.out)) (by (with_reducible repeat (first | apply Kd.R_alloc | apply Kd.R_drewN | apply Kd.R_drew)); exact HO_160002.out) (by decide)) hk (fun _ h => h.2)) (fun _ h => h.1))
                have n1_ := Aside0.mk (KeepBut.blk hk (g' := gb158) (o := .cells #[.int .u32 0, .int .u32 0, .slice none 0 0, .int .u32 0] 40 (0, 0)) (by (with_reducible repeat (first | refine blk_drewN ?_ _ | refine blk_drew ?_ | refine blk_alloc ?_ _)); exact BK158.out) NB158_0.out (by simp))
                have n2_ := Aside0.mk (KeepBut.blk hk (g' := gb159) (o := .cells #[.int .u32 t164, .int .u32 t173, u160002, .int .u32 t182] 40 (0, 0)) (by (with_reducible repeat (first | refine blk_drewN ?_ _ | refine blk_drew ?_ | refine blk_alloc ?_ _)); exact BK159.out) NB159_0.out (by simp))
                have n3_ := Aside0.mk (KeepBut.trans (by repeat (first | (with_reducible first | exact HK.out | apply KeepBut.set_ | apply keep_drewN | apply keep_drew | apply keep_alloc | refine keep_far ?_ GW158.out _ | refine keep_far ?_ GW159.out _) | exact HK.out)) hk (.inl rfl))
                have n4_ := Aside0.mk (hb)
                have n5_ := Aside0.mk (hi)
                clear HO_160002
                clear BK158
                clear BK159
                clear HK
                clear HB
                clear HI0
                have HO_160002 := n0_
                have BK158 := n1_
                have BK159 := n2_
                have HK := n3_
                have HB := n4_
                have HI0 := n5_
                clear n0_ n1_ n2_ n3_ n4_ n5_
                (try clear hb)
                (try clear hb2)
                (try clear hk)
                (try clear hi)
                refine hK.out _ _ ⟨(blk_cell BK159.out 0).trans rfl, (blk_cell BK159.out 1).trans rfl, (blk_cell BK159.out 2).trans rfl, (blk_cell BK159.out 3).trans rfl⟩ (fun hHeld => ?_)
                clear hK K
                refine norm_ (a' := ?_) ?_ ?_
                rotate_left
                · show Act.put _ (some 66) _ = _
                  simp only [Act.put, List.setIfInBounds_toArray, List.set_cons_zero, List.set_cons_succ, i64_w, i32_w]
                  rfl
                refine one_ (i := 4) (N := some 67) #[true, true, true, true, true, false, false, false] rfl rfl (one_of HT_.out (by kernel_rfl)) (by decide) (fun K hK => ?_)
                refine value_ (w1 := ?_) (v := ?_) (by rfl) rfl ?_ ?_
                rotate_left 2
                · go_simp
                  constructor
                  · rfl
                  · rfl
                refine hK.out _ _ ⟨(blk_cell (blk_alloc BK159.out _) 0).trans rfl, (blk_cell (blk_alloc BK159.out _) 1).trans rfl, (blk_cell (blk_alloc BK159.out _) 2).trans rfl, (blk_cell (blk_alloc BK159.out _) 3).trans rfl⟩ (fun hHeld => ?_)
                clear hK K
                refine norm_ (a' := ?_) ?_ ?_
                rotate_left
                · show Act.put _ (some 67) _ = _
                  simp only [Act.put, List.setIfInBounds_toArray, List.set_cons_zero, List.set_cons_succ, i64_w, i32_w]
                  rfl
                refine one_ (i := 5) (N := some 68) #[true, true, true, true, true, true, false, false] rfl rfl (one_of HT_.out (by kernel_rfl)) (by decide) (fun K hK => ?_)
                refine Kd.R_append_step k61 w.heap.size (by rfl) (.tmp 64) (.tmp 67) 38 61 (.agg #[(.int .i64 0), (.int .i64 0), (.int .u64 0), (.int .u64 0)]) 32 rfl Try.underlying38 info61 rfl (by decide) (by omega) u160002 x160002_1 (⟨t201, t202, t203, t204⟩ : S61) [.int .i64 t201, .int .i64 t202, .int .u64 t203, .int .u64 t204] (fun _ => True) (fun _ => False) rfl rfl ?aP (fun _ hk => hk.elim) ?aF ?aO (Below.refl _ _) ?aS ?aL ?_
                (case aP => exact k61_mkM _ _ _ (⟨t201, t202, t203, t204⟩ : S61))
                (case aF => exact (fun _ _ => trivial))
                (case aO => exact (by (with_reducible repeat (first | apply Kd.R_alloc | apply Kd.R_drewN | apply Kd.R_drew)); exact HO_160002.out))
                (case aS => exact (keep_size (w := w) (g := g) (row := none) (by repeat (first | (with_reducible first | exact HK.out | apply KeepBut.set_ | apply keep_drewN | apply keep_drew | apply keep_alloc | refine keep_far ?_ GW158.out _ | refine keep_far ?_ GW159.out _) | exact HK.out))))
                (case aL => have := LMc46.out; omega)
                intro v209 w52 ho hb hg hat
                rw [← Ny208.out] at ho
                have n0_ := Aside0.mk (blk_grown (g := gb158) (o := .cells #[.int .u32 0, .int .u32 0, .slice none 0 0, .int .u32 0] 40 (0, 0)) (by (with_reducible repeat (first | refine blk_drewN ?_ _ | refine blk_drew ?_ | refine blk_alloc ?_ _)); exact BK158.out) hg (Kd.R_ne HO_160002.out BK158.out (by decide)))
                have n1_ := Aside0.mk (blk_grown (g := gb159) (o := .cells #[.int .u32 t164, .int .u32 t173, u160002, .int .u32 t182] 40 (0, 0)) (by (with_reducible repeat (first | refine blk_drewN ?_ _ | refine blk_drew ?_ | refine blk_alloc ?_ _)); exact BK159.out) hg (Kd.R_ne HO_160002.out BK159.out (by decide)))
                have n2_ := Aside0.mk (IsS65.grown (by repeat (first | (with_reducible first | exact HI0.out | apply IsS65.alloc | apply IsS65.drewN | apply IsS65.drew | apply IsS65.set_0 | apply IsS65.set_1 | apply IsS65.set_2 | refine IsS65.far ?_ NB0_158.out _ | refine IsS65.far ?_ NB0_159.out _) | exact HI0.out)) hg (IsS65.own_ne HI0.out HO_160002.out (by decide)))
                have n3_ := Aside0.mk (below_weaken (by repeat (first | (with_reducible first | exact HB.out | apply below_alloc | apply pw_below_drewN | apply below_drew1 | refine below_set ?_ (IsS65.ge HI0.out) | refine below_set ?_ GE158.out | refine below_set ?_ GE159.out) | exact HB.out)) HL.out hb)
                have n4_ := Aside0.mk (KeepBut.trans (by repeat (first | (with_reducible first | exact HK.out | apply KeepBut.set_ | apply keep_drewN | apply keep_drew | apply keep_alloc | refine keep_far ?_ GW158.out _ | refine keep_far ?_ GW159.out _) | exact HK.out)) (KeepBut.of_grown hg g) (Kd.R_base2 HO_160002.out))
                have n5_ := Aside0.mk (ho)
                clear BK158
                clear BK159
                clear HI0
                clear HB
                clear HK
                clear HO_160002
                have BK158 := n0_
                have BK159 := n1_
                have HI0 := n2_
                have HB := n3_
                have HK := n4_
                have HO210 := n5_
                clear n0_ n1_ n2_ n3_ n4_ n5_
                clear ho hb hg hat
                obtain ⟨Ao53, co53, eo53⟩ := Kd.R_slice HO210.out
                (first | subst eo53 | (injection eo53 with f1_ f2_ f3_; have f4_ := f1_.symm; have f5_ := f3_.symm; clear f1_ f2_ f3_; subst f4_; subst f5_))
                refine hK.out _ _ ⟨(blk_cell BK159.out 0).trans rfl, (blk_cell BK159.out 1).trans rfl, (blk_cell BK159.out 2).trans rfl, (blk_cell BK159.out 3).trans rfl⟩ (fun hHeld => ?_)
                clear hK K
                refine norm_ (a' := ?_) ?_ ?_
                rotate_left
                · show Act.put _ (some 68) _ = _
                  simp only [Act.put, List.setIfInBounds_toArray, List.set_cons_zero, List.set_cons_succ, i64_w, i32_w]
                  rfl
                refine pure_ (i := 6) (N := some 69) (v := ?_) (a' := ?_) #[true, true, true, true, true, true, true, false] rfl rfl (any_of HT_.out (by kernel_rfl)) (fun _ _ _ h => h) (Or.inl ⟨by rfl, ?_⟩) ?_ ?_
                rotate_left
                · intro w'
                  go_simp
                  with_reducible rfl
                rotate_left
                · simp only [Act.put, List.setIfInBounds_toArray, List.set_cons_zero, List.set_cons_succ, i64_w, i32_w]
                  rfl
                refine last_ (i := 7) (N := none) #[true, true, true, true, true, true, true, true] rfl rfl (one_of HT_.out (by kernel_rfl)) (by decide) (fun K hK => ?_)
                have hs54 : w52.cell? ⟨gb159, 2, none⟩ = some (u160002) := (blk_cell BK159.out 2).trans rfl
                have hfs54 := blk_frozen BK159.out 2
                have hns54_0 := NB158_159.out
                have hms54_0 := NB159_158.out
                refine skip_ (w1 := ?_) (by rfl) rfl ?_ ?_
                rotate_left
                · go_simp
                  rfl
                refine hK.out _ _ ?_
                clear hK K
                refine done_ (done_of HT_.out (by kernel_rfl)) ?_
                try go_wp2
                go_roundg kj27
                case measure => have := HK1.out; have := HJ27.out; omega
                case rel => exact ⟨((⟨#[97, 110, 100]⟩ : ByteArray)), (t205), (t206), (t207), (y208), (.slice Ao53 y208.length co53), (by first | rfl | (simp; done) | (simp [*]; done)), H', ⟨by have := HK1.out; have := HJ27.out; omega⟩, ⟨by (with_reducible repeat (first | apply Kd.R_alloc | apply Kd.R_drewN | apply Kd.R_drew)); exact Kd.R_mono (Kd.R_far (p := ⟨gb159, 2, none⟩) (Kd.R_types HO210.out BK159.out (by decide)) (fun _ hk => hk.2) (.slice Ao53 y208.length co53)) (fun _ hk => trivial)⟩, ⟨by (with_reducible repeat (first | refine blk_drewN ?_ _ | refine blk_drew ?_ | refine blk_alloc ?_ _)); refine blk_far ?_ NB158_159.out _; (with_reducible repeat (first | refine blk_drewN ?_ _ | refine blk_drew ?_ | refine blk_alloc ?_ _)); exact BK158.out⟩, ⟨by (with_reducible repeat (first | refine blk_drewN ?_ _ | refine blk_drew ?_ | refine blk_alloc ?_ _)); refine blk_put (cs := #[.int .u32 t164, .int .u32 t173, u160002, .int .u32 t182]) ?_ 2 _ rfl; (with_reducible repeat (first | refine blk_drewN ?_ _ | refine blk_drew ?_ | refine blk_alloc ?_ _)); exact BK159.out⟩, ⟨by repeat (first | (with_reducible first | exact HI0.out | apply IsS65.alloc | apply IsS65.drewN | apply IsS65.drew | apply IsS65.set_0 | apply IsS65.set_1 | apply IsS65.set_2 | refine IsS65.far ?_ NB0_158.out _ | refine IsS65.far ?_ NB0_159.out _) | exact HI0.out)⟩, ⟨by repeat (first | (with_reducible first | exact HK.out | apply KeepBut.set_ | apply keep_drewN | apply keep_drew | apply keep_alloc | refine keep_far ?_ GW158.out _ | refine keep_far ?_ GW159.out _) | exact HK.out)⟩, ⟨by repeat (first | (with_reducible first | exact HB.out | apply below_alloc | apply pw_below_drewN | apply below_drew1 | refine below_set ?_ (IsS65.ge HI0.out) | refine below_set ?_ GE158.out | refine below_set ?_ GE159.out) | exact HB.out)⟩⟩
              · rw [if_neg c46] at H
                exact absurd H (by simp)
          · replace c32 := Bool.eq_false_iff.mpr c32
            subst c32
            have H1 : (if x1002_1 = true then (some (t164, t173, x160002_1, t182, x1000_1, x1001_1, true)) else (some (t164, t173, x160002_1, t182, x1000_1, x1001_1, decide ((x160002_1.length : Int) > 4)))) = some (r1, r2, r3, r4, r5, r6, r7) := by rw [if_neg (show ¬ (false = true) by decide)] at H; exact H
            clear H
            have H := H1
            clear H1
            by_cases c55 : x1002_1 = true
            · subst c55
              have H1 : (some (t164, t173, x160002_1, t182, x1000_1, x1001_1, true)) = some (r1, r2, r3, r4, r5, r6, r7) := by rw [if_pos rfl] at H; exact H
              clear H
              have H := H1
              clear H1
              simp only [Option.some.injEq, Prod.mk.injEq] at H
              obtain ⟨rfl, rfl, rfl, rfl, rfl, rfl, rfl⟩ := H
              obtain ⟨HGz56, hgz56⟩ := HI0.out
              have hcz56_0 := cellS65_0 HGz56
              have hcz56_1 := cellS65_1 HGz56
              have hcz56_2 := cellS65_2 HGz56
              have hfz56_0 := blk_frozen HGz56 0
              have hfz56_1 := blk_frozen HGz56 1
              have hfz56_2 := blk_frozen HGz56 2
              clear HGz56 hgz56
              have hnb57 := NB159_158.out
              have hnc57 := NB158_159.out
              have hnb58 := NB159_0.out
              have hnc58 := NB0_159.out
              have hcz59_0 : wc.cell? ⟨gb159, 0, none⟩ = some (.int .u32 t164) := (blk_cell BK159.out 0).trans rfl
              have hcz59_1 : wc.cell? ⟨gb159, 1, none⟩ = some (.int .u32 t173) := (blk_cell BK159.out 1).trans rfl
              have hcz59_2 : wc.cell? ⟨gb159, 2, none⟩ = some (u160002) := (blk_cell BK159.out 2).trans rfl
              have hcz59_3 : wc.cell? ⟨gb159, 3, none⟩ = some (.int .u32 t182) := (blk_cell BK159.out 3).trans rfl
              have hfz59_0 := blk_frozen BK159.out 0
              have hfz59_1 := blk_frozen BK159.out 1
              have hfz59_2 := blk_frozen BK159.out 2
              have hfz59_3 := blk_frozen BK159.out 3
              have hnb60 := NB158_0.out
              have hnc60 := NB0_158.out
              have hcz61_0 : wc.cell? ⟨gb158, 0, none⟩ = some (.int .u32 0) := (blk_cell BK158.out 0).trans rfl
              have hcz61_1 : wc.cell? ⟨gb158, 1, none⟩ = some (.int .u32 0) := (blk_cell BK158.out 1).trans rfl
              have hcz61_2 : wc.cell? ⟨gb158, 2, none⟩ = some (.slice none 0 0) := (blk_cell BK158.out 2).trans rfl
              have hcz61_3 : wc.cell? ⟨gb158, 3, none⟩ = some (.int .u32 0) := (blk_cell BK158.out 3).trans rfl
              have hfz61_0 := blk_frozen BK158.out 0
              have hfz61_1 := blk_frozen BK158.out 1
              have hfz61_2 := blk_frozen BK158.out 2
              have hfz61_3 := blk_frozen BK158.out 3
              obtain ⟨Ao62, co62, eo62⟩ := Kd.R_slice HO_160002.out
              subst eo62
              go_wp2
              refine bodyPost_ret (results_cell_row rfl _ _ gb158 40 #[.int .u32 t164, .int .u32 t173, .slice Ao62 x160002_1.length co62, .int .u32 t182] (0, 0) _ rfl (by (with_reducible repeat (first | refine blk_drewN ?_ _ | refine blk_drew ?_ | refine blk_alloc ?_ _)); refine blk_put (cs := #[.int .u32 t164, .int .u32 t173, .slice Ao62 x160002_1.length co62, .int .u32 0]) ?_ 3 _ rfl; (with_reducible repeat (first | refine blk_drewN ?_ _ | refine blk_drew ?_ | refine blk_alloc ?_ _)); refine blk_put (cs := #[.int .u32 t164, .int .u32 t173, .slice none 0 0, .int .u32 0]) ?_ 2 _ rfl; (with_reducible repeat (first | refine blk_drewN ?_ _ | refine blk_drew ?_ | refine blk_alloc ?_ _)); refine blk_put (cs := #[.int .u32 t164, .int .u32 0, .slice none 0 0, .int .u32 0]) ?_ 1 _ rfl; (with_reducible repeat (first | refine blk_drewN ?_ _ | refine blk_drew ?_ | refine blk_alloc ?_ _)); refine blk_put (cs := #[.int .u32 0, .int .u32 0, .slice none 0 0, .int .u32 0]) ?_ 0 _ rfl; (with_reducible repeat (first | refine blk_drewN ?_ _ | refine blk_drew ?_ | refine blk_alloc ?_ _)); refine blk_far ?_ NB158_0.out _; (with_reducible repeat (first | refine blk_drewN ?_ _ | refine blk_drew ?_ | refine blk_alloc ?_ _)); exact BK158.out) Try.underlying40 rfl (by kernel_rfl)) rfl ?_
              exact ⟨_, by first | rfl | (simp [errW_none, errW_some] <;> rfl) | (simp [*, errW_none, errW_some] <;> rfl), by (with_reducible repeat (first | apply Kd.R_alloc | apply Kd.R_drewN | apply Kd.R_drew)); exact Kd.R_mono (Kd.R_far (p := ⟨gb158, 3, none⟩) (Kd.R_far (p := ⟨gb158, 2, none⟩) (Kd.R_far (p := ⟨gb158, 1, none⟩) (Kd.R_far (p := ⟨gb158, 0, none⟩) (Kd.R_far (p := ⟨g, 2, none⟩) (Kd.R_types (IsS65.apart HI0.out HO_160002.out (by decide)) BK158.out (by decide)) (fun _ hk => hk.1.2) (.bool true)) (fun _ hk => hk.2) (.int .u32 t164)) (fun _ hk => hk.2) (.int .u32 t173)) (fun _ hk => hk.2) (.slice Ao62 x160002_1.length co62)) (fun _ hk => hk.2) (.int .u32 t182)) (fun _ hk => trivial), by repeat (first | (with_reducible first | exact HI0.out | apply IsS65.alloc | apply IsS65.drewN | apply IsS65.drew | apply IsS65.set_0 | apply IsS65.set_1 | apply IsS65.set_2 | refine IsS65.far ?_ NB0_158.out _ | refine IsS65.far ?_ NB0_159.out _) | exact HI0.out), by repeat (first | (with_reducible first | exact HB.out | apply below_alloc | apply pw_below_drewN | apply below_drew1 | refine below_set ?_ (IsS65.ge HI0.out) | refine below_set ?_ GE158.out | refine below_set ?_ GE159.out) | exact HB.out), by repeat (first | (with_reducible first | exact HK.out | apply KeepBut.set_ | apply keep_drewN | apply keep_drew | apply keep_alloc | refine keep_far ?_ GW158.out _ | refine keep_far ?_ GW159.out _) | exact HK.out)⟩
            · replace c55 := Bool.eq_false_iff.mpr c55
              subst c55
              have H1 : (some (t164, t173, x160002_1, t182, x1000_1, x1001_1, decide ((x160002_1.length : Int) > 4))) = some (r1, r2, r3, r4, r5, r6, r7) := by rw [if_neg (show ¬ (false = true) by decide)] at H; exact H
              clear H
              have H := H1
              clear H1
              simp only [Option.some.injEq, Prod.mk.injEq] at H
              obtain ⟨rfl, rfl, rfl, rfl, rfl, rfl, rfl⟩ := H
              obtain ⟨HGz63, hgz63⟩ := HI0.out
              have hcz63_0 := cellS65_0 HGz63
              have hcz63_1 := cellS65_1 HGz63
              have hcz63_2 := cellS65_2 HGz63
              have hfz63_0 := blk_frozen HGz63 0
              have hfz63_1 := blk_frozen HGz63 1
              have hfz63_2 := blk_frozen HGz63 2
              clear HGz63 hgz63
              have hnb64 := NB159_158.out
              have hnc64 := NB158_159.out
              have hnb65 := NB159_0.out
              have hnc65 := NB0_159.out
              have hcz66_0 : wc.cell? ⟨gb159, 0, none⟩ = some (.int .u32 t164) := (blk_cell BK159.out 0).trans rfl
              have hcz66_1 : wc.cell? ⟨gb159, 1, none⟩ = some (.int .u32 t173) := (blk_cell BK159.out 1).trans rfl
              have hcz66_2 : wc.cell? ⟨gb159, 2, none⟩ = some (u160002) := (blk_cell BK159.out 2).trans rfl
              have hcz66_3 : wc.cell? ⟨gb159, 3, none⟩ = some (.int .u32 t182) := (blk_cell BK159.out 3).trans rfl
              have hfz66_0 := blk_frozen BK159.out 0
              have hfz66_1 := blk_frozen BK159.out 1
              have hfz66_2 := blk_frozen BK159.out 2
              have hfz66_3 := blk_frozen BK159.out 3
              obtain ⟨Ao67, co67, eo67⟩ := Kd.R_slice HO_160002.out
              subst eo67
              have hnb68 := NB158_0.out
              have hnc68 := NB0_158.out
              have hcz69_0 : wc.cell? ⟨gb158, 0, none⟩ = some (.int .u32 0) := (blk_cell BK158.out 0).trans rfl
              have hcz69_1 : wc.cell? ⟨gb158, 1, none⟩ = some (.int .u32 0) := (blk_cell BK158.out 1).trans rfl
              have hcz69_2 : wc.cell? ⟨gb158, 2, none⟩ = some (.slice none 0 0) := (blk_cell BK158.out 2).trans rfl
              have hcz69_3 : wc.cell? ⟨gb158, 3, none⟩ = some (.int .u32 0) := (blk_cell BK158.out 3).trans rfl
              have hfz69_0 := blk_frozen BK158.out 0
              have hfz69_1 := blk_frozen BK158.out 1
              have hfz69_2 := blk_frozen BK158.out 2
              have hfz69_3 := blk_frozen BK158.out 3
              go_wp2
              refine bodyPost_ret (results_cell_row rfl _ _ gb158 40 #[.int .u32 t164, .int .u32 t173, .slice Ao67 x160002_1.length co67, .int .u32 t182] (0, 0) _ rfl (by (with_reducible repeat (first | refine blk_drewN ?_ _ | refine blk_drew ?_ | refine blk_alloc ?_ _)); refine blk_put (cs := #[.int .u32 t164, .int .u32 t173, .slice Ao67 x160002_1.length co67, .int .u32 0]) ?_ 3 _ rfl; (with_reducible repeat (first | refine blk_drewN ?_ _ | refine blk_drew ?_ | refine blk_alloc ?_ _)); refine blk_put (cs := #[.int .u32 t164, .int .u32 t173, .slice none 0 0, .int .u32 0]) ?_ 2 _ rfl; (with_reducible repeat (first | refine blk_drewN ?_ _ | refine blk_drew ?_ | refine blk_alloc ?_ _)); refine blk_put (cs := #[.int .u32 t164, .int .u32 0, .slice none 0 0, .int .u32 0]) ?_ 1 _ rfl; (with_reducible repeat (first | refine blk_drewN ?_ _ | refine blk_drew ?_ | refine blk_alloc ?_ _)); refine blk_put (cs := #[.int .u32 0, .int .u32 0, .slice none 0 0, .int .u32 0]) ?_ 0 _ rfl; (with_reducible repeat (first | refine blk_drewN ?_ _ | refine blk_drew ?_ | refine blk_alloc ?_ _)); refine blk_far ?_ NB158_0.out _; (with_reducible repeat (first | refine blk_drewN ?_ _ | refine blk_drew ?_ | refine blk_alloc ?_ _)); exact BK158.out) Try.underlying40 rfl (by kernel_rfl)) rfl ?_
              exact ⟨_, by first | rfl | (simp [errW_none, errW_some] <;> rfl) | (simp [*, errW_none, errW_some] <;> rfl), by (with_reducible repeat (first | apply Kd.R_alloc | apply Kd.R_drewN | apply Kd.R_drew)); exact Kd.R_mono (Kd.R_far (p := ⟨gb158, 3, none⟩) (Kd.R_far (p := ⟨gb158, 2, none⟩) (Kd.R_far (p := ⟨gb158, 1, none⟩) (Kd.R_far (p := ⟨gb158, 0, none⟩) (Kd.R_far (p := ⟨g, 2, none⟩) (Kd.R_types (IsS65.apart HI0.out HO_160002.out (by decide)) BK158.out (by decide)) (fun _ hk => hk.1.2) (.bool (decide ((x160002_1.length : Int) > 4)))) (fun _ hk => hk.2) (.int .u32 t164)) (fun _ hk => hk.2) (.int .u32 t173)) (fun _ hk => hk.2) (.slice Ao67 x160002_1.length co67)) (fun _ hk => hk.2) (.int .u32 t182)) (fun _ hk => trivial), by repeat (first | (with_reducible first | exact HI0.out | apply IsS65.alloc | apply IsS65.drewN | apply IsS65.drew | apply IsS65.set_0 | apply IsS65.set_1 | apply IsS65.set_2 | refine IsS65.far ?_ NB0_158.out _ | refine IsS65.far ?_ NB0_159.out _) | exact HI0.out), by repeat (first | (with_reducible first | exact HB.out | apply below_alloc | apply pw_below_drewN | apply below_drew1 | refine below_set ?_ (IsS65.ge HI0.out) | refine below_set ?_ GE158.out | refine below_set ?_ GE159.out) | exact HB.out), by repeat (first | (with_reducible first | exact HK.out | apply KeepBut.set_ | apply keep_drewN | apply keep_drew | apply keep_alloc | refine keep_far ?_ GW158.out _ | refine keep_far ?_ GW159.out _) | exact HK.out)⟩
end Go.Proofs.Ytekpbgmmogpbdaa.P
set_option linter.unusedVariables false
set_option linter.unusedSimpArgs false
set_option maxRecDepth 100000
namespace Go.Proofs.Ytekpbgmmogpbdaa.H
open Go.RowKit Go.Proofs.YtekpbgmmogpbdaaW.PrintWords
def spl (c : UInt8) : List UInt8 → List (List UInt8)
  | [] => [[]]
  | x :: l => if x = c then [] :: spl c l else match spl c l with
    | a :: r => (x :: a) :: r
    | [] => [[x]]
theorem spl_ne (c : UInt8) (l : List UInt8) : spl c l ≠ [] := by
  cases l with
  | nil => simp [spl]
  | cons x l => simp only [spl]; split; simp; split <;> simp
theorem spl_none (c : UInt8) (l : List UInt8) (h : c ∉ l) : spl c l = [l] := by
  induction l with
  | nil => rfl
  | cons x l ih =>
    have h1 : ¬ x = c := fun e => h (by simp [e])
    have := ih (fun e => h (by simp [e]))
    simp [spl, h1, this]
theorem spl_cons (c : UInt8) (A R : List UInt8) (h : c ∉ A) : spl c (A ++ c :: R) = A :: spl c R := by
  induction A with
  | nil => simp [spl]
  | cons x A ih =>
    have h1 : ¬ x = c := fun e => h (by simp [e])
    have := ih (fun e => h (by simp [e]))
    simp [spl, h1, this]
theorem mem_split (c : UInt8) (l : List UInt8) : c ∉ l ∨ ∃ A R, l = A ++ c :: R ∧ c ∉ A := by
  induction l with
  | nil => left; simp
  | cons x l ih =>
    by_cases e : x = c
    · exact .inr ⟨[], l, by simp [e], by simp⟩
    · rcases ih with h | ⟨A, R, h1, h2⟩
      · exact .inl (by simp [Ne.symm e, h])
      · exact .inr ⟨x :: A, R, by simp [h1], by simp [Ne.symm e, h2]⟩
theorem cutL_app (A R : List UInt8) (h : (32 : UInt8) ∉ A) : cutL (A ++ 32 :: R) = (A, R) := by
  induction A with
  | nil => simp [cutL]
  | cons x A ih =>
    have h1 : ¬ x = 32 := fun e => h (by simp [e])
    have := ih (fun e => h (by simp [e]))
    simp [cutL, h1, this]
def RdS (s : ByteArray) (e : Bool) (ws : List (List UInt8)) : Prop := (e = true ∧ ws = []) ∨ (e = false ∧ ws = spl 32 s.data.toList)
theorem data_of (l : List UInt8) : (ofBytes l).data.toList = l := by simp [ofBytes]
theorem size_of (l : List UInt8) : (ofBytes l).size = l.length := by simp [ofBytes, ByteArray.size]
theorem size_list (s : ByteArray) : s.size = s.data.toList.length := by simp
theorem RdS.end_iff {s : ByteArray} {e : Bool} {ws : List (List UInt8)} (h : RdS s e ws) : e = true ↔ ws = [] := by
  rcases h with ⟨h1, h2⟩ | ⟨h1, h2⟩
  · simp [h1, h2]
  · simp [h1, h2, spl_ne]
theorem word_ev (s : ByteArray) (e b : Bool) (ws : List (List UInt8)) (h : RdS s e ws) (hs : s.size ≤ 100000) :
    ∃ w s' e' b', policy_reader_word.f s e b = some (w, s', e', b') ∧ w.size ≤ 100000 ∧ s'.size ≤ 100000 ∧ RdS s' e' ws.tail ∧ w.data.toList = ws.headD [] ∧ b' = (b || ws.isEmpty) := by
  unfold policy_reader_word.f
  rw [if_pos (by omega)]
  rcases h with ⟨h1, h2⟩ | ⟨h1, h2⟩
  · subst h1 h2
    exact ⟨⟨#[]⟩, s, true, true, by simp [wordF], by simp [ByteArray.size], hs, .inl ⟨rfl, rfl⟩, rfl, by simp⟩
  · subst h1
    rcases mem_split 32 s.data.toList with hm | ⟨A, R, hl, hA⟩
    · rw [spl_none _ _ hm] at h2
      subst h2
      exact ⟨s, s, true, b, by simp [wordF, hm], hs, hs, .inl ⟨rfl, rfl⟩, by simp, by simp⟩
    · have hz : A.length + R.length + 1 = s.size := by rw [size_list, hl]; simp; omega
      rw [hl, spl_cons _ _ _ hA] at h2
      subst h2
      refine ⟨ofBytes A, ofBytes R, false, b, ?_, by rw [size_of]; omega, by rw [size_of]; omega, .inr ⟨rfl, by rw [data_of]; rfl⟩, by simp [data_of], by simp⟩
      have hm : (32 : UInt8) ∈ s.data.toList := by rw [hl]; simp
      unfold wordF
      rw [if_neg (by decide), if_pos hm, hl, cutL_app _ _ hA]
def joinC (a b c d : List UInt8) : List UInt8 := a ++ 32 :: (b ++ 32 :: (c ++ 32 :: d))
def condW : List (List UInt8) → Option (Nat × Nat × Nat × Nat)
  | a :: b :: c :: d :: _ => condParse (joinC a b c d)
  | _ => none
def S61of (x : Nat × Nat × Nat × Nat) : P.S61 := ⟨(x.1 : Int), (x.2.1 : Int), (x.2.2.1 : Int), (x.2.2.2 : Int)⟩
theorem ba_add (a b : ByteArray) : (a ++ b).data.toList = a.data.toList ++ b.data.toList := by simp [ByteArray.data_append]
theorem must_ev (s : ByteArray) (e b : Bool) (x : Int) : P.policy_reader_must.f s e b x = some (s, e, b || (x != 0)) := by
  unfold P.policy_reader_must.f
  cases b <;> simp
theorem condition_ev (s : ByteArray) (e b : Bool) (ws : List (List UInt8)) (h : RdS s e ws) (hs : s.size ≤ 100000) :
    ∃ x0 x1 x2 x3 s' e' b', P.policy_reader_condition.f s e b = some (x0, x1, x2, x3, s', e', b') ∧ s'.size ≤ 100000 ∧ RdS s' e' (ws.drop 4) ∧
      (b = true → b' = true) ∧ (b = false → match condW ws with | some x => b' = false ∧ (⟨x0, x1, x2, x3⟩ : P.S61) = S61of x | none => b' = true) := by
  obtain ⟨w1, s1, e1, b1, h1, z1, y1, q1, d1, g1⟩ := word_ev s e b ws h hs
  obtain ⟨w2, s2, e2, b2, h2, z2, y2, q2, d2, g2⟩ := word_ev s1 e1 b1 _ q1 y1
  obtain ⟨w3, s3, e3, b3, h3, z3, y3, q3, d3, g3⟩ := word_ev s2 e2 b2 _ q2 y2
  obtain ⟨w4, s4, e4, b4, h4, z4, y4, q4, d4, g4⟩ := word_ev s3 e3 b3 _ q3 y3
  have hz1 : (⟨#[32]⟩ : ByteArray).size = 1 := rfl
  unfold P.policy_reader_condition.f
  rw [h1]
  simp only [Option.bind_some]
  rw [if_pos (by omega), h2]
  simp only [Option.bind_some]
  rw [if_pos (by simp only [ByteArray.size_append]; omega), if_pos (by simp only [ByteArray.size_append]; omega), h3]
  simp only [Option.bind_some]
  rw [if_pos (by simp only [ByteArray.size_append]; omega), if_pos (by simp only [ByteArray.size_append]; omega), h4]
  simp only [Option.bind_some]
  rw [if_pos (by simp only [ByteArray.size_append]; omega)]
  obtain ⟨t, ht⟩ : ∃ t, w1 ++ (⟨#[32]⟩ : ByteArray) ++ w2 ++ ⟨#[32]⟩ ++ w3 ++ ⟨#[32]⟩ ++ w4 = t := ⟨_, rfl⟩
  rw [ht]
  have hd : t.data.toList = joinC w1.data.toList w2.data.toList w3.data.toList w4.data.toList := by
    rw [← ht]; simp [ba_add, joinC]
  have hsz : t.size ≤ 140737488351232 := by rw [← ht]; simp only [ByteArray.size_append]; omega
  unfold cond_Parse.f
  rw [if_pos hsz]
  simp only [Option.bind_some, must_ev]
  refine ⟨_, _, _, _, _, _, _, rfl, y4, ?_, ?_, ?_⟩
  · have : ws.drop 4 = ws.tail.tail.tail.tail := by
      rcases ws with _ | ⟨_, _ | ⟨_, _ | ⟨_, _ | _⟩⟩⟩ <;> rfl
    rw [this]; exact q4
  · intro hb; subst hb; simp [g4, g3, g2, g1]
  · intro hb
    subst hb
    rcases ws with _ | ⟨a, _ | ⟨b, _ | ⟨c, _ | ⟨d, ws⟩⟩⟩⟩
    · simp [condW, g4, g3, g2, g1]
    · simp [condW, g4, g3, g2, g1]
    · simp [condW, g4, g3, g2, g1]
    · simp [condW, g4, g3, g2, g1]
    · have e1 : w1.data.toList = a := d1
      have e2 : w2.data.toList = b := d2
      have e3 : w3.data.toList = c := d3
      have e4 : w4.data.toList = d := d4
      have e5 : condW (a :: b :: c :: d :: ws) = condParse t.data.toList := by rw [hd, e1, e2, e3, e4]; rfl
      have e6 : b4 = false := by simp [g4, g3, g2, g1]
      rw [e5, e6]
      cases condParse t.data.toList with
      | none => simp [parseI]
      | some x => obtain ⟨p, q, m, v⟩ := x; simp [parseI, S61of]
def condsV : List UInt8 → List (List UInt8) → Option (List P.S61)
  | _, [] => some []
  | j, w :: a :: b :: c :: d :: ws => if w = j then match condParse (joinC a b c d) with
      | some x => (condsV [97, 110, 100] ws).map (S61of x :: ·)
      | none => none
    else none
  | _, _ :: _ => none
def ruleV : List (List UInt8) → Option P.S40
  | m :: c :: a :: ws => if (readOf ML (ofBytes m)).2 = 0 ∧ (readOf (callsOf (readOf ML (ofBytes m)).1) (ofBytes c)).2 = 0 ∧ (readAct (ofBytes a)).2 = 0 then
      match condsV [105, 102] ws with
      | some cs => if cs.length ≤ 4 then some ⟨(readOf ML (ofBytes m)).1, (readOf (callsOf (readOf ML (ofBytes m)).1) (ofBytes c)).1, cs, (readAct (ofBytes a)).1⟩ else none
      | none => none
    else none
  | _ => none
theorem ba_same {a b : ByteArray} : a.toList = b.toList ↔ a.data.toList = b.data.toList := by rw [ByteArray.toList_eq, ByteArray.toList_eq]
theorem rest_l0_ev (x0 x1 x3 : Int) : ∀ (n : Nat) (ws : List (List UInt8)) (j s : ByteArray) (e : Bool) (L : List P.S61), ws.length ≤ n → RdS s e ws → s.size ≤ 100000 → L.length + n < 4398046511104 →
    ∃ k y2 s' e' b', P.policy_reader_rest.l0 k j s e false x0 x1 L x3 = some (x0, x1, y2, x3, s', e', b') ∧
      (match condsV j.data.toList ws with | some cs => if (L ++ cs).length ≤ 4 then b' = false ∧ y2 = L ++ cs else b' = true | none => b' = true) := by
  intro n
  induction n with
  | zero =>
    intro ws j s e L hn hR hs hL
    obtain rfl : ws = [] := List.eq_nil_of_length_eq_zero (by omega)
    have he := hR.end_iff.2 rfl
    subst he
    refine ⟨2, L, s, true, decide ((L.length : Int) > 4), by simp [P.policy_reader_rest.l0, P.policy_reader_rest.j1], ?_⟩
    simp only [condsV, List.append_nil]
    split
    · exact ⟨by simp; omega, by trivial⟩
    · simp; omega
  | succ n ih =>
    intro ws j s e L hn hR hs hL
    by_cases hw : ws = []
    · subst hw
      have he := hR.end_iff.2 rfl
      subst he
      refine ⟨2, L, s, true, decide ((L.length : Int) > 4), by simp [P.policy_reader_rest.l0, P.policy_reader_rest.j1], ?_⟩
      simp only [condsV, List.append_nil]
      split
      · exact ⟨by simp; omega, by trivial⟩
      · simp; omega
    · have he : e = false := by cases e with
        | false => rfl
        | true => exact absurd (hR.end_iff.1 rfl) hw
      subst he
      obtain ⟨w1, s1, e1, b1, h1, z1, y1, q1, d1, g1⟩ := word_ev s false false ws hR hs
      have g1' : b1 = false := by rw [g1]; cases ws; exact absurd rfl hw; rfl
      subst g1'
      obtain ⟨w, ws', rfl⟩ : ∃ w ws', ws = w :: ws' := by cases ws with
        | nil => exact absurd rfl hw
        | cons w ws' => exact ⟨w, ws', rfl⟩
      simp only [List.headD_cons, List.tail_cons] at d1 q1
      by_cases hj : w = j.data.toList
      · have hj' : w1.toList = j.toList := by rw [ba_same, d1, hj]
        obtain ⟨c0, c1, c2, c3, s2, e2, b2, h2, y2, q2, _, g2⟩ := condition_ev s1 e1 false ws' q1 y1
        have g2 := g2 rfl
        cases hc : condW ws' with
        | none =>
          rw [hc] at g2
          obtain rfl : b2 = true := g2
          have hcv : condsV j.data.toList (w :: ws') = none := by
            rcases ws' with _ | ⟨a, _ | ⟨b, _ | ⟨c, _ | ⟨d, ws2⟩⟩⟩⟩ <;> try (simp [condsV]; done)
            simp only [condW] at hc
            simp [condsV, hc]
          cases e2 with
          | true =>
            refine ⟨4, _, s2, true, true, by simp [P.policy_reader_rest.l0, P.policy_reader_rest.j1, h1, h2, hj', show L.length < 4398046511104 by omega]; rfl, ?_⟩
            rw [hcv]
          | false =>
            refine ⟨4, _, s2, false, true, by simp [P.policy_reader_rest.l0, P.policy_reader_rest.j1, h1, h2, hj', show L.length < 4398046511104 by omega]; rfl, ?_⟩
            rw [hcv]
        | some x =>
          rw [hc] at g2
          obtain ⟨rfl, g3⟩ := g2
          rcases ws' with _ | ⟨a, _ | ⟨b, _ | ⟨c, _ | ⟨d, ws2⟩⟩⟩⟩ <;> try (simp [condW] at hc; done)
          simp only [condW] at hc
          have hn' : ws2.length ≤ n := by simp at hn; omega
          obtain ⟨k, yy, s3, e3, b3, h3, h4⟩ := ih ws2 (⟨#[97, 110, 100]⟩ : ByteArray) s2 e2 (L ++ [(⟨c0, c1, c2, c3⟩ : P.S61)]) hn' q2 y2 (by simp; omega)
          refine ⟨k + 2, yy, s3, e3, b3, ?_, ?_⟩
          · simp only [P.policy_reader_rest.l0, P.policy_reader_rest.j1, h1, h2, hj', Option.bind_some, Bool.not_false, if_true, if_false, Bool.false_eq_true]
            rw [if_pos (by omega)]; exact h3
          · have e0 : (⟨#[97, 110, 100]⟩ : ByteArray).data.toList = [97, 110, 100] := rfl
            rw [e0] at h4
            simp only [condsV, hj, if_true, hc]
            cases hv : condsV [97, 110, 100] ws2 with
            | none => rw [hv] at h4; simpa using h4
            | some cs => rw [hv] at h4; rw [g3] at h4; simpa using h4
      · have hj' : ¬ w1.toList = j.toList := by rw [ba_same, d1]; exact hj
        obtain ⟨c0, c1, c2, c3, s2, e2, b2, h2, y2, q2, g2, _⟩ := condition_ev s1 e1 true ws' q1 y1
        obtain rfl := g2 rfl
        have hcv : condsV j.data.toList (w :: ws') = none := by
          rcases ws' with _ | ⟨a, _ | ⟨b, _ | ⟨c, _ | ⟨d, ws2⟩⟩⟩⟩ <;> simp [condsV, hj]
        cases e2 with
        | true =>
          refine ⟨4, _, s2, true, true, by simp [P.policy_reader_rest.l0, P.policy_reader_rest.j1, h1, h2, hj', show L.length < 4398046511104 by omega]; rfl, ?_⟩
          rw [hcv]
        | false =>
          refine ⟨4, _, s2, false, true, by simp [P.policy_reader_rest.l0, P.policy_reader_rest.j1, h1, h2, hj', show L.length < 4398046511104 by omega]; rfl, ?_⟩
          rw [hcv]
theorem rest_ev (s : ByteArray) (e : Bool) (ws : List (List UInt8)) (hR : RdS s e ws) (hs : s.size ≤ 100000) :
    ∃ k x0 x1 x2 x3 s' e' b', P.policy_reader_rest.f k s e false = some (x0, x1, x2, x3, s', e', b') ∧
      (match ruleV ws with | some x => b' = false ∧ (⟨x0, x1, x2, x3⟩ : P.S40) = x | none => b' = true) := by
  obtain ⟨w1, s1, e1, b1, h1, z1, y1, q1, d1, g1⟩ := word_ev s e false ws hR hs
  have W2 := fun b => word_ev s1 e1 b _ q1 y1
  obtain ⟨w2, s2, e2, b2, h2, z2, y2, q2, d2, g2⟩ := W2 (b1 || ((readOf ML w1).2 != 0))
  obtain ⟨w3, s3, e3, b3, h3, z3, y3, q3, d3, g3⟩ := word_ev s2 e2 (b2 || ((readOf (callsOf (readOf ML w1).1) w2).2 != 0)) _ q2 y2
  have hf : ∀ k, P.policy_reader_rest.f k s e false = P.policy_reader_rest.l0 k (⟨#[105, 102]⟩ : ByteArray) s3 e3 (b3 || ((readAct w3).2 != 0)) (readOf ML w1).1 (readOf (callsOf (readOf ML w1).1) w2).1 [] (readAct w3).1 := by
    intro k
    unfold P.policy_reader_rest.f
    simp only [h1, names_ReadMachine.f, must_ev, h2, names_ReadCall.f, h3, names_ReadAction.f, Option.bind_some]
  obtain ⟨bb, hbb⟩ : ∃ bb, (b3 || ((readAct w3).2 != 0)) = bb := ⟨_, rfl⟩
  rw [hbb] at hf
  have hq : RdS s3 e3 (ws.drop 3) := by
    have : ws.drop 3 = ws.tail.tail.tail := by rcases ws with _ | ⟨_, _ | ⟨_, _ | _⟩⟩ <;> rfl
    rw [this]; exact q3
  have ht2 : ws.tail.headD [] = (ws.drop 1).headD [] := by cases ws <;> rfl
  cases hb : bb with
  | true =>
    subst hb
    have hn : ruleV ws = none := by
      rcases ws with _ | ⟨m, _ | ⟨c, _ | ⟨a, ws⟩⟩⟩ <;> try (simp [ruleV]; done)
      have i1 : w1 = ofBytes m := ba_eq (by rw [d1, data_of]; rfl)
      have i2 : w2 = ofBytes c := ba_eq (by rw [d2, data_of]; rfl)
      have i3 : w3 = ofBytes a := ba_eq (by rw [d3, data_of]; rfl)
      have j1 : b1 = false := by rw [g1]; rfl
      rw [i3, g3, g2, j1, i2, i1] at hbb
      simp only [List.tail_cons, List.isEmpty_cons, Bool.or_false, Bool.false_or, Bool.or_eq_true, bne_iff_ne, ne_eq] at hbb
      simp only [ruleV]
      rw [if_neg (fun h => by rcases hbb with (h' | h') | h' <;> simp_all)]
    rw [hn]
    cases e3 with
    | true => exact ⟨2, (readOf ML w1).1, (readOf (callsOf (readOf ML w1).1) w2).1, [], (readAct w3).1, s3, true, true, by rw [hf]; simp [P.policy_reader_rest.l0, P.policy_reader_rest.j1], rfl⟩
    | false => exact ⟨2, (readOf ML w1).1, (readOf (callsOf (readOf ML w1).1) w2).1, [], (readAct w3).1, s3, false, true, by rw [hf]; simp [P.policy_reader_rest.l0, P.policy_reader_rest.j1], rfl⟩
  | false =>
    subst hb
    simp only [Bool.or_eq_false_iff] at hbb
    obtain ⟨hb3, hb3'⟩ := hbb
    rw [g3] at hb3
    simp only [Bool.or_eq_false_iff] at hb3
    obtain ⟨⟨hb2, hb2'⟩, he3⟩ := hb3
    rw [g2] at hb2
    simp only [Bool.or_eq_false_iff] at hb2
    obtain ⟨⟨hb1, hb1'⟩, he2⟩ := hb2
    rcases ws with _ | ⟨m, _ | ⟨c, _ | ⟨a, ws⟩⟩⟩
    · simp at he2
    · simp at he2
    · simp at he3
    have i1 : w1 = ofBytes m := ba_eq (by rw [d1, data_of]; rfl)
    have i2 : w2 = ofBytes c := ba_eq (by rw [d2, data_of]; rfl)
    have i3 : w3 = ofBytes a := ba_eq (by rw [d3, data_of]; rfl)
    rw [i1, i2] at hb2'
    rw [i1] at hb1'
    rw [i3] at hb3'
    rw [i1, i2, i3] at hf
    simp only [bne_eq_false_iff_eq] at hb1' hb2' hb3'
    have hlen : ws.length ≤ 200000 ∨ ¬ ws.length ≤ 200000 := by omega
    have hq' : RdS s3 e3 ws := hq
    have hwl : ws.length ≤ 100001 := by
      rcases hq' with ⟨_, h⟩ | ⟨_, h⟩
      · rw [h]; simp
      · have : ∀ l : List UInt8, (spl 32 l).length ≤ l.length + 1 := by
          intro l
          induction l with
          | nil => simp [spl]
          | cons x l ih =>
            simp only [spl]
            split
            · simp; omega
            · split
              · rename_i h2; rw [h2] at ih; simp at ih ⊢; omega
              · simp
        rw [h]
        have := this s3.data.toList
        rw [← size_list] at this
        omega
    obtain ⟨k, yy, s4, e4, b4, h4, h5⟩ := rest_l0_ev _ _ _ _ ws (⟨#[105, 102]⟩ : ByteArray) s3 e3 [] (Nat.le_refl _) hq' y3 (by simp; omega)
    refine ⟨k, _, _, _, _, _, _, _, by rw [hf]; exact h4, ?_⟩
    have e0 : (⟨#[105, 102]⟩ : ByteArray).data.toList = [105, 102] := rfl
    rw [e0] at h5
    simp only [ruleV]
    rw [if_pos ⟨hb1', hb2', hb3'⟩]
    cases hv : condsV [105, 102] ws with
    | none => rw [hv] at h5; simpa using h5
    | some cs =>
      rw [hv] at h5
      simp only [List.nil_append] at h5
      by_cases hl : cs.length ≤ 4
      · simp only [hl, if_true] at h5 ⊢
        exact ⟨h5.1, by rw [h5.2]⟩
      · simp only [hl, if_false] at h5 ⊢
        exact h5
def dfltV : List (List UInt8) → Option Int
  | [a] => if (readAct (ofBytes a)).2 = 0 then some (readAct (ofBytes a)).1 else none
  | _ => none
def lineW (w : List UInt8) (ws : List (List UInt8)) : Option (P.S40 ⊕ Int) :=
  if w = [111, 110] then (ruleV ws).map Sum.inl else if w = [100, 101, 102, 97, 117, 108, 116] then (dfltV ws).map Sum.inr else none
def lineV (l : List UInt8) : Option (P.S40 ⊕ Int) :=
  match spl 32 l with
  | w :: ws => lineW w ws
  | [] => none
theorem lineV_of {l w : List UInt8} {ws : List (List UInt8)} (h : spl 32 l = w :: ws) : lineV l = lineW w ws := by unfold lineV; rw [h]
def plines (n : Nat) : List (List UInt8) → Nat → Bool → List P.S40 → Int → List P.S40 × Int × Int × Int
  | [], _, _, _, _ => ([], 0, 0, 0)
  | l :: ls, at_, done, L, df =>
    if ls = [] then (if l ≠ [] then ([], 0, (at_ : Int), 2) else if done = true then (L, df, 0, 0) else ([], 0, (n : Int), 5))
    else if done = true then ([], 0, (at_ : Int), 2) else match lineV l with
      | none => ([], 0, (at_ : Int), 2)
      | some (.inl x) => if L.length = 64 then ([], 0, (at_ : Int), 3) else plines n ls (at_ + l.length + 1) false (L ++ [x]) df
      | some (.inr v) => plines n ls (at_ + l.length + 1) true L v
def parseV (s : List UInt8) : List P.S40 × Int × Int × Int := if 20000 < s.length then ([], 0, 0, 3) else plines s.length (spl 10 s) 0 false [] 0
end Go.Proofs.Ytekpbgmmogpbdaa.H
set_option linter.unusedVariables false
set_option linter.unusedSimpArgs false
set_option maxRecDepth 100000
namespace Go.Proofs.Ytekpbgmmogpbdaa.H
open Go.RowKit Go.Proofs.YtekpbgmmogpbdaaW.PrintWords
theorem nstr_data (l : List Int) : (strOfNums l).data.toList = u8s l := strOfNums_data l
theorem ba_ext {a b : ByteArray} (h : a.data.toList = b.data.toList) : a = b := by
  apply ByteArray.ext
  exact Array.toList_inj.1 h
structure NGood (l : NL) : Prop where
  uniq : Uniq l
  keys : ∀ p ∈ l, ∀ q ∈ l, p.1 = q.1 → p.2 = q.2
  some_ : ∀ p ∈ l, p.1.data.toList ≠ []
  plain : ∀ p ∈ l, parseL p.1.data.toList = none
  range : ∀ p ∈ l, 0 ≤ p.2 ∧ p.2 < 4294967296
theorem good_nil : NGood [] := ⟨(fun p h => by cases h), (fun p h => by cases h), (fun p h => by cases h), (fun p h => by cases h), (fun p h => by cases h)⟩
theorem good_ML : NGood ML := ⟨uniq_ML, by unfold ML; decide, by unfold ML; decide, by unfold ML; decide, by unfold ML; decide⟩
theorem good_AL : NGood AL := ⟨uniq_AL, by unfold AL; decide, by unfold AL; decide, by unfold AL; decide, by unfold AL; decide⟩
theorem good_x64 : NGood Cx64 := ⟨uniq_Cx64, by unfold Cx64; decide, by unfold Cx64; decide, by unfold Cx64; decide, by unfold Cx64; decide⟩
theorem good_x86 : NGood Cx86 := ⟨uniq_Cx86, by unfold Cx86; decide, by unfold Cx86; decide, by unfold Cx86; decide, by unfold Cx86; decide⟩
theorem good_a64 : NGood Ca64 := ⟨uniq_Ca64, by unfold Ca64; decide, by unfold Ca64; decide, by unfold Ca64; decide, by unfold Ca64; decide⟩
theorem good_arm : NGood Carm := ⟨uniq_Carm, by unfold Carm; decide, by unfold Carm; decide, by unfold Carm; decide, by unfold Carm; decide⟩
theorem good_calls (a : Int) : NGood (callsOf a) := by
  unfold callsOf
  split
  · exact good_x64
  · split
    · exact good_x86
    · split
      · exact good_a64
      · split
        · exact good_arm
        · exact good_nil
theorem nonempty_of {s : ByteArray} (h : s.data.toList ≠ []) : s.toList.isEmpty = false := by
  rw [ByteArray.toList_eq]
  cases hs : s.data.toList with
  | nil => exact absurd hs h
  | cons a l => rfl
theorem numOf_some {l : NL} {s : ByteArray} {v : Int} (h : numOf l s = some v) : (s, v) ∈ l := by
  unfold numOf at h
  cases hf : l.find? (fun p => s == p.1) with
  | none => rw [hf] at h; cases h
  | some p =>
    rw [hf] at h
    have h1 := List.find?_some hf
    have h2 := List.mem_of_find?_eq_some hf
    have e1 : s = p.1 := (MapKept.bytes_beq _ _).1 h1
    have e2 : p.2 = v := Option.some.inj h
    rw [e1, ← e2]; exact h2
theorem name_cases {l : NL} (g : NGood l) (n : Int) : (∃ p ∈ l, p.2 = n ∧ nameOf l n = p.1 ∧ (nameOf l n).toList.isEmpty = false) ∨ ((∀ p ∈ l, p.2 ≠ n) ∧ nameOf l n = ⟨#[]⟩) := by
  by_cases h : ∃ p ∈ l, p.2 = n
  · obtain ⟨p, hp, hn⟩ := h
    subst hn
    have e := nameOf_hit g.uniq hp
    exact .inl ⟨p, hp, rfl, e, by rw [e]; exact nonempty_of (g.some_ p hp)⟩
  · have h' : ∀ p ∈ l, p.2 ≠ n := fun p hp hn => h ⟨p, hp, hn⟩
    exact .inr ⟨h', nameOf_miss h'⟩
theorem empty_isEmpty : (⟨#[]⟩ : ByteArray).toList.isEmpty = true := by rw [ByteArray.toList_eq]; rfl
theorem text_read {l : NL} (g : NGood l) (s : ByteArray) : ((readOf l s).2 = 0 ∧ ∃ n : Nat, n < 4294967296 ∧ (readOf l s).1 = (n : Int) ∧ textOf l n = s) ∨ readOf l s = (0, 2) := by
  unfold readOf
  cases hv : numOf l s with
  | some v =>
    have hm := numOf_some hv
    have hr := g.range _ hm
    obtain ⟨n, hn⟩ := Int.eq_ofNat_of_zero_le hr.1
    refine .inl ⟨rfl, n, by have := hr.2; simp at hn; omega, hn, ?_⟩
    have e := nameOf_hit g.uniq hm
    simp only [] at e hn
    unfold textOf
    rw [← hn, e, if_neg (by rw [nonempty_of (g.some_ _ hm)]; decide)]
  | none =>
    cases hp : parseL s.data.toList with
    | none => exact .inr rfl
    | some n =>
      simp only []
      by_cases hc : 4294967296 ≤ n ∨ (nameOf l n).toList.isEmpty = false
      · rw [if_pos hc]; exact .inr rfl
      · rw [if_neg hc]
        refine .inl ⟨rfl, n, by omega, rfl, ?_⟩
        unfold textOf
        have he : (nameOf l n).toList.isEmpty = true := by
          cases h : (nameOf l n).toList.isEmpty with
          | true => rfl
          | false => exact absurd (.inr h) hc
        rw [if_pos he]
        apply ba_ext
        rw [nstr_data]
        exact text_parse _ _ hp
theorem AL_mid (v : Int) (h1 : 327680 ≤ v) (h2 : v ≤ 331775) : ∀ p ∈ AL, p.2 ≠ v := by
  intro p hp
  unfold AL at hp
  simp at hp
  rcases hp with rfl | rfl | rfl | rfl <;> simp <;> omega
theorem pre_split (s : ByteArray) (h6 : ¬ s.size < 6) (hx : (s.extract 0 6).toList = [101, 114, 114, 111, 114, 58]) : errPre ++ (s.extract 6 s.size) = s := by
  apply ba_ext
  rw [ByteArray.data_append, Array.toList_append, Lib.extract_data]
  rw [Lib.extract_toList] at hx
  have e : errPre.data.toList = s.data.toList.take 6 := by rw [← show (s.data.toList.drop 0).take (6 - 0) = s.data.toList.take 6 from rfl, hx]; rfl
  have t : (s.data.toList.drop 6).take (s.size - 6) = s.data.toList.drop 6 := List.take_of_length_le (by simp)
  rw [e, t]
  exact List.take_append_drop 6 _
theorem act_cases (v : Nat) (hv : v < 4294967296) :
    (∃ p ∈ AL, p.2 = (v : Int) ∧ actOf v = (p.1, 0) ∧ p.1.data.toList ≠ []) ∨ (∃ d : Nat, d ≤ 4095 ∧ v = 327680 + d ∧ actOf v = (errPre ++ strOfNums (textL d), 0)) ∨ ((∀ p ∈ AL, p.2 ≠ (v : Int)) ∧ ¬ (327680 ≤ v ∧ v ≤ 331775) ∧ actOf v = (⟨#[]⟩, 1)) := by
  unfold actOf
  rcases name_cases good_AL (v : Int) with ⟨p, hp, h2, h3, h4⟩ | ⟨h1, h2⟩
  · left
    exact ⟨p, hp, h2, by rw [if_pos h4, h3], good_AL.some_ p hp⟩
  · right
    rw [if_neg (by rw [h2, empty_isEmpty]; decide)]
    by_cases hd : (v + 4294967296 - 327680) % 4294967296 ≤ 4095
    · left
      refine ⟨(v + 4294967296 - 327680) % 4294967296, hd, by omega, ?_⟩
      rw [if_pos hd]
    · right
      refine ⟨h1, by omega, ?_⟩
      rw [if_neg hd]
theorem act_readAct (s : ByteArray) : ((readAct s).2 = 0 ∧ ∃ v : Nat, v < 4294967296 ∧ (readAct s).1 = (v : Int) ∧ actOf v = (s, 0)) ∨ readAct s = (0, 2) := by
  unfold readAct
  cases hv : numOf AL s with
  | some v =>
    have hm := numOf_some hv
    have hr := good_AL.range _ hm
    obtain ⟨n, hn⟩ := Int.eq_ofNat_of_zero_le hr.1
    simp only [] at hn hr
    refine .inl ⟨rfl, n, by omega, hn, ?_⟩
    have e := nameOf_hit good_AL.uniq hm
    simp only [] at e
    unfold actOf
    rw [← hn, e, if_pos (nonempty_of (good_AL.some_ _ hm))]
  | none =>
    simp only []
    by_cases hc : s.size < 6 ∨ ¬ (s.extract 0 6).toList = [101, 114, 114, 111, 114, 58]
    · rw [if_pos hc]; exact .inr rfl
    · rw [if_neg hc]
      cases hp : parseL (s.extract 6 s.size).data.toList with
      | none => exact .inr rfl
      | some n =>
        simp only []
        by_cases h95 : 4095 < n
        · rw [if_pos h95]; exact .inr rfl
        · rw [if_neg h95]
          refine .inl ⟨rfl, 327680 + n, by omega, by simp, ?_⟩
          unfold actOf
          have hmiss := nameOf_miss (AL_mid ((327680 + n : Nat) : Int) (by omega) (by omega))
          rw [hmiss, if_neg (by rw [empty_isEmpty]; decide), show (327680 + n + 4294967296 - 327680) % 4294967296 = n by omega, if_pos (by omega)]
          have h6 : ¬ s.size < 6 := fun h => hc (.inl h)
          have hx : (s.extract 0 6).toList = [101, 114, 114, 111, 114, 58] := by
            rcases Classical.em ((s.extract 0 6).toList = [101, 114, 114, 111, 114, 58]) with h | h
            · exact h
            · exact absurd (.inr h) hc
          have ht : strOfNums (textL n) = s.extract 6 s.size := by
            apply ba_ext
            rw [nstr_data]
            exact text_parse _ _ hp
          rw [ht, pre_split s h6 hx]
end Go.Proofs.Ytekpbgmmogpbdaa.H
set_option linter.unusedVariables false
set_option linter.unusedSimpArgs false
set_option maxRecDepth 100000
namespace Go.Proofs.Ytekpbgmmogpbdaa.H
open Go.RowKit Go.Proofs.YtekpbgmmogpbdaaW.PrintWords
def TL (n : Nat) : List UInt8 := u8s (textL n)
def WL (k : Nat) : List UInt8 := (wordK k).data.toList
def CT (a k m v : Nat) : List UInt8 := [97, UInt8.ofNat (48 + a)] ++ 32 :: (TL m ++ 32 :: (WL k ++ 32 :: TL v))
theorem cut_parts (l : List UInt8) : ((32 : UInt8) ∉ l ∧ cutL l = (l, [])) ∨ ∃ A R, l = A ++ 32 :: R ∧ (32 : UInt8) ∉ A ∧ cutL l = (A, R) := by
  induction l with
  | nil => exact .inl ⟨by simp, rfl⟩
  | cons c l ih =>
    by_cases hc : c = 32
    · subst hc
      exact .inr ⟨[], l, rfl, by simp, by simp [cutL]⟩
    · rcases ih with ⟨h1, h2⟩ | ⟨A, R, h1, h2, h3⟩
      · refine .inl ⟨fun hm => ?_, by simp [cutL, hc, h2]⟩
        rcases List.mem_cons.1 hm with e | hm
        · exact hc e.symm
        · exact h1 hm
      · refine .inr ⟨c :: A, R, by rw [h1]; rfl, fun hm => ?_, by simp [cutL, hc, h3]⟩
        rcases List.mem_cons.1 hm with e | hm
        · exact hc e.symm
        · exact h2 hm
theorem wordIdx_some {l : List UInt8} {k : Nat} (h : wordIdx l = some k) : k < 6 ∧ l = WL k := by
  unfold wordIdx at h
  rw [List.find?_range_eq_some] at h
  exact ⟨by simpa using h.2.1, (by simpa using h.1 : (wordK k).data.toList = l).symm⟩
theorem wordIdx_nil : wordIdx [] = none := by decide
theorem argOf_some {l : List UInt8} {a : Nat} (h : argOf l = some a) : a < 6 ∧ l = [97, UInt8.ofNat (48 + a)] := by
  unfold argOf at h
  split at h
  · rename_i x d
    split at h
    · rename_i hh
      have := Option.some.inj h
      subst this
      refine ⟨by omega, ?_⟩
      rw [show 48 + (d.toNat - 48) = d.toNat by omega, UInt8.ofNat_toNat]
      congr 1
      exact UInt8.toNat_inj.1 hh.1
    · simp at h
  · simp at h
theorem condOf_some {A M C V : List UInt8} {x : Nat × Nat × Nat × Nat} (h : condOf A M C V = some x) : argOf A = some x.1 ∧ wordIdx C = some x.2.1 ∧ parseL M = some x.2.2.1 ∧ parseL V = some x.2.2.2 := by
  unfold condOf at h
  split at h
  · rename_i d x' y k h1 h2 h3 h4
    have := Option.some.inj h
    subst this
    exact ⟨h1, h4, h2, h3⟩
  · simp at h
theorem text_condParse {l : List UInt8} {a k m v : Nat} (h : condParse l = some (a, k, m, v)) : l = CT a k m v ∧ a < 6 ∧ k < 6 ∧ m < 18446744073709551616 ∧ v < 18446744073709551616 := by
  unfold condParse at h
  obtain ⟨h1, h2, h3, h4⟩ := condOf_some h
  obtain ⟨ha, e1⟩ := argOf_some h1
  obtain ⟨hk, e3⟩ := wordIdx_some h2
  have e2 := text_parse _ _ h3
  have e4 := text_parse _ _ h4
  have hm := parseL_lt h3
  have hv := parseL_lt h4
  refine ⟨?_, ha, hk, hm, hv⟩
  unfold CT TL
  rw [e2, e4, ← e1, ← e3]
  rcases cut_parts l with ⟨_, c1⟩ | ⟨A, R, l1, _, c1⟩
  · rw [c1] at h3; simp [cutL, parseL] at h3
  · rw [c1] at h2 h3 h4 ⊢
    rcases cut_parts R with ⟨_, c2⟩ | ⟨B, R2, l2, _, c2⟩
    · rw [c2] at h2; simp [cutL, wordIdx_nil] at h2
    · rw [c2] at h2 h4 ⊢
      rcases cut_parts R2 with ⟨_, c3⟩ | ⟨D, R3, l3, _, c3⟩
      · rw [c3] at h4; simp [cutL, parseL] at h4
      · rw [c3, l1, l2, l3]
end Go.Proofs.Ytekpbgmmogpbdaa.H
set_option linter.unusedVariables false
set_option linter.unusedSimpArgs false
set_option maxRecDepth 100000
namespace Go.Proofs.Ytekpbgmmogpbdaa.H
open Go.RowKit Go.Proofs.YtekpbgmmogpbdaaW.PrintWords
def hi (l : List UInt8) : Prop := ∀ c ∈ l, 33 ≤ c.toNat
theorem hi.no32 {l : List UInt8} (h : hi l) : (32 : UInt8) ∉ l := fun hm => by have := h _ hm; revert this; decide
theorem hi.no10 {l : List UInt8} (h : hi l) : (10 : UInt8) ∉ l := fun hm => by have := h _ hm; revert this; decide
theorem hexGo_hi (l : List UInt8) : ∀ n v, hexGo l n = some v → hi l := by
  induction l with
  | nil => intro n v _ c hc; simp at hc
  | cons x l ih =>
    intro n v h c hc
    unfold hexGo at h
    cases hd : hexd x.toNat with
    | none => rw [hd] at h; simp at h
    | some d =>
      rw [hd] at h
      rcases List.mem_cons.1 hc with e | hc
      · subst e
        unfold hexd at hd
        split at hd
        · omega
        · split at hd
          · omega
          · simp at hd
      · exact ih _ _ h c hc
theorem parse_hi {l : List UInt8} {v : Nat} (h : parseL l = some v) : hi l := by
  unfold parseL at h
  split at h
  · rename_i hh
    intro c hc
    rw [← List.take_append_drop 2 l, hh.2.2.1] at hc
    rcases List.mem_append.1 hc with hm | hm
    · simp at hm; rcases hm with rfl | rfl <;> decide
    · exact hexGo_hi _ _ _ h c hm
  · simp at h
theorem TL_hi (n : Nat) (h : n < 18446744073709551616) : hi (TL n) := parse_hi (parse_text n h)
theorem WL_hi (k : Nat) : hi (WL k) := by
  unfold WL wordK
  split <;> (intro c hc; revert c; decide)
theorem arg_hi (a : Nat) (ha : a < 6) : hi [97, UInt8.ofNat (48 + a)] := by
  rcases (by omega : a = 0 ∨ a = 1 ∨ a = 2 ∨ a = 3 ∨ a = 4 ∨ a = 5) with rfl | rfl | rfl | rfl | rfl | rfl <;> (intro c hc; revert c; decide)
def jn (c : UInt8) : List (List UInt8) → List UInt8
  | [] => []
  | [a] => a
  | a :: b :: r => a ++ c :: jn c (b :: r)
theorem jn_cons (c : UInt8) (a : List UInt8) (r : List (List UInt8)) (h : r ≠ []) : jn c (a :: r) = a ++ c :: jn c r := by
  cases r with
  | nil => exact absurd rfl h
  | cons b r => rfl
theorem jn_spl (c : UInt8) (l : List UInt8) : jn c (spl c l) = l := by
  induction l with
  | nil => rfl
  | cons x l ih =>
    simp only [spl]
    split
    · rename_i e
      rw [jn_cons _ _ _ (spl_ne c l), ih, e]; rfl
    · split
      · rename_i a r h
        rw [h] at ih
        cases r with
        | nil => simp only [jn] at ih ⊢; rw [ih]
        | cons b r => simp only [jn] at ih ⊢; rw [← ih]; rfl
      · rename_i h; exact absurd h (spl_ne c l)
theorem spl_jn (c : UInt8) (ws : List (List UInt8)) (hne : ws ≠ []) (h : ∀ w ∈ ws, c ∉ w) : spl c (jn c ws) = ws := by
  induction ws with
  | nil => exact absurd rfl hne
  | cons a r ih =>
    cases r with
    | nil => exact spl_none c a (h a (by simp))
    | cons b r =>
      simp only [jn]
      rw [spl_cons c a _ (h a (by simp)), ih (by simp) (fun w hw => h w (by simp at hw ⊢; right; exact hw))]
theorem spl_mem (c : UInt8) (l : List UInt8) : ∀ w ∈ spl c l, c ∉ w := by
  induction l with
  | nil => intro w hw; simp [spl] at hw; simp [hw]
  | cons x l ih =>
    intro w hw
    simp only [spl] at hw
    split at hw
    · rcases List.mem_cons.1 hw with rfl | hw
      · simp
      · exact ih w hw
    · rename_i e
      split at hw
      · rename_i a r h
        rcases List.mem_cons.1 hw with rfl | hw
        · intro hm
          rcases List.mem_cons.1 hm with e2 | hm
          · exact e e2.symm
          · exact ih a (by rw [h]; simp) hm
        · exact ih w (by rw [h]; simp [hw])
      · simp at hw; subst hw; simp [Ne.symm e]
def condOk (c : P.S61) : Prop := rightB c.f0 c.f1 = true ∧ u64P c.f2 ∧ u64P c.f3
def dfOk (v : Int) : Prop := u32P v ∧ (actOf v.toNat).2 = 0
def ruleOk (x : P.S40) : Prop := u32P x.f0 ∧ u32P x.f1 ∧ dfOk x.f3 ∧ x.f2.length ≤ 4 ∧ ∀ c ∈ x.f2, condOk c
def polOk (L : List P.S40) (df : Int) : Prop := L.length ≤ 64 ∧ (∀ x ∈ L, ruleOk x) ∧ dfOk df
def condWs (c : P.S61) : List (List UInt8) := [[97, UInt8.ofNat (48 + c.f0.toNat)], TL c.f2.toNat, WL c.f1.toNat, TL c.f3.toNat]
def condsW : List UInt8 → List P.S61 → List (List UInt8)
  | _, [] => []
  | j, c :: cs => j :: (condWs c ++ condsW [97, 110, 100] cs)
def machL (x : P.S40) : List UInt8 := (textOf ML x.f0.toNat).data.toList
def callL (x : P.S40) : List UInt8 := (textOf (callsOf x.f0) x.f1.toNat).data.toList
def actL (v : Int) : List UInt8 := (actOf v.toNat).1.data.toList
def ruleWs (x : P.S40) : List (List UInt8) := machL x :: callL x :: actL x.f3 :: condsW [105, 102] x.f2
def ruleT (x : P.S40) : List UInt8 := jn 32 ([111, 110] :: ruleWs x)
def dfltT (v : Int) : List UInt8 := jn 32 [[100, 101, 102, 97, 117, 108, 116], actL v]
def polT (L : List P.S40) (df : Int) : List UInt8 := (L.flatMap fun x => ruleT x ++ [10]) ++ (dfltT df ++ [10])
theorem joinC_jn (a b c d : List UInt8) : joinC a b c d = jn 32 [a, b, c, d] := rfl
theorem words_condsV : ∀ (n : Nat) (ws : List (List UInt8)) (j : List UInt8) (cs : List P.S61), ws.length ≤ n → (∀ w ∈ ws, (32 : UInt8) ∉ w) → condsV j ws = some cs → ws = condsW j cs ∧ ∀ c ∈ cs, condOk c := by
  intro n
  induction n with
  | zero =>
    intro ws j cs hn _ h
    cases ws with
    | nil => simp [condsV] at h; subst h; exact ⟨rfl, by simp⟩
    | cons => simp at hn
  | succ n ih =>
    intro ws j cs hn hw h
    rcases ws with _ | ⟨w, _ | ⟨a, _ | ⟨b, _ | ⟨c, _ | ⟨d, ws⟩⟩⟩⟩⟩
    · simp [condsV] at h; subst h; exact ⟨rfl, by simp⟩
    · simp [condsV] at h
    · simp [condsV] at h
    · simp [condsV] at h
    · simp [condsV] at h
    · simp only [condsV] at h
      split at h
      · rename_i hj
        cases hc : condParse (joinC a b c d) with
        | none => rw [hc] at h; simp at h
        | some x =>
          rw [hc] at h
          simp only [Option.map_eq_some_iff] at h
          obtain ⟨cs', h2, rfl⟩ := h
          obtain ⟨pa, pk, pm, pv⟩ := x
          obtain ⟨hl, ha, hk, hm, hv⟩ := text_condParse hc
          obtain ⟨i1, i2⟩ := ih ws _ cs' (by simp at hn; omega) (fun w hw' => hw w (by simp [hw'])) h2
          have hsp := congrArg (spl 32) hl
          rw [joinC_jn, show CT pa pk pm pv = jn 32 [[97, UInt8.ofNat (48 + pa)], TL pm, WL pk, TL pv] from rfl,
            spl_jn 32 _ (by simp) (by intro w hw'; exact hw w (by simp at hw' ⊢; rcases hw' with h | h | h | h <;> simp [h])),
            spl_jn 32 _ (by simp) (by
              intro w hw'
              simp only [List.mem_cons, List.not_mem_nil, or_false] at hw'
              rcases hw' with rfl | rfl | rfl | rfl
              · exact (arg_hi pa ha).no32
              · exact (TL_hi pm hm).no32
              · exact (WL_hi pk).no32
              · exact (TL_hi pv hv).no32)] at hsp
          simp only [List.cons.injEq, and_true] at hsp
          obtain ⟨e1, e2, e3, e4⟩ := hsp
          refine ⟨?_, ?_⟩
          · simp only [condsW, condWs, S61of, Int.toNat_natCast]
            rw [← i1, e1, e2, e3, e4, hj]; rfl
          · intro c' hc'
            rcases List.mem_cons.1 hc' with rfl | hc'
            · exact ⟨(rightB_iff _ _).2 (by simp only [S61of]; omega), by simp only [S61of, u64P]; omega, by simp only [S61of, u64P]; omega⟩
            · exact i2 c' hc'
      · simp at h
theorem toN {v : Int} (h : u32P v) : v.toNat < 4294967296 ∧ ((v.toNat : Nat) : Int) = v := by unfold u32P at h; omega
theorem words_ruleV {ws : List (List UInt8)} {x : P.S40} (hw : ∀ w ∈ ws, (32 : UInt8) ∉ w) (h : ruleV ws = some x) : ws = ruleWs x ∧ ruleOk x := by
  rcases ws with _ | ⟨m, _ | ⟨c, _ | ⟨a, ws⟩⟩⟩ <;> try (simp [ruleV] at h; done)
  simp only [ruleV] at h
  split at h
  · rename_i hok
    obtain ⟨k1, k2, k3⟩ := hok
    rcases text_read good_ML (ofBytes m) with ⟨_, n, hn, en, tn⟩ | h2
    · rw [en] at h k2
      rcases text_read (good_calls (n : Int)) (ofBytes c) with ⟨_, n2, hn2, en2, tn2⟩ | h2
      · rw [en2] at h
        rcases act_readAct (ofBytes a) with ⟨_, v, hv, ev, tv⟩ | h2
        · rw [ev] at h
          cases hc : condsV [105, 102] ws with
          | none => rw [hc] at h; simp at h
          | some cs =>
            rw [hc] at h
            simp only [] at h
            split at h
            · rename_i hl
              injection h with h
              subst h
              obtain ⟨i1, i2⟩ := words_condsV _ ws _ cs (Nat.le_refl _) (fun w hw' => hw w (by simp [hw'])) hc
              refine ⟨?_, by unfold u32P; simp only []; omega, by unfold u32P; simp only []; omega, ⟨by unfold u32P; simp only []; omega, by simp only [Int.toNat_natCast]; rw [tv]⟩, hl, i2⟩
              simp only [ruleWs, machL, callL, actL, Int.toNat_natCast, tn, tn2, tv, data_of]
              rw [← i1]
            · simp at h
        · rw [h2] at k3; simp at k3
      · rw [h2] at k2; simp at k2
    · rw [h2] at k1; simp at k1
  · simp at h
theorem rule_lineV {l : List UInt8} {x : P.S40} (h : lineV l = some (.inl x)) : l = ruleT x ∧ ruleOk x := by
  cases hs : spl 32 l with
  | nil => exact absurd hs (spl_ne _ _)
  | cons w ws =>
    rw [lineV_of hs] at h
    unfold lineW at h
    split at h
    · rename_i hw
      simp only [Option.map_eq_some_iff, Sum.inl.injEq] at h
      obtain ⟨y, h, rfl⟩ := h
      obtain ⟨h1, h2⟩ := words_ruleV (fun w' hw' => spl_mem 32 l w' (by rw [hs]; simp [hw'])) h
      refine ⟨?_, h2⟩
      rw [← jn_spl 32 l, hs, hw, h1]; rfl
    · split at h
      · simp at h
      · simp at h
theorem dflt_lineV {l : List UInt8} {v : Int} (h : lineV l = some (.inr v)) : l = dfltT v ∧ dfOk v := by
  cases hs : spl 32 l with
  | nil => exact absurd hs (spl_ne _ _)
  | cons w ws =>
    rw [lineV_of hs] at h
    unfold lineW at h
    split at h
    · simp at h
    · split at h
      · rename_i hw
        simp only [Option.map_eq_some_iff, Sum.inr.injEq] at h
        obtain ⟨y, h, rfl⟩ := h
        rcases ws with _ | ⟨a, _ | ⟨b, ws⟩⟩
        · simp [dfltV] at h
        · simp only [dfltV] at h
          split at h
          · rename_i hk
            injection h with h
            rcases act_readAct (ofBytes a) with ⟨_, v, hv, ev, tv⟩ | h2
            · rw [ev] at h
              subst h
              have ha : actL (v : Int) = a := by simp only [actL, Int.toNat_natCast, tv, data_of]
              refine ⟨?_, by unfold u32P; omega, by simp only [Int.toNat_natCast]; rw [tv]⟩
              rw [← jn_spl 32 l, hs, hw]; unfold dfltT; rw [ha]
            · rw [h2] at hk; simp at hk
          · simp at h
        · simp [dfltV] at h
      · simp at h
end Go.Proofs.Ytekpbgmmogpbdaa.H
set_option linter.unusedVariables false
set_option linter.unusedSimpArgs false
set_option maxRecDepth 100000
namespace Go.Proofs.Ytekpbgmmogpbdaa.H
open Go.RowKit Go.Proofs.YtekpbgmmogpbdaaW.PrintWords
theorem jn_app (c : UInt8) (a b : List (List UInt8)) (hb : b ≠ []) : jn c (a ++ b) = a.flatMap (fun l => l ++ [c]) ++ jn c b := by
  induction a with
  | nil => rfl
  | cons x a ih =>
    rw [List.cons_append, jn_cons _ _ _ (by simp [hb]), ih]
    simp
theorem polT_jn (L : List P.S40) (df : Int) : polT L df = jn 10 (L.map ruleT ++ [dfltT df, []]) := by
  rw [jn_app _ _ _ (by simp)]
  unfold polT
  rw [List.flatMap_map]
  rfl
theorem pl_only (n : Nat) : ∀ (ls : List (List UInt8)) (at_ : Nat) (done : Bool) (L0 : List P.S40) (d : Int) (L : List P.S40) (df i : Int), ls ≠ [] → plines n ls at_ done L0 d = (L, df, i, 0) → L0.length ≤ 64 →
    i = 0 ∧ L.length ≤ 64 ∧ (if done = true then ls = [[]] ∧ L = L0 ∧ df = d else ∃ Lr, L = L0 ++ Lr ∧ (∀ x ∈ Lr, ruleOk x) ∧ dfOk df ∧ ls = Lr.map ruleT ++ [dfltT df, []]) := by
  intro ls
  induction ls with
  | nil => intro at_ done L0 d L df i h; exact absurd rfl h
  | cons l ls ih =>
    intro at_ done L0 d L df i _ h h64
    by_cases hls : ls = []
    · subst hls
      rw [plines, if_pos rfl] at h
      split at h
      · simp at h
      · rename_i hl
        have hl : l = [] := by simpa using hl
        split at h
        · rename_i hd
          simp only [Prod.mk.injEq] at h
          obtain ⟨rfl, rfl, rfl, _⟩ := h
          exact ⟨rfl, h64, by rw [if_pos hd]; exact ⟨by rw [hl], rfl, rfl⟩⟩
        · simp at h
    · rw [plines, if_neg hls] at h
      split at h
      · simp at h
      · rename_i hd
        rw [if_neg hd]
        cases hv : lineV l with
        | none => rw [hv] at h; simp at h
        | some y =>
          rw [hv] at h
          cases y with
          | inl x =>
            simp only [] at h
            split at h
            · simp at h
            · rename_i hne
              obtain ⟨hl, hok⟩ := rule_lineV hv
              obtain ⟨i1, i2, i3⟩ := ih _ _ _ _ _ _ _ hls h (by simp; omega)
              rw [if_neg (by decide)] at i3
              obtain ⟨Lr, e1, e2, e3, e4⟩ := i3
              refine ⟨i1, i2, x :: Lr, by rw [e1]; simp, ?_, e3, by rw [e4, hl]; rfl⟩
              intro y hy
              rcases List.mem_cons.1 hy with rfl | hy
              · exact hok
              · exact e2 y hy
          | inr v =>
            simp only [] at h
            obtain ⟨hl, hok⟩ := dflt_lineV hv
            obtain ⟨i1, i2, i3⟩ := ih _ _ _ _ _ _ _ hls h h64
            rw [if_pos rfl] at i3
            obtain ⟨e1, e2, e3⟩ := i3
            exact ⟨i1, i2, [], by rw [e2]; simp, by simp, by rw [e3]; exact hok, by rw [e1, hl, e3]; rfl⟩
theorem parse_only {s : List UInt8} {L : List P.S40} {df i : Int} (h : parseV s = (L, df, i, 0)) : s.length ≤ 20000 ∧ s = polT L df ∧ polOk L df ∧ i = 0 := by
  unfold parseV at h
  split at h
  · simp at h
  · rename_i hz
    obtain ⟨h1, h2, h3⟩ := pl_only _ _ _ _ _ _ _ _ _ (spl_ne 10 s) h (by simp)
    rw [if_neg (by decide)] at h3
    obtain ⟨Lr, e1, e2, e3, e4⟩ := h3
    rw [List.nil_append] at e1
    subst e1
    refine ⟨by omega, ?_, ⟨h2, e2, e3⟩, h1⟩
    rw [polT_jn, ← e4, jn_spl]
end Go.Proofs.Ytekpbgmmogpbdaa.H
set_option linter.unusedVariables false
set_option linter.unusedSimpArgs false
set_option maxRecDepth 100000
namespace Go.Proofs.Ytekpbgmmogpbdaa.H
open Go.RowKit Go.Proofs.Ytekpbgmmogpbdaa.P Go.Proofs.YtekpbgmmogpbdaaW.PrintWords
theorem Ev_pos {α : Type} {c : Prop} [Decidable c] {g f : Nat → Option α} {r : α} (hc : c) (h : Ev g r) : Ev (fun n => if c then g n else f n) r := Ev.congr (fun _ => if_pos hc) h
theorem Ev_neg {α : Type} {c : Prop} [Decidable c] {g f : Nat → Option α} {r : α} (hc : ¬ c) (h : Ev f r) : Ev (fun n => if c then g n else f n) r := Ev.congr (fun _ => if_neg hc) h
def condK (c : S61) : Prop := u64P c.f2 ∧ u64P c.f3
def ruleK (x : S40) : Prop := u32P x.f0 ∧ u32P x.f1 ∧ u32P x.f3 ∧ ∀ c ∈ x.f2, condK c
def polK (L : List S40) (df : Int) : Prop := (∀ x ∈ L, ruleK x) ∧ u32P df
def actB (v : Int) : Bool := decide ((actOf v.toNat).2 = 0)
def condsB (cs : List S61) : Bool := cs.all fun c => rightB c.f0 c.f1
def ruleB (x : S40) : Bool := condsB x.f2 && (actB x.f3 && decide (x.f2.length ≤ 4))
def rulesB (L : List S40) : Bool := L.all ruleB
def polB (L : List S40) (df : Int) : Bool := rulesB L && (actB df && decide (L.length ≤ 64))
theorem ruleOk_iff {x : S40} (h : ruleK x) : ruleB x = true ↔ ruleOk x := by
  obtain ⟨h0, h1, h3, h4⟩ := h
  simp only [ruleB, condsB, actB, Bool.and_eq_true, decide_eq_true_eq, List.all_eq_true]
  constructor
  · rintro ⟨a, b, c⟩
    exact ⟨h0, h1, ⟨h3, b⟩, c, fun y hy => ⟨a y hy, (h4 y hy).1, (h4 y hy).2⟩⟩
  · rintro ⟨_, _, ⟨_, b⟩, c, d⟩
    exact ⟨fun y hy => (d y hy).1, b, c⟩
theorem polOk_iff {L : List S40} {df : Int} (h : polK L df) : polB L df = true ↔ polOk L df := by
  simp only [polB, rulesB, actB, Bool.and_eq_true, decide_eq_true_eq, List.all_eq_true]
  constructor
  · rintro ⟨a, b, c⟩
    exact ⟨c, fun x hx => (ruleOk_iff (h.1 x hx)).1 (a x hx), h.2, b⟩
  · rintro ⟨a, b, c, d⟩
    exact ⟨fun x hx => (ruleOk_iff (h.1 x hx)).2 (b x hx), d, a⟩
theorem ruleOk_K {x : S40} (h : ruleOk x) : ruleK x := ⟨h.1, h.2.1, h.2.2.1.1, fun c hc => (h.2.2.2.2 c hc).2⟩
theorem polOk_K {L : List S40} {df : Int} (h : polOk L df) : polK L df := ⟨fun x hx => ruleOk_K (h.2.1 x hx), h.2.2.1⟩
theorem wS (n : Nat) (h : n ≤ 1000000) : wrap64 ((n : Int) + 1) = ((n + 1 : Nat) : Int) := by unfold wrap64; omega
theorem rd61 (l : List S61) (i : Nat) (h : i < l.length) : rd_T61 l (i : Int) = l[i] := by
  unfold rd_T61; rw [Int.toNat_natCast, List.getD_eq_getElem?_getD, List.getElem?_eq_getElem h]; rfl
theorem rd40 (l : List S40) (i : Nat) (h : i < l.length) : rd_T40 l (i : Int) = l[i] := by
  unfold rd_T40; rw [Int.toNat_natCast, List.getD_eq_getElem?_getD, List.getElem?_eq_getElem h]; rfl
theorem cond_Right_f (a b c d : Int) : cond_Right.f a b c d = some (rightB a b) := by
  unfold cond_Right.f rightB
  by_cases h1 : a ≥ 0
  · rw [if_pos h1]
    by_cases h2 : a < 6
    · rw [if_pos h2]
      by_cases h3 : b ≥ 0
      · rw [if_pos h3]; simp [h1, h2, h3]
      · rw [if_neg h3]; simp [h1, h2]; omega
    · rw [if_neg h2]; simp [h2]
  · rw [if_neg h1]; simp [h1]
theorem names_Action_f {v : Int} (h : u32P v) : names_Action.f v = some (actOf v.toNat) := by unfold names_Action.f; rw [if_pos h]
theorem may_l0 (f0 f1 f3 : Int) (h3 : u32P f3) (cs l : List S61) (hl : cs.length ≤ 1000) : ∀ (d i : Nat), i + d = cs.length →
    Ev (fun k => policy_may.l0 k cs (cs.length : Int) (i : Int) f0 f1 l f3) (condsB (cs.drop i) && (actB f3 && decide (l.length ≤ 4))) := by
  intro d
  induction d with
  | zero =>
    intro i hi
    refine Ev.step (f := fun _ => some (condsB (cs.drop i) && (actB f3 && decide (l.length ≤ 4)))) (fun k => ?_) (Ev.now _)
    simp only [policy_may.l0]
    rw [if_neg (by omega), names_Action_f h3, Option.bind_some, List.drop_eq_nil_of_le (by omega)]
    unfold condsB actB
    by_cases h : (actOf f3.toNat).2 = 0
    · rw [if_pos h]; simp only [h, List.all_nil, decide_true, Bool.true_and]; congr 1; exact decide_eq_decide.2 (by omega)
    · rw [if_neg h]; simp [h]
  | succ d ih =>
    intro i hi
    have hlt : i < cs.length := by omega
    have hd : cs.drop i = cs[i] :: cs.drop (i + 1) := List.drop_eq_getElem_cons hlt
    by_cases hr : rightB cs[i].f0 cs[i].f1 = true
    · refine Ev.step (f := fun k => policy_may.l0 k cs (cs.length : Int) ((i + 1 : Nat) : Int) f0 f1 l f3) (fun k => ?_) ?_
      · simp only [policy_may.l0]
        rw [if_pos (by omega), if_pos (by omega), if_pos (by omega), rd61 cs i hlt, cond_Right_f, Option.bind_some, if_pos hr, wS i (by omega)]
      · rw [hd, show condsB (cs[i] :: cs.drop (i + 1)) = condsB (cs.drop (i + 1)) by simp only [condsB, List.all_cons, hr, Bool.true_and]]
        exact ih (i + 1) (by omega)
    · refine Ev.step (f := fun _ => some false) (fun k => ?_) ?_
      · simp only [policy_may.l0]
        rw [if_pos (by omega), if_pos (by omega), if_pos (by omega), rd61 cs i hlt, cond_Right_f, Option.bind_some, if_neg hr]
      · rw [hd, show condsB (cs[i] :: cs.drop (i + 1)) = false by simp only [condsB, List.all_cons]; rw [Bool.eq_false_iff.2 hr]; rfl]
        exact Ev.now _
theorem may_ev (x : S40) (h3 : u32P x.f3) (hl : x.f2.length ≤ 1000) : Ev (fun k => policy_may.f k x.f0 x.f1 x.f2 x.f3) (ruleB x) := may_l0 x.f0 x.f1 x.f3 h3 x.f2 x.f2 hl x.f2.length 0 (by omega)
theorem right_l0 (df : Int) (h3 : u32P df) (L M : List S40) (hl : L.length ≤ 1000) (hk : ∀ x ∈ L, u32P x.f3 ∧ x.f2.length ≤ 1000) : ∀ (d i : Nat), i + d = L.length →
    Ev (fun k => policy_Right.l0 k L (L.length : Int) (i : Int) M df) (rulesB (L.drop i) && (actB df && decide (M.length ≤ 64))) := by
  intro d
  induction d with
  | zero =>
    intro i hi
    refine Ev.step (f := fun _ => some (rulesB (L.drop i) && (actB df && decide (M.length ≤ 64)))) (fun k => ?_) (Ev.now _)
    simp only [policy_Right.l0]
    rw [if_neg (by omega), names_Action_f h3, Option.bind_some, List.drop_eq_nil_of_le (by omega)]
    unfold rulesB actB
    by_cases h : (actOf df.toNat).2 = 0
    · rw [if_pos h]; simp only [h, List.all_nil, decide_true, Bool.true_and]; congr 1; exact decide_eq_decide.2 (by omega)
    · rw [if_neg h]; simp [h]
  | succ d ih =>
    intro i hi
    have hlt : i < L.length := by omega
    have hd : L.drop i = L[i] :: L.drop (i + 1) := List.drop_eq_getElem_cons hlt
    have hx := hk L[i] (List.getElem_mem hlt)
    refine Ev.step (f := fun k => (policy_may.f k L[i].f0 L[i].f1 L[i].f2 L[i].f3).bind fun t => if t = true then policy_Right.l0 k L (L.length : Int) ((i + 1 : Nat) : Int) M df else some false) (fun k => ?_) ?_
    · simp only [policy_Right.l0]
      rw [if_pos (by omega), if_pos (by omega), if_pos (by omega), rd40 L i hlt, wS i (by omega)]
    · refine Ev.bind (may_ev L[i] hx.1 hx.2) ?_
      by_cases hr : ruleB L[i] = true
      · rw [hd, show rulesB (L[i] :: L.drop (i + 1)) = rulesB (L.drop (i + 1)) by simp only [rulesB, List.all_cons, hr, Bool.true_and]]
        exact Ev.congr (fun k => if_pos hr) (ih (i + 1) (by omega))
      · rw [hd, show rulesB (L[i] :: L.drop (i + 1)) = false by simp only [rulesB, List.all_cons]; rw [Bool.eq_false_iff.2 hr]; rfl]
        exact Ev.congr (fun k => if_neg hr) (Ev.now _)
theorem right_ev (L : List S40) (df : Int) (h : polK L df) (hl : L.length ≤ 1000) (hc : ∀ x ∈ L, x.f2.length ≤ 1000) : Ev (fun k => policy_Right.f k L df) (polB L df) :=
  right_l0 df h.2 L L hl (fun x hx => ⟨(h.1 x hx).2.2.1, hc x hx⟩) L.length 0 (by omega)
end Go.Proofs.Ytekpbgmmogpbdaa.H
set_option linter.unusedVariables false
set_option linter.unusedSimpArgs false
set_option maxRecDepth 100000
namespace Go.Proofs.Ytekpbgmmogpbdaa.H
open Go.RowKit Go.Proofs.Ytekpbgmmogpbdaa.P Go.Proofs.YtekpbgmmogpbdaaW.PrintWords Go.Proofs.YtekpbgmmogpbdaaW.PrintLast Go.Proofs.YtekpbgmmogpbdaaW.PrintMore
attribute [local go_sem] max2_int min2_int max_two min_two max_three min_three max_four min_four
def condsH (cs : List S61) (ags : List Int) : Bool := cs.all fun x => holdsB x.f0 x.f1 x.f2 x.f3 ags
def fitsB (ar nr : Int) (cs : List S61) (dn da : Int) (ags : List Int) : Bool := decide (ar = da) && (decide (nr = dn) && condsH cs ags)
set_option maxHeartbeats 4000000 in
theorem Fits_lit (ar nr ac : Int) (A : Option Addr) (c : Nat) (cs : List S61) (dn da di y0 y1 y2 y3 y4 y5 : Int) (hd : IsDat dn da di [y0, y1, y2, y3, y4, y5]) (hk : ∀ x ∈ cs, u64P x.f2) (hc : cs.length ≤ c) (w : World) (hC : k61.C w A cs.length cs) :
    Calls Try.prog 26 #[.agg #[.int .u32 ar, .int .u32 nr, .slice A cs.length c, .int .u32 ac], .agg #[.int .u32 dn, .int .u32 da, .int .u64 di, .int .u64 y0, .int .u64 y1, .int .u64 y2, .int .u64 y3, .int .u64 y4, .int .u64 y5]] w fun e w' => e = .returned (.bool (fitsB ar nr cs dn da [y0, y1, y2, y3, y4, y5])) ∧ Below w.heap.size w w' := by
  have HB := Aside0.mk (Below.refl w.heap.size w)
  have HC := Aside0.mk hC
  have HN : Aside0 (cs.length ≤ 9223372036854775807) := ⟨hC.2.1⟩
  have HH : Aside0 (∀ x ∈ cs, ∀ W : World, Calls Try.prog 46 #[.agg #[.int .i64 x.f0, .int .i64 x.f1, .int .u64 x.f2, .int .u64 x.f3], .agg #[.int .u32 dn, .int .u32 da, .int .u64 di, .int .u64 y0, .int .u64 y1, .int .u64 y2, .int .u64 y3, .int .u64 y4, .int .u64 y5]] W fun e w' => e = .returned (.bool (holdsB x.f0 x.f1 x.f2 x.f3 [y0, y1, y2, y3, y4, y5])) ∧ Below W.heap.size W w') := ⟨fun x hx W => Holds_walk x.f0 x.f1 x.f2 x.f3 dn da di _ hd (hk x hx) W⟩
  clear hC hk hd
  by_cases h1 : ar = da ∧ nr = dn
  · obtain ⟨h1, h2⟩ := h1
    have e1 : (ar == da) = true := by simpa using h1
    have e2 : (nr == dn) = true := by simpa using h2
    have e1n : (ar != da) = false := by simpa using h1
    have e2n : (nr != dn) = false := by simpa using h2
    have HF := Aside0.mk (show fitsB ar nr cs dn da [y0, y1, y2, y3, y4, y5] = condsH cs [y0, y1, y2, y3, y4, y5] by simp [fitsB, h1, h2])
    clear h1 h2
    go_enter Try.func26, Try.ntmps26
    go_wp2_with (first | ((with_reducible refine gate_dst (N := 2) rfl ?_); (try (refine gate_guard (by rfl) ?_; dsimp only)); refine box_event ?hg (N := 2) ?hd (cs := #[.int .u32 ar, .int .u32 nr, .slice A cs.length c, .int .u32 ac]) (t := 40) ?hr ?_; (case hd => rfl); (case hg => rfl); (case hr => first | (go_simp; done) | (go_simp; rfl)); intro gx hgx w1 hbox hbx; have n0_ := Aside0.mk (below_step HB.out hbx); have n1_ := Aside0.mk hbox; clear HB hbx hbox hgx; have HB := n0_; have BKX := n1_; clear n0_ n1_) | ((with_reducible refine gate_dst (N := 3) rfl ?_); (try (refine gate_guard (by rfl) ?_; dsimp only)); refine box_event ?hg (N := 3) ?hd (cs := #[.int .u32 dn, .int .u32 da, .int .u64 di, .int .u64 y0, .int .u64 y1, .int .u64 y2, .int .u64 y3, .int .u64 y4, .int .u64 y5]) (t := 44) ?hr ?_; (case hd => rfl); (case hg => rfl); (case hr => first | (go_simp; done) | (go_simp; rfl)); intro gd hgx w2 hbox hbx; have n0_ := Aside0.mk (below_step HB.out hbx); have n1_ := Aside0.mk (blk_below BKX.out hbx); have n2_ := Aside0.mk hbox; have NXD := Aside0.mk (by rw [hgx]; exact Nat.ne_of_lt (blk_lt BKX.out) : gx ≠ gd); clear HB BKX hbx hbox hgx; have HB := n0_; have BKX := n1_; have BKD := n2_; clear n0_ n1_ n2_; have hx0 : w2.cell? ⟨gx, 0, none⟩ = some (.int .u32 ar) := (blk_cell BKX.out 0).trans rfl; have hx1 : w2.cell? ⟨gx, 1, none⟩ = some (.int .u32 nr) := (blk_cell BKX.out 1).trans rfl; have hx2 : w2.cell? ⟨gx, 2, none⟩ = some (.slice A cs.length c) := (blk_cell BKX.out 2).trans rfl; have hx3 : w2.cell? ⟨gx, 3, none⟩ = some (.int .u32 ac) := (blk_cell BKX.out 3).trans rfl; have hd0 : w2.cell? ⟨gd, 0, none⟩ = some (.int .u32 dn) := (blk_cell BKD.out 0).trans rfl; have hd1 : w2.cell? ⟨gd, 1, none⟩ = some (.int .u32 da) := (blk_cell BKD.out 1).trans rfl; have hd2 : w2.cell? ⟨gd, 2, none⟩ = some (.int .u64 di) := (blk_cell BKD.out 2).trans rfl; have hd3 : w2.cell? ⟨gd, 3, none⟩ = some (.int .u64 y0) := (blk_cell BKD.out 3).trans rfl; have hd4 : w2.cell? ⟨gd, 4, none⟩ = some (.int .u64 y1) := (blk_cell BKD.out 4).trans rfl; have hd5 : w2.cell? ⟨gd, 5, none⟩ = some (.int .u64 y2) := (blk_cell BKD.out 5).trans rfl; have hd6 : w2.cell? ⟨gd, 6, none⟩ = some (.int .u64 y3) := (blk_cell BKD.out 6).trans rfl; have hd7 : w2.cell? ⟨gd, 7, none⟩ = some (.int .u64 y4) := (blk_cell BKD.out 7).trans rfl; have hd8 : w2.cell? ⟨gd, 8, none⟩ = some (.int .u64 y5) := (blk_cell BKD.out 8).trans rfl))
    clear hx0 hx1 hx2 hx3 hd0 hd1 hd2 hd3 hd4 hd5 hd6 hd7 hd8 e1 e2 e1n e2n
    go_loopw [22] (fun v22 wr => ∃ i : Nat, v22 = .int .i64 i ∧ i ≤ cs.length ∧ Aside0 (condsH (cs.drop i) [y0, y1, y2, y3, y4, y5] = condsH cs [y0, y1, y2, y3, y4, y5]) ∧ Aside0 (wr.heap[gx]? = some (.cells #[.int .u32 ar, .int .u32 nr, .slice A cs.length c, .int .u32 ac] 40 (0, 0))) ∧ Aside0 (wr.heap[gd]? = some (.cells #[.int .u32 dn, .int .u32 da, .int .u64 di, .int .u64 y0, .int .u64 y1, .int .u64 y2, .int .u64 y3, .int .u64 y4, .int .u64 y5] 44 (0, 0))) ∧ Aside0 (k61.C wr A cs.length cs) ∧ Aside0 (Below w.heap.size w wr)) (fun v22 _ => cs.length - (intOf v22).toNat)
    case atStart => exact ⟨0, rfl, Nat.zero_le _, ⟨rfl⟩, BKX, BKD, ⟨Kd.C_below HC.out (HB.out)⟩, HB⟩
    case round =>
      clear BKX BKD HC HB
      obtain ⟨i, rfl, hi, HT, BKX, BKD, HC, HB⟩ := hrel
      by_cases hlt : i < cs.length
      · have hii : (0 : Int) ≤ (i : Int) := by omega
        obtain ⟨x, hx⟩ : ∃ x, rd_T61 cs (i : Int) = x := ⟨_, rfl⟩
        have hxe : x = cs[i] := by rw [← hx, rd61 cs i hlt]
        have hxm : x ∈ cs := by rw [hxe]; exact List.getElem_mem hlt
        obtain ⟨ad, e, g0, g1, g2, g3⟩ := at_T61 HC.out (i : Int) hii (by omega)
        subst e
        rw [hx] at g0 g1 g2 g3
        simp only [Int.toNat_natCast] at g0 g1 g2 g3
        have HX := Aside0.mk (HH.out x hxm)
        have hdr : condsH (cs.drop i) [y0, y1, y2, y3, y4, y5] = (holdsB x.f0 x.f1 x.f2 x.f3 [y0, y1, y2, y3, y4, y5] && condsH (cs.drop (i + 1)) [y0, y1, y2, y3, y4, y5]) := by
          rw [List.drop_eq_getElem_cons hlt, ← hxe]; rfl
        have HDRR := Aside0.mk hdr
        clear hdr hxe hxm hx
        have hN := HN.out
        have p := eq_true hii
        have q : ((i : Int) < (cs.length : Int)) = True := eq_true (by omega)
        have qb : decide ((i : Int) < (cs.length : Int)) = true := decide_eq_true (by omega)
        cases hb : holdsB x.f0 x.f1 x.f2 x.f3 [y0, y1, y2, y3, y4, y5] with
        | true =>
          rw [hb] at HX HDRR
          clear hb
          go_wp2_with (first | ((with_reducible refine gate_dst (N := 6) rfl ?_); (try (refine gate_guard (by rfl) ?_; dsimp only)); refine box_event ?hg (N := 6) ?hd (cs := #[.int .i64 0, .int .i64 0, .int .u64 0, .int .u64 0]) (t := 61) ?hr ?_; (case hd => rfl); (case hg => rfl); (case hr => first | (go_simp; done) | (go_simp; rfl)); intro gc hgx w3 hbox hbx; have HX9 : Aside0 (Below wr.heap.size wr w3) := ⟨hbx⟩; have HGX : Aside0 (wr.heap.size ≤ gc) := ⟨by rw [hgx]; exact Nat.le_refl _⟩; have BKC := Aside0.mk hbox; clear hbx hbox hgx; have hc0 : w3.cell? ⟨gc, 0, none⟩ = some (.int .i64 0) := (blk_cell BKC.out 0).trans rfl; have hc1 : w3.cell? ⟨gc, 1, none⟩ = some (.int .i64 0) := (blk_cell BKC.out 1).trans rfl; have hc2 : w3.cell? ⟨gc, 2, none⟩ = some (.int .u64 0) := (blk_cell BKC.out 2).trans rfl; have hc3 : w3.cell? ⟨gc, 3, none⟩ = some (.int .u64 0) := (blk_cell BKC.out 3).trans rfl; have hf0 : w3.frozen? ⟨gc, 0, none⟩ = false := blk_frozen BKC.out 0; have hf1 : w3.frozen? ⟨gc, 1, none⟩ = false := blk_frozen BKC.out 1; have hf2 : w3.frozen? ⟨gc, 2, none⟩ = false := blk_frozen BKC.out 2; have hf3 : w3.frozen? ⟨gc, 3, none⟩ = false := blk_frozen BKC.out 3; have g0 := (pw_cell_below HX9.out g0); have g1 := (pw_cell_below HX9.out g1); have g2 := (pw_cell_below HX9.out g2); have g3 := (pw_cell_below HX9.out g3)) | ((with_reducible refine gate_store (t := 61) (p := 6) rfl ?_); refine store_event (t := 61) (p := 6) (v := ?vo_) (w1 := ((((w3.setCell ⟨gc, 0, none⟩ (.int .i64 x.f0)).setCell ⟨gc, 1, none⟩ (.int .i64 x.f1)).setCell ⟨gc, 2, none⟩ (.int .u64 x.f2)).setCell ⟨gc, 3, none⟩ (.int .u64 x.f3))) ?hg ?ho ?hn ?hr ?_; (case ho => rfl); (case hg => rfl); (case hn => rfl); (case hr => first | (go_simp; done) | (go_simp; rfl)); intro w4 hw; have n0_ : Aside0 (Below wr.heap.size wr w4) := ⟨by rw [hw]; exact below_set (below_set (below_set (below_set HX9.out HGX.out) HGX.out) HGX.out) HGX.out⟩; have n1_ : Aside0 (w4.heap[gc]? = some (.cells #[.int .i64 x.f0, .int .i64 x.f1, .int .u64 x.f2, .int .u64 x.f3] 61 (0, 0))) := ⟨by rw [hw]; exact (blk_put (cs := #[.int .i64 x.f0, .int .i64 x.f1, .int .u64 x.f2, .int .u64 0]) (blk_put (cs := #[.int .i64 x.f0, .int .i64 x.f1, .int .u64 0, .int .u64 0]) (blk_put (cs := #[.int .i64 x.f0, .int .i64 0, .int .u64 0, .int .u64 0]) (blk_put (cs := #[.int .i64 0, .int .i64 0, .int .u64 0, .int .u64 0]) BKC.out 0 _ rfl) 1 _ rfl) 2 _ rfl) 3 _ rfl)⟩; have n2_ := Aside0.mk (blk_below BKX.out n0_.out); have n3_ := Aside0.mk (blk_below BKD.out n0_.out); have n4_ := Aside0.mk (Kd.C_below HC.out n0_.out); have n5_ := Aside0.mk (below_step HB.out n0_.out); clear hw HX9 HGX BKC BKX BKD HC HB n0_ hc0 hc1 hc2 hc3 hf0 hf1 hf2 hf3 g0 g1 g2 g3; have BKC := n1_; have BKX := n2_; have BKD := n3_; have HC := n4_; have HB := n5_; clear n1_ n2_ n3_ n4_ n5_; have hc0 : w4.cell? ⟨gc, 0, none⟩ = some (.int .i64 x.f0) := (blk_cell BKC.out 0).trans rfl; have hc1 : w4.cell? ⟨gc, 1, none⟩ = some (.int .i64 x.f1) := (blk_cell BKC.out 1).trans rfl; have hc2 : w4.cell? ⟨gc, 2, none⟩ = some (.int .u64 x.f2) := (blk_cell BKC.out 2).trans rfl; have hc3 : w4.cell? ⟨gc, 3, none⟩ = some (.int .u64 x.f3) := (blk_cell BKC.out 3).trans rfl; have hd0 : w4.cell? ⟨gd, 0, none⟩ = some (.int .u32 dn) := (blk_cell BKD.out 0).trans rfl; have hd1 : w4.cell? ⟨gd, 1, none⟩ = some (.int .u32 da) := (blk_cell BKD.out 1).trans rfl; have hd2 : w4.cell? ⟨gd, 2, none⟩ = some (.int .u64 di) := (blk_cell BKD.out 2).trans rfl; have hd3 : w4.cell? ⟨gd, 3, none⟩ = some (.int .u64 y0) := (blk_cell BKD.out 3).trans rfl; have hd4 : w4.cell? ⟨gd, 4, none⟩ = some (.int .u64 y1) := (blk_cell BKD.out 4).trans rfl; have hd5 : w4.cell? ⟨gd, 5, none⟩ = some (.int .u64 y2) := (blk_cell BKD.out 5).trans rfl; have hd6 : w4.cell? ⟨gd, 6, none⟩ = some (.int .u64 y3) := (blk_cell BKD.out 6).trans rfl; have hd7 : w4.cell? ⟨gd, 7, none⟩ = some (.int .u64 y4) := (blk_cell BKD.out 7).trans rfl; have hd8 : w4.cell? ⟨gd, 8, none⟩ = some (.int .u64 y5) := (blk_cell BKD.out 8).trans rfl) | ((with_reducible refine gate_callee (f := 46) rfl ?_); refine goesL_ (some 28) rfl rfl Try.func46 (by kernel_rfl) rfl #[.agg #[.int .i64 x.f0, .int .i64 x.f1, .int .u64 x.f2, .int .u64 x.f3], .agg #[.int .u32 dn, .int .u32 da, .int .u64 di, .int .u64 y0, .int .u64 y1, .int .u64 y2, .int .u64 y3, .int .u64 y4, .int .u64 y5]] rfl (by (try simp only [List.map_toArray, List.map_cons, List.map_nil]); first | done | rfl | (simp only [List.length_drop, List.length_take]; rfl)) ?_; (refine (HX.out _).mono ?_); rintro e w5 ⟨rfl, hb⟩; refine ⟨_, rfl, ?_⟩; have n2_ := Aside0.mk (blk_below BKX.out hb); have n3_ := Aside0.mk (blk_below BKD.out hb); have n4_ := Aside0.mk (Kd.C_below HC.out hb); have n5_ := Aside0.mk (below_step HB.out hb); clear BKX BKD HC HB BKC hb hc0 hc1 hc2 hc3 hd0 hd1 hd2 hd3 hd4 hd5 hd6 hd7 hd8; have BKX := n2_; have BKD := n3_; have HC := n4_; have HB := n5_; clear n2_ n3_ n4_ n5_))
          go_roundw
          case rel => exact ⟨i + 1, by go_num, by omega, ⟨by rw [← HT.out, HDRR.out, Bool.true_and]⟩, BKX, BKD, HC, HB⟩
          case measure => simp [intOf]; omega
        | false =>
          rw [hb] at HX HDRR
          clear hb
          go_wp2_with (first | ((with_reducible refine gate_dst (N := 6) rfl ?_); (try (refine gate_guard (by rfl) ?_; dsimp only)); refine box_event ?hg (N := 6) ?hd (cs := #[.int .i64 0, .int .i64 0, .int .u64 0, .int .u64 0]) (t := 61) ?hr ?_; (case hd => rfl); (case hg => rfl); (case hr => first | (go_simp; done) | (go_simp; rfl)); intro gc hgx w3 hbox hbx; have HX9 : Aside0 (Below wr.heap.size wr w3) := ⟨hbx⟩; have HGX : Aside0 (wr.heap.size ≤ gc) := ⟨by rw [hgx]; exact Nat.le_refl _⟩; have BKC := Aside0.mk hbox; clear hbx hbox hgx; have hc0 : w3.cell? ⟨gc, 0, none⟩ = some (.int .i64 0) := (blk_cell BKC.out 0).trans rfl; have hc1 : w3.cell? ⟨gc, 1, none⟩ = some (.int .i64 0) := (blk_cell BKC.out 1).trans rfl; have hc2 : w3.cell? ⟨gc, 2, none⟩ = some (.int .u64 0) := (blk_cell BKC.out 2).trans rfl; have hc3 : w3.cell? ⟨gc, 3, none⟩ = some (.int .u64 0) := (blk_cell BKC.out 3).trans rfl; have hf0 : w3.frozen? ⟨gc, 0, none⟩ = false := blk_frozen BKC.out 0; have hf1 : w3.frozen? ⟨gc, 1, none⟩ = false := blk_frozen BKC.out 1; have hf2 : w3.frozen? ⟨gc, 2, none⟩ = false := blk_frozen BKC.out 2; have hf3 : w3.frozen? ⟨gc, 3, none⟩ = false := blk_frozen BKC.out 3; have g0 := (pw_cell_below HX9.out g0); have g1 := (pw_cell_below HX9.out g1); have g2 := (pw_cell_below HX9.out g2); have g3 := (pw_cell_below HX9.out g3)) | ((with_reducible refine gate_store (t := 61) (p := 6) rfl ?_); refine store_event (t := 61) (p := 6) (v := ?vo_) (w1 := ((((w3.setCell ⟨gc, 0, none⟩ (.int .i64 x.f0)).setCell ⟨gc, 1, none⟩ (.int .i64 x.f1)).setCell ⟨gc, 2, none⟩ (.int .u64 x.f2)).setCell ⟨gc, 3, none⟩ (.int .u64 x.f3))) ?hg ?ho ?hn ?hr ?_; (case ho => rfl); (case hg => rfl); (case hn => rfl); (case hr => first | (go_simp; done) | (go_simp; rfl)); intro w4 hw; have n0_ : Aside0 (Below wr.heap.size wr w4) := ⟨by rw [hw]; exact below_set (below_set (below_set (below_set HX9.out HGX.out) HGX.out) HGX.out) HGX.out⟩; have n1_ : Aside0 (w4.heap[gc]? = some (.cells #[.int .i64 x.f0, .int .i64 x.f1, .int .u64 x.f2, .int .u64 x.f3] 61 (0, 0))) := ⟨by rw [hw]; exact (blk_put (cs := #[.int .i64 x.f0, .int .i64 x.f1, .int .u64 x.f2, .int .u64 0]) (blk_put (cs := #[.int .i64 x.f0, .int .i64 x.f1, .int .u64 0, .int .u64 0]) (blk_put (cs := #[.int .i64 x.f0, .int .i64 0, .int .u64 0, .int .u64 0]) (blk_put (cs := #[.int .i64 0, .int .i64 0, .int .u64 0, .int .u64 0]) BKC.out 0 _ rfl) 1 _ rfl) 2 _ rfl) 3 _ rfl)⟩; have n2_ := Aside0.mk (blk_below BKX.out n0_.out); have n3_ := Aside0.mk (blk_below BKD.out n0_.out); have n4_ := Aside0.mk (Kd.C_below HC.out n0_.out); have n5_ := Aside0.mk (below_step HB.out n0_.out); clear hw HX9 HGX BKC BKX BKD HC HB n0_ hc0 hc1 hc2 hc3 hf0 hf1 hf2 hf3 g0 g1 g2 g3; have BKC := n1_; have BKX := n2_; have BKD := n3_; have HC := n4_; have HB := n5_; clear n1_ n2_ n3_ n4_ n5_; have hc0 : w4.cell? ⟨gc, 0, none⟩ = some (.int .i64 x.f0) := (blk_cell BKC.out 0).trans rfl; have hc1 : w4.cell? ⟨gc, 1, none⟩ = some (.int .i64 x.f1) := (blk_cell BKC.out 1).trans rfl; have hc2 : w4.cell? ⟨gc, 2, none⟩ = some (.int .u64 x.f2) := (blk_cell BKC.out 2).trans rfl; have hc3 : w4.cell? ⟨gc, 3, none⟩ = some (.int .u64 x.f3) := (blk_cell BKC.out 3).trans rfl; have hd0 : w4.cell? ⟨gd, 0, none⟩ = some (.int .u32 dn) := (blk_cell BKD.out 0).trans rfl; have hd1 : w4.cell? ⟨gd, 1, none⟩ = some (.int .u32 da) := (blk_cell BKD.out 1).trans rfl; have hd2 : w4.cell? ⟨gd, 2, none⟩ = some (.int .u64 di) := (blk_cell BKD.out 2).trans rfl; have hd3 : w4.cell? ⟨gd, 3, none⟩ = some (.int .u64 y0) := (blk_cell BKD.out 3).trans rfl; have hd4 : w4.cell? ⟨gd, 4, none⟩ = some (.int .u64 y1) := (blk_cell BKD.out 4).trans rfl; have hd5 : w4.cell? ⟨gd, 5, none⟩ = some (.int .u64 y2) := (blk_cell BKD.out 5).trans rfl; have hd6 : w4.cell? ⟨gd, 6, none⟩ = some (.int .u64 y3) := (blk_cell BKD.out 6).trans rfl; have hd7 : w4.cell? ⟨gd, 7, none⟩ = some (.int .u64 y4) := (blk_cell BKD.out 7).trans rfl; have hd8 : w4.cell? ⟨gd, 8, none⟩ = some (.int .u64 y5) := (blk_cell BKD.out 8).trans rfl) | ((with_reducible refine gate_callee (f := 46) rfl ?_); refine goesL_ (some 28) rfl rfl Try.func46 (by kernel_rfl) rfl #[.agg #[.int .i64 x.f0, .int .i64 x.f1, .int .u64 x.f2, .int .u64 x.f3], .agg #[.int .u32 dn, .int .u32 da, .int .u64 di, .int .u64 y0, .int .u64 y1, .int .u64 y2, .int .u64 y3, .int .u64 y4, .int .u64 y5]] rfl (by (try simp only [List.map_toArray, List.map_cons, List.map_nil]); first | done | rfl | (simp only [List.length_drop, List.length_take]; rfl)) ?_; (refine (HX.out _).mono ?_); rintro e w5 ⟨rfl, hb⟩; refine ⟨_, rfl, ?_⟩; have n2_ := Aside0.mk (blk_below BKX.out hb); have n3_ := Aside0.mk (blk_below BKD.out hb); have n4_ := Aside0.mk (Kd.C_below HC.out hb); have n5_ := Aside0.mk (below_step HB.out hb); clear BKX BKD HC HB BKC hb hc0 hc1 hc2 hc3 hd0 hd1 hd2 hd3 hd4 hd5 hd6 hd7 hd8; have BKX := n2_; have BKD := n3_; have HC := n4_; have HB := n5_; clear n2_ n3_ n4_ n5_))
          go_ret
          exact ⟨by rw [HF.out, ← HT.out, HDRR.out, Bool.false_and]; rfl, HB.out⟩
      · have qb : decide ((i : Int) < (cs.length : Int)) = false := decide_eq_false (by omega)
        have q : ((i : Int) < (cs.length : Int)) = False := eq_false (by omega)
        go_wp2
        go_ret
        exact ⟨by rw [HF.out, ← HT.out, List.drop_eq_nil_of_le (by omega)]; rfl, HB.out⟩
  · have HF := Aside0.mk (show fitsB ar nr cs dn da [y0, y1, y2, y3, y4, y5] = false by
      simp only [fitsB]
      by_cases h2 : ar = da
      · have h3 : ¬ nr = dn := fun h => h1 ⟨h2, h⟩
        simp [h3]
      · simp [h2])
    by_cases h2 : ar = da
    · have h3 : ¬ nr = dn := fun h => h1 ⟨h2, h⟩
      have e1 : (ar == da) = true := by simpa using h2
      have e2 : (nr == dn) = false := by simpa using h3
      have e1n : (ar != da) = false := by simpa using h2
      have e2n : (nr != dn) = true := by simpa using h3
      clear h1 h2 h3
      go_enter Try.func26, Try.ntmps26
      go_wp2_with (first | ((with_reducible refine gate_dst (N := 2) rfl ?_); (try (refine gate_guard (by rfl) ?_; dsimp only)); refine box_event ?hg (N := 2) ?hd (cs := #[.int .u32 ar, .int .u32 nr, .slice A cs.length c, .int .u32 ac]) (t := 40) ?hr ?_; (case hd => rfl); (case hg => rfl); (case hr => first | (go_simp; done) | (go_simp; rfl)); intro gx hgx w1 hbox hbx; have n0_ := Aside0.mk (below_step HB.out hbx); have n1_ := Aside0.mk hbox; clear HB hbx hbox hgx; have HB := n0_; have BKX := n1_; clear n0_ n1_) | ((with_reducible refine gate_dst (N := 3) rfl ?_); (try (refine gate_guard (by rfl) ?_; dsimp only)); refine box_event ?hg (N := 3) ?hd (cs := #[.int .u32 dn, .int .u32 da, .int .u64 di, .int .u64 y0, .int .u64 y1, .int .u64 y2, .int .u64 y3, .int .u64 y4, .int .u64 y5]) (t := 44) ?hr ?_; (case hd => rfl); (case hg => rfl); (case hr => first | (go_simp; done) | (go_simp; rfl)); intro gd hgx w2 hbox hbx; have n0_ := Aside0.mk (below_step HB.out hbx); have n1_ := Aside0.mk (blk_below BKX.out hbx); have n2_ := Aside0.mk hbox; have NXD := Aside0.mk (by rw [hgx]; exact Nat.ne_of_lt (blk_lt BKX.out) : gx ≠ gd); clear HB BKX hbx hbox hgx; have HB := n0_; have BKX := n1_; have BKD := n2_; clear n0_ n1_ n2_; have hx0 : w2.cell? ⟨gx, 0, none⟩ = some (.int .u32 ar) := (blk_cell BKX.out 0).trans rfl; have hx1 : w2.cell? ⟨gx, 1, none⟩ = some (.int .u32 nr) := (blk_cell BKX.out 1).trans rfl; have hx2 : w2.cell? ⟨gx, 2, none⟩ = some (.slice A cs.length c) := (blk_cell BKX.out 2).trans rfl; have hx3 : w2.cell? ⟨gx, 3, none⟩ = some (.int .u32 ac) := (blk_cell BKX.out 3).trans rfl; have hd0 : w2.cell? ⟨gd, 0, none⟩ = some (.int .u32 dn) := (blk_cell BKD.out 0).trans rfl; have hd1 : w2.cell? ⟨gd, 1, none⟩ = some (.int .u32 da) := (blk_cell BKD.out 1).trans rfl; have hd2 : w2.cell? ⟨gd, 2, none⟩ = some (.int .u64 di) := (blk_cell BKD.out 2).trans rfl; have hd3 : w2.cell? ⟨gd, 3, none⟩ = some (.int .u64 y0) := (blk_cell BKD.out 3).trans rfl; have hd4 : w2.cell? ⟨gd, 4, none⟩ = some (.int .u64 y1) := (blk_cell BKD.out 4).trans rfl; have hd5 : w2.cell? ⟨gd, 5, none⟩ = some (.int .u64 y2) := (blk_cell BKD.out 5).trans rfl; have hd6 : w2.cell? ⟨gd, 6, none⟩ = some (.int .u64 y3) := (blk_cell BKD.out 6).trans rfl; have hd7 : w2.cell? ⟨gd, 7, none⟩ = some (.int .u64 y4) := (blk_cell BKD.out 7).trans rfl; have hd8 : w2.cell? ⟨gd, 8, none⟩ = some (.int .u64 y5) := (blk_cell BKD.out 8).trans rfl))
      go_ret
      exact ⟨by rw [HF.out]; rfl, HB.out⟩
    · have e1 : (ar == da) = false := by simpa using h2
      have e1n : (ar != da) = true := by simpa using h2
      clear h1 h2
      go_enter Try.func26, Try.ntmps26
      go_wp2_with (first | ((with_reducible refine gate_dst (N := 2) rfl ?_); (try (refine gate_guard (by rfl) ?_; dsimp only)); refine box_event ?hg (N := 2) ?hd (cs := #[.int .u32 ar, .int .u32 nr, .slice A cs.length c, .int .u32 ac]) (t := 40) ?hr ?_; (case hd => rfl); (case hg => rfl); (case hr => first | (go_simp; done) | (go_simp; rfl)); intro gx hgx w1 hbox hbx; have n0_ := Aside0.mk (below_step HB.out hbx); have n1_ := Aside0.mk hbox; clear HB hbx hbox hgx; have HB := n0_; have BKX := n1_; clear n0_ n1_) | ((with_reducible refine gate_dst (N := 3) rfl ?_); (try (refine gate_guard (by rfl) ?_; dsimp only)); refine box_event ?hg (N := 3) ?hd (cs := #[.int .u32 dn, .int .u32 da, .int .u64 di, .int .u64 y0, .int .u64 y1, .int .u64 y2, .int .u64 y3, .int .u64 y4, .int .u64 y5]) (t := 44) ?hr ?_; (case hd => rfl); (case hg => rfl); (case hr => first | (go_simp; done) | (go_simp; rfl)); intro gd hgx w2 hbox hbx; have n0_ := Aside0.mk (below_step HB.out hbx); have n1_ := Aside0.mk (blk_below BKX.out hbx); have n2_ := Aside0.mk hbox; have NXD := Aside0.mk (by rw [hgx]; exact Nat.ne_of_lt (blk_lt BKX.out) : gx ≠ gd); clear HB BKX hbx hbox hgx; have HB := n0_; have BKX := n1_; have BKD := n2_; clear n0_ n1_ n2_; have hx0 : w2.cell? ⟨gx, 0, none⟩ = some (.int .u32 ar) := (blk_cell BKX.out 0).trans rfl; have hx1 : w2.cell? ⟨gx, 1, none⟩ = some (.int .u32 nr) := (blk_cell BKX.out 1).trans rfl; have hx2 : w2.cell? ⟨gx, 2, none⟩ = some (.slice A cs.length c) := (blk_cell BKX.out 2).trans rfl; have hx3 : w2.cell? ⟨gx, 3, none⟩ = some (.int .u32 ac) := (blk_cell BKX.out 3).trans rfl; have hd0 : w2.cell? ⟨gd, 0, none⟩ = some (.int .u32 dn) := (blk_cell BKD.out 0).trans rfl; have hd1 : w2.cell? ⟨gd, 1, none⟩ = some (.int .u32 da) := (blk_cell BKD.out 1).trans rfl; have hd2 : w2.cell? ⟨gd, 2, none⟩ = some (.int .u64 di) := (blk_cell BKD.out 2).trans rfl; have hd3 : w2.cell? ⟨gd, 3, none⟩ = some (.int .u64 y0) := (blk_cell BKD.out 3).trans rfl; have hd4 : w2.cell? ⟨gd, 4, none⟩ = some (.int .u64 y1) := (blk_cell BKD.out 4).trans rfl; have hd5 : w2.cell? ⟨gd, 5, none⟩ = some (.int .u64 y2) := (blk_cell BKD.out 5).trans rfl; have hd6 : w2.cell? ⟨gd, 6, none⟩ = some (.int .u64 y3) := (blk_cell BKD.out 6).trans rfl; have hd7 : w2.cell? ⟨gd, 7, none⟩ = some (.int .u64 y4) := (blk_cell BKD.out 7).trans rfl; have hd8 : w2.cell? ⟨gd, 8, none⟩ = some (.int .u64 y5) := (blk_cell BKD.out 8).trans rfl))
      go_ret
      exact ⟨by rw [HF.out]; rfl, HB.out⟩
def firstI (L : List S40) (p : S40 → Bool) : Int := match L.findIdx? p with | some i => (i : Int) | none => -1
theorem firstI_at (L : List S40) (p : S40 → Bool) (i : Nat) (hi : i < L.length) (h : p L[i] = true) (hb : ∀ j (hj : j < L.length), j < i → p L[j] = false) : firstI L p = (i : Int) := by
  unfold firstI
  rw [(List.findIdx?_eq_some_iff_getElem).2 ⟨hi, h, fun j hj => by rw [hb j (by omega) hj]; decide⟩]
theorem firstI_none (L : List S40) (p : S40 → Bool) (h : ∀ j (hj : j < L.length), p L[j] = false) : firstI L p = -1 := by
  unfold firstI
  rw [List.findIdx?_eq_none_iff.2 (fun x hx => by obtain ⟨j, hj, rfl⟩ := List.mem_iff_getElem.1 hx; exact h j hj)]
def fitX (dn da : Int) (ags : List Int) (x : S40) : Bool := fitsB x.f0 x.f1 x.f2 dn da ags
def firstR (L : List S40) (df dn da : Int) (ags : List Int) : Int × Int := if polB L df = true then (firstI L (fitX dn da ags), 0) else (0, 1)
set_option maxHeartbeats 4000000 in
theorem Fits_closure (A : Option Addr) (c : Nat) (L : List S40) (df : Int) (dn da di y0 y1 y2 y3 y4 y5 : Int) (hd : IsDat dn da di [y0, y1, y2, y3, y4, y5]) (hk : polK L df) (gp gd : Nat) (i : Nat) (hi : i < L.length) (w : World) (hC : k40.C w A L.length L)
    (hp : w.heap[gp]? = some (.cells #[.slice A L.length c, .int .u32 df] 25 (0, 0))) (hg : w.heap[gd]? = some (.cells #[.int .u32 dn, .int .u32 da, .int .u64 di, .int .u64 y0, .int .u64 y1, .int .u64 y2, .int .u64 y3, .int .u64 y4, .int .u64 y5] 44 (0, 0))) :
    Calls Try.prog 45 #[.int .i64 (i : Int), .pointer (some ⟨gp, 0, none⟩), .pointer (some ⟨gd, 0, none⟩)] w fun e w' => e = .returned (.bool (fitsB L[i].f0 L[i].f1 L[i].f2 dn da [y0, y1, y2, y3, y4, y5])) ∧ Below w.heap.size w w' := by
  obtain ⟨x, hx⟩ : ∃ x, rd_T40 L (i : Int) = x := ⟨_, rfl⟩
  have hxe : x = L[i] := by rw [← hx, rd40 L i hi]
  have hK := hk.1 x (by rw [hxe]; exact List.getElem_mem hi)
  have hii : (0 : Int) ≤ (i : Int) := by omega
  have hx0 : w.cell? ⟨gp, 0, none⟩ = some (.slice A L.length c) := (blk_cell hp 0).trans rfl; have hx1 : w.cell? ⟨gp, 1, none⟩ = some (.int .u32 df) := (blk_cell hp 1).trans rfl; have hd0 : w.cell? ⟨gd, 0, none⟩ = some (.int .u32 dn) := (blk_cell hg 0).trans rfl; have hd1 : w.cell? ⟨gd, 1, none⟩ = some (.int .u32 da) := (blk_cell hg 1).trans rfl; have hd2 : w.cell? ⟨gd, 2, none⟩ = some (.int .u64 di) := (blk_cell hg 2).trans rfl; have hd3 : w.cell? ⟨gd, 3, none⟩ = some (.int .u64 y0) := (blk_cell hg 3).trans rfl; have hd4 : w.cell? ⟨gd, 4, none⟩ = some (.int .u64 y1) := (blk_cell hg 4).trans rfl; have hd5 : w.cell? ⟨gd, 5, none⟩ = some (.int .u64 y2) := (blk_cell hg 5).trans rfl; have hd6 : w.cell? ⟨gd, 6, none⟩ = some (.int .u64 y3) := (blk_cell hg 6).trans rfl; have hd7 : w.cell? ⟨gd, 7, none⟩ = some (.int .u64 y4) := (blk_cell hg 7).trans rfl; have hd8 : w.cell? ⟨gd, 8, none⟩ = some (.int .u64 y5) := (blk_cell hg 8).trans rfl
  obtain ⟨ad, A2, c2, e, g0, g1, g2, g3, hc2, hC2⟩ := at_T40 hC (i : Int) hii (by omega)
  subst e
  rw [hx] at g0 g1 g2 g3 hc2 hC2
  simp only [Int.toNat_natCast] at g0 g1 g2 g3
  rw [← hxe]
  have HFT : Aside0 (∀ W : World, k61.C W A2 x.f2.length x.f2 → Calls Try.prog 26 #[.agg #[.int .u32 x.f0, .int .u32 x.f1, .slice A2 x.f2.length c2, .int .u32 x.f3], .agg #[.int .u32 dn, .int .u32 da, .int .u64 di, .int .u64 y0, .int .u64 y1, .int .u64 y2, .int .u64 y3, .int .u64 y4, .int .u64 y5]] W fun e w' => e = .returned (.bool (fitsB x.f0 x.f1 x.f2 dn da [y0, y1, y2, y3, y4, y5])) ∧ Below W.heap.size W w') :=
    ⟨fun W hW => Fits_lit x.f0 x.f1 x.f3 A2 c2 x.f2 dn da di y0 y1 y2 y3 y4 y5 hd (fun y hy => (hK.2.2.2 y hy).1) hc2 W hW⟩
  have HC2 := Aside0.mk hC2
  have HN := hC.2.1
  clear hC2 hxe hx hK hd hk hC
  have p := eq_true hii
  have q : ((i : Int) < (L.length : Int)) = True := eq_true (by omega)
  have q2 : (i < L.length) = True := eq_true (by omega)
  clear hp hg
  go_enter Try.func45, Try.ntmps45
  go_wp2_with fail
  go_still_tail 6, (by kernel_rfl)
  change wpList _ _ _ _ _ w.drew
  go_wp2_with (first | ((with_reducible refine gate_callee (f := 26) rfl ?_); refine goesL_ (some 11) rfl rfl Try.func26 (by kernel_rfl) rfl #[.agg #[.int .u32 x.f0, .int .u32 x.f1, .slice A2 x.f2.length c2, .int .u32 x.f3], .agg #[.int .u32 dn, .int .u32 da, .int .u64 di, .int .u64 y0, .int .u64 y1, .int .u64 y2, .int .u64 y3, .int .u64 y4, .int .u64 y5]] rfl (by (try simp only [List.map_toArray, List.map_cons, List.map_nil]); first | done | rfl | (simp only [List.length_drop, List.length_take]; rfl)) ?_; (refine (HFT.out _ (Kd.C_below HC2.out (below_drew (Below.refl _ _)))).mono ?_); rintro e w5 ⟨rfl, hb⟩; refine ⟨_, rfl, ?_⟩; have n5_ := Aside0.mk (below_step (below_drew (Below.refl w.heap.size w)) hb); clear hb; have HB := n5_; clear n5_))
  go_ret
  exact ⟨rfl, HB.out⟩
set_option maxHeartbeats 4000000 in
theorem First_lit (A : Option Addr) (c : Nat) (L : List S40) (df : Int) (dn da di y0 y1 y2 y3 y4 y5 : Int) (hd : IsDat dn da di [y0, y1, y2, y3, y4, y5]) (hk : polK L df) (hl : L.length ≤ 1000) (hcl : ∀ x ∈ L, x.f2.length ≤ 1000) (hc : L.length ≤ c) (w : World) (hC : k40.C w A L.length L) :
    Calls Try.prog 24 #[.agg #[.slice A L.length c, .int .u32 df], .agg #[.int .u32 dn, .int .u32 da, .int .u64 di, .int .u64 y0, .int .u64 y1, .int .u64 y2, .int .u64 y3, .int .u64 y4, .int .u64 y5]] w fun e w' => e = .returned (.tuple #[.int .i64 (firstR L df dn da [y0, y1, y2, y3, y4, y5]).1, .int .i64 (firstR L df dn da [y0, y1, y2, y3, y4, y5]).2]) ∧ Below w.heap.size w w' := by
  have HB := Aside0.mk (Below.refl w.heap.size w)
  have HC := Aside0.mk hC
  have HR : Aside0 (∀ W : World, k40.C W A L.length L → Calls Try.prog 18 #[.agg #[.slice A L.length c, .int .u32 df]] W fun e w' => e = .returned (.bool (polB L df)) ∧ Below W.heap.size W w') := ⟨fun W hW => by
    obtain ⟨k, hk⟩ := Ev.rounds (right_ev L df hk hl hcl)
    exact policy_Right.calls k A c L df _ W hW hc hk⟩
  clear hC
  unfold firstR
  cases hb : polB L df with
  | false =>
    rw [hb] at HR
    rw [if_neg (by decide)]
    go_enter Try.func24, Try.ntmps24
    go_wp2_with (first | ((with_reducible refine gate_dst (N := 2) rfl ?_); (try (refine gate_guard (by rfl) ?_; dsimp only)); refine box_event ?hg (N := 2) ?hd (cs := #[.slice A L.length c, .int .u32 df]) (t := 25) ?hr ?_; (case hd => rfl); (case hg => rfl); (case hr => first | (go_simp; done) | (go_simp; rfl)); intro gp hgx w1 hbox hbx; have n0_ := Aside0.mk (below_step HB.out hbx); have n1_ := Aside0.mk hbox; clear HB hbx hbox hgx; have HB := n0_; have BKP := n1_; clear n0_ n1_) | ((with_reducible refine gate_dst (N := 3) rfl ?_); (try (refine gate_guard (by rfl) ?_; dsimp only)); refine box_event ?hg (N := 3) ?hd (cs := #[.int .u32 dn, .int .u32 da, .int .u64 di, .int .u64 y0, .int .u64 y1, .int .u64 y2, .int .u64 y3, .int .u64 y4, .int .u64 y5]) (t := 44) ?hr ?_; (case hd => rfl); (case hg => rfl); (case hr => first | (go_simp; done) | (go_simp; rfl)); intro gd hgx w2 hbox hbx; have n0_ := Aside0.mk (below_step HB.out hbx); have n1_ := Aside0.mk (blk_below BKP.out hbx); have n2_ := Aside0.mk hbox; clear HB BKP hbx hbox hgx; have HB := n0_; have BKP := n1_; have BKD := n2_; clear n0_ n1_ n2_; have hx0 : w2.cell? ⟨gp, 0, none⟩ = some (.slice A L.length c) := (blk_cell BKP.out 0).trans rfl; have hx1 : w2.cell? ⟨gp, 1, none⟩ = some (.int .u32 df) := (blk_cell BKP.out 1).trans rfl) | ((with_reducible refine gate_callee (f := 18) rfl ?_); refine goesL_ (some 9) rfl rfl Try.func18 (by kernel_rfl) rfl #[.agg #[.slice A L.length c, .int .u32 df]] rfl (by (try simp only [List.map_toArray, List.map_cons, List.map_nil]); first | done | rfl | (simp only [List.length_drop, List.length_take]; rfl)) ?_; (refine (HR.out _ (by have := HC.out; exact Kd.C_below this (by repeat (first | exact HB.out)))).mono ?_); rintro e w3 ⟨rfl, hb⟩; refine ⟨_, rfl, ?_⟩; have n2_ := Aside0.mk (blk_below BKP.out hb); have n3_ := Aside0.mk (blk_below BKD.out hb); have n5_ := Aside0.mk (below_step HB.out hb); clear BKP BKD HB hb hx0 hx1; have BKP := n2_; have BKD := n3_; have HB := n5_; clear n2_ n3_ n5_; have hx0 : w3.cell? ⟨gp, 0, none⟩ = some (.slice A L.length c) := (blk_cell BKP.out 0).trans rfl; have hx1 : w3.cell? ⟨gp, 1, none⟩ = some (.int .u32 df) := (blk_cell BKP.out 1).trans rfl))
    go_ret2
    exact ⟨rfl, HB.out⟩
  | true =>
    rw [hb] at HR
    rw [if_pos rfl]
    go_enter Try.func24, Try.ntmps24
    go_wp2_with (first | ((with_reducible refine gate_dst (N := 2) rfl ?_); (try (refine gate_guard (by rfl) ?_; dsimp only)); refine box_event ?hg (N := 2) ?hd (cs := #[.slice A L.length c, .int .u32 df]) (t := 25) ?hr ?_; (case hd => rfl); (case hg => rfl); (case hr => first | (go_simp; done) | (go_simp; rfl)); intro gp hgx w1 hbox hbx; have n0_ := Aside0.mk (below_step HB.out hbx); have n1_ := Aside0.mk hbox; clear HB hbx hbox hgx; have HB := n0_; have BKP := n1_; clear n0_ n1_) | ((with_reducible refine gate_dst (N := 3) rfl ?_); (try (refine gate_guard (by rfl) ?_; dsimp only)); refine box_event ?hg (N := 3) ?hd (cs := #[.int .u32 dn, .int .u32 da, .int .u64 di, .int .u64 y0, .int .u64 y1, .int .u64 y2, .int .u64 y3, .int .u64 y4, .int .u64 y5]) (t := 44) ?hr ?_; (case hd => rfl); (case hg => rfl); (case hr => first | (go_simp; done) | (go_simp; rfl)); intro gd hgx w2 hbox hbx; have n0_ := Aside0.mk (below_step HB.out hbx); have n1_ := Aside0.mk (blk_below BKP.out hbx); have n2_ := Aside0.mk hbox; clear HB BKP hbx hbox hgx; have HB := n0_; have BKP := n1_; have BKD := n2_; clear n0_ n1_ n2_; have hx0 : w2.cell? ⟨gp, 0, none⟩ = some (.slice A L.length c) := (blk_cell BKP.out 0).trans rfl; have hx1 : w2.cell? ⟨gp, 1, none⟩ = some (.int .u32 df) := (blk_cell BKP.out 1).trans rfl) | ((with_reducible refine gate_callee (f := 18) rfl ?_); refine goesL_ (some 9) rfl rfl Try.func18 (by kernel_rfl) rfl #[.agg #[.slice A L.length c, .int .u32 df]] rfl (by (try simp only [List.map_toArray, List.map_cons, List.map_nil]); first | done | rfl | (simp only [List.length_drop, List.length_take]; rfl)) ?_; (refine (HR.out _ (by have := HC.out; exact Kd.C_below this (by repeat (first | exact HB.out)))).mono ?_); rintro e w3 ⟨rfl, hb⟩; refine ⟨_, rfl, ?_⟩; have n2_ := Aside0.mk (blk_below BKP.out hb); have n3_ := Aside0.mk (blk_below BKD.out hb); have n5_ := Aside0.mk (below_step HB.out hb); clear BKP BKD HB hb hx0 hx1; have BKP := n2_; have BKD := n3_; have HB := n5_; clear n2_ n3_ n5_; have hx0 : w3.cell? ⟨gp, 0, none⟩ = some (.slice A L.length c) := (blk_cell BKP.out 0).trans rfl; have hx1 : w3.cell? ⟨gp, 1, none⟩ = some (.int .u32 df) := (blk_cell BKP.out 1).trans rfl))
    have HC3 := Aside0.mk (Kd.C_below HC.out HB.out)
    clear HC hx0 hx1
    go_loopw [15] (fun v15 wr => ∃ i : Nat, v15 = .int .i64 i ∧ i ≤ L.length ∧ Aside0 (∀ j (h : j < L.length), j < i → fitsB L[j].f0 L[j].f1 L[j].f2 dn da [y0, y1, y2, y3, y4, y5] = false) ∧ Aside0 (wr.heap[gp]? = some (.cells #[.slice A L.length c, .int .u32 df] 25 (0, 0))) ∧ Aside0 (wr.heap[gd]? = some (.cells #[.int .u32 dn, .int .u32 da, .int .u64 di, .int .u64 y0, .int .u64 y1, .int .u64 y2, .int .u64 y3, .int .u64 y4, .int .u64 y5] 44 (0, 0))) ∧ Aside0 (k40.C wr A L.length L) ∧ Aside0 (Below w.heap.size w wr)) (fun v15 _ => L.length - (intOf v15).toNat)
    case atStart => exact ⟨0, rfl, Nat.zero_le _, ⟨fun j _ h => by omega⟩, BKP, BKD, HC3, HB⟩
    case round =>
      clear BKP BKD HC3 HB
      obtain ⟨i, rfl, hi, HT, BKP, BKD, HC, HB⟩ := hrel
      by_cases hlt : i < L.length
      · have q : ((i : Int) < (L.length : Int)) = True := eq_true (by omega)
        have qb : decide ((i : Int) < (L.length : Int)) = true := decide_eq_true (by omega)
        have HX := Aside0.mk (Fits_closure A c L df dn da di y0 y1 y2 y3 y4 y5 hd hk gp gd i hlt wr HC.out BKP.out BKD.out)
        cases hf : fitsB L[i].f0 L[i].f1 L[i].f2 dn da [y0, y1, y2, y3, y4, y5] with
        | true =>
          rw [hf] at HX
          go_wp2_with fail
          refine (HX.out).mono ?_
          rintro e w5 ⟨rfl, hb5⟩
          have HB5 := Aside0.mk (below_step HB.out hb5)
          clear hb5
          go_wp2_with fail
          go_ret2
          exact ⟨by rw [firstI_at L (fitX dn da [y0, y1, y2, y3, y4, y5]) i hlt hf (fun j hj h => HT.out j hj h)]; rfl, HB5.out⟩
        | false =>
          rw [hf] at HX
          have hf := Aside0.mk hf
          have hN : L.length ≤ 9223372036854775807 := HC.out.2.1
          go_wp2_with fail
          refine (HX.out).mono ?_
          rintro e w5 ⟨rfl, hb5⟩
          have n2_ := Aside0.mk (blk_below BKP.out hb5)
          have n3_ := Aside0.mk (blk_below BKD.out hb5)
          have n4_ := Aside0.mk (Kd.C_below HC.out hb5)
          have n5_ := Aside0.mk (below_step HB.out hb5)
          clear hb5
          go_wp2_with fail
          go_roundw
          case rel => exact ⟨i + 1, by go_num, by omega, ⟨fun j hj h => by
            by_cases e : j = i
            · subst e; exact hf.out
            · exact HT.out j hj (by omega)⟩, n2_, n3_, n4_, n5_⟩
          case measure => simp [intOf]; omega
      · have qb : decide ((i : Int) < (L.length : Int)) = false := decide_eq_false (by omega)
        have q : ((i : Int) < (L.length : Int)) = False := eq_false (by omega)
        go_wp2
        go_ret2
        exact ⟨by rw [firstI_none L (fitX dn da [y0, y1, y2, y3, y4, y5]) (fun j hj => HT.out j hj (by omega))]; rfl, HB.out⟩
def judgeR (L : List S40) (df dn da : Int) (ags : List Int) : Int × Int := if polB L df = true then ((match L.find? (fitX dn da ags) with | some x => x.f3 | none => df), 0) else (0, 1)
theorem find_at (L : List S40) (p : S40 → Bool) (i : Nat) (hi : i < L.length) (h : firstI L p = (i : Int)) : L.find? p = some L[i] := by
  unfold firstI at h
  cases hf : L.findIdx? p with
  | none => rw [hf] at h; simp only [] at h; omega
  | some k =>
    rw [hf] at h
    simp only [] at h
    obtain rfl : k = i := by omega
    obtain ⟨h1, h2, h3⟩ := (List.findIdx?_eq_some_iff_getElem).1 hf
    rw [List.find?_eq_some_iff_getElem]
    exact ⟨h2, k, h1, rfl, fun j hj => by have := h3 j hj; simpa using this⟩
theorem find_none (L : List S40) (p : S40 → Bool) (h : firstI L p = -1) : L.find? p = none := by
  unfold firstI at h
  cases hf : L.findIdx? p with
  | none => rw [List.findIdx?_eq_none_iff] at hf; rw [List.find?_eq_none]; intro x hx; simp [hf x hx]
  | some k => rw [hf] at h; simp only [] at h; omega
theorem firstI_cases (L : List S40) (p : S40 → Bool) : firstI L p = -1 ∨ ∃ i : Nat, i < L.length ∧ firstI L p = (i : Int) := by
  unfold firstI
  cases hf : L.findIdx? p with
  | none => exact .inl rfl
  | some k => exact .inr ⟨k, ((List.findIdx?_eq_some_iff_getElem).1 hf).1, rfl⟩
set_option maxHeartbeats 4000000 in
theorem Judge_lit (A : Option Addr) (c : Nat) (L : List S40) (df : Int) (dn da di y0 y1 y2 y3 y4 y5 : Int) (hd : IsDat dn da di [y0, y1, y2, y3, y4, y5]) (hk : polK L df) (hl : L.length ≤ 1000) (hcl : ∀ x ∈ L, x.f2.length ≤ 1000) (hc : L.length ≤ c) (w : World) (hC : k40.C w A L.length L) :
    Calls Try.prog 25 #[.agg #[.slice A L.length c, .int .u32 df], .agg #[.int .u32 dn, .int .u32 da, .int .u64 di, .int .u64 y0, .int .u64 y1, .int .u64 y2, .int .u64 y3, .int .u64 y4, .int .u64 y5]] w fun e w' => e = .returned (.tuple #[.int .u32 (judgeR L df dn da [y0, y1, y2, y3, y4, y5]).1, .int .i64 (judgeR L df dn da [y0, y1, y2, y3, y4, y5]).2]) ∧ Below w.heap.size w w' := by
  have HB := Aside0.mk (Below.refl w.heap.size w)
  have HC := Aside0.mk hC
  have HF : Aside0 (∀ W : World, k40.C W A L.length L → Calls Try.prog 24 #[.agg #[.slice A L.length c, .int .u32 df], .agg #[.int .u32 dn, .int .u32 da, .int .u64 di, .int .u64 y0, .int .u64 y1, .int .u64 y2, .int .u64 y3, .int .u64 y4, .int .u64 y5]] W fun e w' => e = .returned (.tuple #[.int .i64 (firstR L df dn da [y0, y1, y2, y3, y4, y5]).1, .int .i64 (firstR L df dn da [y0, y1, y2, y3, y4, y5]).2]) ∧ Below W.heap.size W w') := ⟨fun W hW => First_lit A c L df dn da di y0 y1 y2 y3 y4 y5 hd hk hl hcl hc W hW⟩
  clear hC hd hk hl hcl
  cases hb : polB L df with
  | false =>
    rw [show firstR L df dn da [y0, y1, y2, y3, y4, y5] = (0, 1) by unfold firstR; rw [hb]; rfl] at HF
    have HJ := Aside0.mk (show judgeR L df dn da [y0, y1, y2, y3, y4, y5] = (0, 1) by unfold judgeR; rw [hb]; rfl)
    clear hb
    go_enter Try.func25, Try.ntmps25
    go_wp2_with (first | ((with_reducible refine gate_dst (N := 2) rfl ?_); (try (refine gate_guard (by rfl) ?_; dsimp only)); refine box_event ?hg (N := 2) ?hd (cs := #[.slice A L.length c, .int .u32 df]) (t := 25) ?hr ?_; (case hd => rfl); (case hg => rfl); (case hr => first | (go_simp; done) | (go_simp; rfl)); intro gp hgx w1 hbox hbx; have n0_ := Aside0.mk (below_step HB.out hbx); have n1_ := Aside0.mk hbox; clear HB hbx hbox hgx; have HB := n0_; have BKP := n1_; clear n0_ n1_) | ((with_reducible refine gate_dst (N := 3) rfl ?_); (try (refine gate_guard (by rfl) ?_; dsimp only)); refine box_event ?hg (N := 3) ?hd (cs := #[.int .u32 dn, .int .u32 da, .int .u64 di, .int .u64 y0, .int .u64 y1, .int .u64 y2, .int .u64 y3, .int .u64 y4, .int .u64 y5]) (t := 44) ?hr ?_; (case hd => rfl); (case hg => rfl); (case hr => first | (go_simp; done) | (go_simp; rfl)); intro gd hgx w2 hbox hbx; have n0_ := Aside0.mk (below_step HB.out hbx); have n1_ := Aside0.mk (blk_below BKP.out hbx); have n2_ := Aside0.mk hbox; clear HB BKP hbx hbox hgx; have HB := n0_; have BKP := n1_; have BKD := n2_; clear n0_ n1_ n2_; have hx0 : w2.cell? ⟨gp, 0, none⟩ = some (.slice A L.length c) := (blk_cell BKP.out 0).trans rfl; have hx1 : w2.cell? ⟨gp, 1, none⟩ = some (.int .u32 df) := (blk_cell BKP.out 1).trans rfl; have hd0 : w2.cell? ⟨gd, 0, none⟩ = some (.int .u32 dn) := (blk_cell BKD.out 0).trans rfl; have hd1 : w2.cell? ⟨gd, 1, none⟩ = some (.int .u32 da) := (blk_cell BKD.out 1).trans rfl; have hd2 : w2.cell? ⟨gd, 2, none⟩ = some (.int .u64 di) := (blk_cell BKD.out 2).trans rfl; have hd3 : w2.cell? ⟨gd, 3, none⟩ = some (.int .u64 y0) := (blk_cell BKD.out 3).trans rfl; have hd4 : w2.cell? ⟨gd, 4, none⟩ = some (.int .u64 y1) := (blk_cell BKD.out 4).trans rfl; have hd5 : w2.cell? ⟨gd, 5, none⟩ = some (.int .u64 y2) := (blk_cell BKD.out 5).trans rfl; have hd6 : w2.cell? ⟨gd, 6, none⟩ = some (.int .u64 y3) := (blk_cell BKD.out 6).trans rfl; have hd7 : w2.cell? ⟨gd, 7, none⟩ = some (.int .u64 y4) := (blk_cell BKD.out 7).trans rfl; have hd8 : w2.cell? ⟨gd, 8, none⟩ = some (.int .u64 y5) := (blk_cell BKD.out 8).trans rfl) | ((with_reducible refine gate_callee (f := 24) rfl ?_); refine goesL_ (some 11) rfl rfl Try.func24 (by kernel_rfl) rfl #[.agg #[.slice A L.length c, .int .u32 df], .agg #[.int .u32 dn, .int .u32 da, .int .u64 di, .int .u64 y0, .int .u64 y1, .int .u64 y2, .int .u64 y3, .int .u64 y4, .int .u64 y5]] rfl (by (try simp only [List.map_toArray, List.map_cons, List.map_nil]); first | done | rfl | (simp only [List.length_drop, List.length_take]; rfl)) ?_; (refine (HF.out _ (by have := HC.out; exact Kd.C_below this HB.out)).mono ?_); rintro e w3 ⟨rfl, hb⟩; refine ⟨_, rfl, ?_⟩; have n2_ := Aside0.mk (blk_below BKP.out hb); have n5_ := Aside0.mk (below_step HB.out hb); clear BKP BKD HB hb hx0 hx1 hd0 hd1 hd2 hd3 hd4 hd5 hd6 hd7 hd8; have BKP := n2_; have HB := n5_; clear n2_ n5_; have hx0 : w3.cell? ⟨gp, 0, none⟩ = some (.slice A L.length c) := (blk_cell BKP.out 0).trans rfl; have hx1 : w3.cell? ⟨gp, 1, none⟩ = some (.int .u32 df) := (blk_cell BKP.out 1).trans rfl))
    go_ret2
    exact ⟨by rw [HJ.out]; rfl, HB.out⟩
  | true =>
    rcases firstI_cases L (fitX dn da [y0, y1, y2, y3, y4, y5]) with h | ⟨i, hi, h⟩
    · rw [show firstR L df dn da [y0, y1, y2, y3, y4, y5] = (-1, 0) by unfold firstR; rw [hb, if_pos rfl, h]] at HF
      have HJ := Aside0.mk (show judgeR L df dn da [y0, y1, y2, y3, y4, y5] = (df, 0) by unfold judgeR; rw [hb, if_pos rfl, find_none L _ h])
      clear hb h
      go_enter Try.func25, Try.ntmps25
      go_wp2_with (first | ((with_reducible refine gate_dst (N := 2) rfl ?_); (try (refine gate_guard (by rfl) ?_; dsimp only)); refine box_event ?hg (N := 2) ?hd (cs := #[.slice A L.length c, .int .u32 df]) (t := 25) ?hr ?_; (case hd => rfl); (case hg => rfl); (case hr => first | (go_simp; done) | (go_simp; rfl)); intro gp hgx w1 hbox hbx; have n0_ := Aside0.mk (below_step HB.out hbx); have n1_ := Aside0.mk hbox; clear HB hbx hbox hgx; have HB := n0_; have BKP := n1_; clear n0_ n1_) | ((with_reducible refine gate_dst (N := 3) rfl ?_); (try (refine gate_guard (by rfl) ?_; dsimp only)); refine box_event ?hg (N := 3) ?hd (cs := #[.int .u32 dn, .int .u32 da, .int .u64 di, .int .u64 y0, .int .u64 y1, .int .u64 y2, .int .u64 y3, .int .u64 y4, .int .u64 y5]) (t := 44) ?hr ?_; (case hd => rfl); (case hg => rfl); (case hr => first | (go_simp; done) | (go_simp; rfl)); intro gd hgx w2 hbox hbx; have n0_ := Aside0.mk (below_step HB.out hbx); have n1_ := Aside0.mk (blk_below BKP.out hbx); have n2_ := Aside0.mk hbox; clear HB BKP hbx hbox hgx; have HB := n0_; have BKP := n1_; have BKD := n2_; clear n0_ n1_ n2_; have hx0 : w2.cell? ⟨gp, 0, none⟩ = some (.slice A L.length c) := (blk_cell BKP.out 0).trans rfl; have hx1 : w2.cell? ⟨gp, 1, none⟩ = some (.int .u32 df) := (blk_cell BKP.out 1).trans rfl; have hd0 : w2.cell? ⟨gd, 0, none⟩ = some (.int .u32 dn) := (blk_cell BKD.out 0).trans rfl; have hd1 : w2.cell? ⟨gd, 1, none⟩ = some (.int .u32 da) := (blk_cell BKD.out 1).trans rfl; have hd2 : w2.cell? ⟨gd, 2, none⟩ = some (.int .u64 di) := (blk_cell BKD.out 2).trans rfl; have hd3 : w2.cell? ⟨gd, 3, none⟩ = some (.int .u64 y0) := (blk_cell BKD.out 3).trans rfl; have hd4 : w2.cell? ⟨gd, 4, none⟩ = some (.int .u64 y1) := (blk_cell BKD.out 4).trans rfl; have hd5 : w2.cell? ⟨gd, 5, none⟩ = some (.int .u64 y2) := (blk_cell BKD.out 5).trans rfl; have hd6 : w2.cell? ⟨gd, 6, none⟩ = some (.int .u64 y3) := (blk_cell BKD.out 6).trans rfl; have hd7 : w2.cell? ⟨gd, 7, none⟩ = some (.int .u64 y4) := (blk_cell BKD.out 7).trans rfl; have hd8 : w2.cell? ⟨gd, 8, none⟩ = some (.int .u64 y5) := (blk_cell BKD.out 8).trans rfl) | ((with_reducible refine gate_callee (f := 24) rfl ?_); refine goesL_ (some 11) rfl rfl Try.func24 (by kernel_rfl) rfl #[.agg #[.slice A L.length c, .int .u32 df], .agg #[.int .u32 dn, .int .u32 da, .int .u64 di, .int .u64 y0, .int .u64 y1, .int .u64 y2, .int .u64 y3, .int .u64 y4, .int .u64 y5]] rfl (by (try simp only [List.map_toArray, List.map_cons, List.map_nil]); first | done | rfl | (simp only [List.length_drop, List.length_take]; rfl)) ?_; (refine (HF.out _ (by have := HC.out; exact Kd.C_below this HB.out)).mono ?_); rintro e w3 ⟨rfl, hb⟩; refine ⟨_, rfl, ?_⟩; have n2_ := Aside0.mk (blk_below BKP.out hb); have n5_ := Aside0.mk (below_step HB.out hb); clear BKP BKD HB hb hx0 hx1 hd0 hd1 hd2 hd3 hd4 hd5 hd6 hd7 hd8; have BKP := n2_; have HB := n5_; clear n2_ n5_; have hx0 : w3.cell? ⟨gp, 0, none⟩ = some (.slice A L.length c) := (blk_cell BKP.out 0).trans rfl; have hx1 : w3.cell? ⟨gp, 1, none⟩ = some (.int .u32 df) := (blk_cell BKP.out 1).trans rfl))
      go_ret2
      exact ⟨by rw [HJ.out]; rfl, HB.out⟩
    · rw [show firstR L df dn da [y0, y1, y2, y3, y4, y5] = ((i : Int), 0) by unfold firstR; rw [hb, if_pos rfl, h]] at HF
      have HJ := Aside0.mk (show judgeR L df dn da [y0, y1, y2, y3, y4, y5] = (L[i].f3, 0) by unfold judgeR; rw [hb, if_pos rfl, find_at L _ i hi h])
      clear hb h
      obtain ⟨x, hx⟩ : ∃ x, rd_T40 L (i : Int) = x := ⟨_, rfl⟩
      have hxe : x = L[i] := by rw [← hx, rd40 L i hi]
      rw [← hxe] at HJ
      have hii : (0 : Int) ≤ (i : Int) := by omega
      have ATT := Aside0.mk (fun (W : World) (hW : k40.C W A L.length L) => hx ▸ at_T40 hW (i : Int) hii (by omega))
      clear hxe
      have p := eq_true hii
      have q : ((i : Int) < (L.length : Int)) = True := eq_true (by omega)
      have q2 : (i < L.length) = True := eq_true hi
      have qb : decide ((i : Int) < 0) = false := decide_eq_false (by omega)
      have HN := HC.out.2.1
      go_enter Try.func25, Try.ntmps25
      go_wp2_with (first | ((with_reducible refine gate_dst (N := 2) rfl ?_); (try (refine gate_guard (by rfl) ?_; dsimp only)); refine box_event ?hg (N := 2) ?hd (cs := #[.slice A L.length c, .int .u32 df]) (t := 25) ?hr ?_; (case hd => rfl); (case hg => rfl); (case hr => first | (go_simp; done) | (go_simp; rfl)); intro gp hgx w1 hbox hbx; have n0_ := Aside0.mk (below_step HB.out hbx); have n1_ := Aside0.mk hbox; clear HB hbx hbox hgx; have HB := n0_; have BKP := n1_; clear n0_ n1_) | ((with_reducible refine gate_dst (N := 3) rfl ?_); (try (refine gate_guard (by rfl) ?_; dsimp only)); refine box_event ?hg (N := 3) ?hd (cs := #[.int .u32 dn, .int .u32 da, .int .u64 di, .int .u64 y0, .int .u64 y1, .int .u64 y2, .int .u64 y3, .int .u64 y4, .int .u64 y5]) (t := 44) ?hr ?_; (case hd => rfl); (case hg => rfl); (case hr => first | (go_simp; done) | (go_simp; rfl)); intro gd hgx w2 hbox hbx; have n0_ := Aside0.mk (below_step HB.out hbx); have n1_ := Aside0.mk (blk_below BKP.out hbx); have n2_ := Aside0.mk hbox; clear HB BKP hbx hbox hgx; have HB := n0_; have BKP := n1_; have BKD := n2_; clear n0_ n1_ n2_; have hx0 : w2.cell? ⟨gp, 0, none⟩ = some (.slice A L.length c) := (blk_cell BKP.out 0).trans rfl; have hx1 : w2.cell? ⟨gp, 1, none⟩ = some (.int .u32 df) := (blk_cell BKP.out 1).trans rfl; have hd0 : w2.cell? ⟨gd, 0, none⟩ = some (.int .u32 dn) := (blk_cell BKD.out 0).trans rfl; have hd1 : w2.cell? ⟨gd, 1, none⟩ = some (.int .u32 da) := (blk_cell BKD.out 1).trans rfl; have hd2 : w2.cell? ⟨gd, 2, none⟩ = some (.int .u64 di) := (blk_cell BKD.out 2).trans rfl; have hd3 : w2.cell? ⟨gd, 3, none⟩ = some (.int .u64 y0) := (blk_cell BKD.out 3).trans rfl; have hd4 : w2.cell? ⟨gd, 4, none⟩ = some (.int .u64 y1) := (blk_cell BKD.out 4).trans rfl; have hd5 : w2.cell? ⟨gd, 5, none⟩ = some (.int .u64 y2) := (blk_cell BKD.out 5).trans rfl; have hd6 : w2.cell? ⟨gd, 6, none⟩ = some (.int .u64 y3) := (blk_cell BKD.out 6).trans rfl; have hd7 : w2.cell? ⟨gd, 7, none⟩ = some (.int .u64 y4) := (blk_cell BKD.out 7).trans rfl; have hd8 : w2.cell? ⟨gd, 8, none⟩ = some (.int .u64 y5) := (blk_cell BKD.out 8).trans rfl) | ((with_reducible refine gate_callee (f := 24) rfl ?_); refine goesL_ (some 11) rfl rfl Try.func24 (by kernel_rfl) rfl #[.agg #[.slice A L.length c, .int .u32 df], .agg #[.int .u32 dn, .int .u32 da, .int .u64 di, .int .u64 y0, .int .u64 y1, .int .u64 y2, .int .u64 y3, .int .u64 y4, .int .u64 y5]] rfl (by (try simp only [List.map_toArray, List.map_cons, List.map_nil]); first | done | rfl | (simp only [List.length_drop, List.length_take]; rfl)) ?_; (refine (HF.out _ (by have := HC.out; exact Kd.C_below this HB.out)).mono ?_); rintro e w3 ⟨rfl, hb⟩; refine ⟨_, rfl, ?_⟩; have n2_ := Aside0.mk (blk_below BKP.out hb); have n5_ := Aside0.mk (below_step HB.out hb); clear BKP BKD HB hb hx0 hx1 hd0 hd1 hd2 hd3 hd4 hd5 hd6 hd7 hd8; have BKP := n2_; have HB := n5_; clear n2_ n5_; have hx0 : w3.cell? ⟨gp, 0, none⟩ = some (.slice A L.length c) := (blk_cell BKP.out 0).trans rfl; have hx1 : w3.cell? ⟨gp, 1, none⟩ = some (.int .u32 df) := (blk_cell BKP.out 1).trans rfl; obtain ⟨ad, A2, c2, ea, g0, g1, g2, g3, hc2, hC2⟩ := ATT.out _ (Kd.C_below HC.out HB.out); (try subst ea); simp only [Int.toNat_natCast] at g0 g1 g2 g3))
      go_ret2
      exact ⟨by rw [HJ.out]; rfl, HB.out⟩
end Go.Proofs.Ytekpbgmmogpbdaa.H
set_option linter.unusedVariables false
set_option linter.unusedSimpArgs false
set_option maxRecDepth 100000
namespace Go.Proofs.Ytekpbgmmogpbdaa.H
open Go.RowKit Go.Proofs.Ytekpbgmmogpbdaa.P Go.Proofs.YtekpbgmmogpbdaaW.PrintWords Go.Proofs.YtekpbgmmogpbdaaW.PrintLast Go.Proofs.YtekpbgmmogpbdaaW.PrintMore
attribute [local go_sem] max2_int min2_int max_two min_two max_three min_three max_four min_four
def judgeV (L : List S40) (df dn da : Int) (ags : List Int) : Int := match L.find? (fitX dn da ags) with | some x => x.f3 | none => df
end Go.Proofs.Ytekpbgmmogpbdaa.H
set_option linter.unusedVariables false
set_option linter.unusedSimpArgs false
set_option maxRecDepth 100000
namespace Go.Proofs.Ytekpbgmmogpbdaa.H
open Go.RowKit
def setIter (W : World) (g : Nat) (s : ByteArray) (p : Nat) : World := { W with heap := W.heap.setIfInBounds g (.stringIter s p) }
theorem next_at {P : Program} (W : World) (g : Nat) (s : ByteArray) (pos : Nat) (ty : TypeId) (hg : W.heap[g]? = some (.stringIter s pos)) (h : pos < s.size) :
    (Instr.next (.pointer (some ⟨g, 0, none⟩)) true ty).run P W = .ok (.tuple #[.bool true, .int .i64 pos, .int .i32 (Utf8.decode s pos).1]) (setIter W g s (pos + (Utf8.decode s pos).2)) := by
  simp only [Instr.next, getObj, setObj, Sem.run_bind, Sem.run, hg, Result.andThen, h, if_true]
  simp [goInt, setIter]
theorem next_at_end {P : Program} (W : World) (g : Nat) (s : ByteArray) (pos : Nat) (ty : TypeId) (hg : W.heap[g]? = some (.stringIter s pos)) (h : ¬ pos < s.size) :
    (Instr.next (.pointer (some ⟨g, 0, none⟩)) true ty).run P W = .ok (.tuple #[.bool false]) W := by
  simp [Instr.next, getObj, Sem.run, hg, h]
theorem setIter_same (W : World) (g : Nat) (s : ByteArray) (p p' : Nat) (hg : W.heap[g]? = some (.stringIter s p)) : (setIter W g s p').heap[g]? = some (.stringIter s p') := by
  have := (Array.getElem?_eq_some_iff.1 hg).1
  simp [setIter, this]
theorem setIter_other (W : World) (g k : Nat) (s : ByteArray) (p : Nat) (h : k ≠ g) : (setIter W g s p).heap[k]? = W.heap[k]? := by
  simp [setIter, Array.getElem?_setIfInBounds, Ne.symm h]
end Go.Proofs.Ytekpbgmmogpbdaa.H
