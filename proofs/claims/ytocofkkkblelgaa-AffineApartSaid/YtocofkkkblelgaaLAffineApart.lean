/-
AffineApart: the walk.
-/
import Derived.Test.YtocofkkkblelgaaProg
import Derived.WalkKit
import Derived.WalkSpells
import Derived.WalkLawsBesides
import Derived.Handy
import Derived.Lib.Hide
import Derived.Deep.QuietTactic
import Derived.BigQuiet
import Derived.Test.YtocofkkkblelgaaHRForms
import Derived.Test.YtocofkkkblelgaaWWords
set_option linter.unusedVariables false
set_option linter.unusedSimpArgs false
namespace Go.Proofs.Ytocofkkkblelgaa.H
open Go.RowKit Go.Proofs.YtocofkkkblelgaaW.PrintWords

/-- Apart of the reference, of two rows that are read. -/
def GRApart (c1 c2 : Int) (l1 l2 l : List Int) (b : Bool) : Prop := ∀ (ad1 ad2 : Addr) (n1 n2 : Nat) (w : World), 34 ≤ n1 → 34 ≤ n2 → ReadsInt w .u32 (some ad1) 34 l1 → ReadsInt w .u32 (some ad2) 34 l2 →
  Calls Try.prog 27 #[.agg #[.int .u32 c1, .slice (some ad1) 34 n1], .agg #[.int .u32 c2, .slice (some ad2) 34 n2]] w fun e w' => ∃ ad cap, e = .returned (.tuple #[.slice (some ad) 34 cap, .bool b]) ∧ 34 ≤ cap ∧ ReadsInt w' .u32 (some ad) 34 l ∧ Below w.heap.size w w'

set_option maxHeartbeats 8000000 in
theorem AffineApart_abs (RF RG : Array Value) (f0 g0 : Int) (fs gs lw : List Int) (b : Bool) (hF : FRow RF) (hG : FRow RG) (hW : lw.length = 34)
    (ASF : GRF 11 #[.agg RF] f0 fs) (ASG : GRF 11 #[.agg RG] g0 gs) (AP : Gives Try.prog 26 #[.agg RF, .agg RG] (.tuple #[.agg (nums .u32 lw).toArray, .bool b])) (RAP : GRApart f0 g0 fs gs lw b)
    (KN : Gives Try.prog 19 #[] (.bool true)) (w : World) :
    Calls Try.prog 5 #[.agg RF, .agg RG] w fun e w' => e = .returned (.bool true) ∧ Below w.heap.size w w' := by
  have hV := vrow lw hW
  replace hF := Lib.hid hF
  replace hG := Lib.hid hG
  replace hV := Lib.hid hV
  replace ASF := Lib.hid ASF
  replace ASG := Lib.hid ASG
  replace AP := Lib.hid AP
  replace RAP := Lib.hid RAP
  replace KN := Lib.hid KN
  have HWL := Lib.hid hW
  clear hW
  obtain ⟨RV, hRV⟩ : ∃ RV, (nums .u32 lw).toArray = RV := ⟨_, rfl⟩
  rw [hRV] at AP hV
  have HRV := Lib.hid hRV
  clear hRV
  obtain ⟨q1, q2, q3, q4⟩ := alloc2d w (Obj.cells RF 25) (Obj.cells RG 25)
  replace q1 := Lib.hid q1
  replace q2 := Lib.hid q2
  replace q4 := Lib.hid q4
  clear q3
  go_enter Try.func5, Try.ntmps5
  go_wp2_with (first | (refine wpList_load_row_g rfl 25 (.tmp 2) rfl _ rfl _ _ _ _ q1.out Try.underlying25 rfl hF.out.info ?_) | (refine wpList_load_row_g rfl 25 (.tmp 3) rfl _ rfl _ _ _ _ q2.out Try.underlying25 rfl hG.out.info ?_))
  refine (AP.out _).mono ?_
  rintro e w1 ⟨rfl, hb⟩
  have p1 := Lib.hid (blk_below q1.out hb)
  have p2 := Lib.hid (blk_below q2.out hb)
  have p4 := Lib.hid (below_more q4.out (Nat.le_refl _) hb)
  clear hb q1 q2 q4
  obtain ⟨W2, hW2, r, b2⟩ := letvar w1 #[Value.int .u32 0, Value.int .u32 0, Value.int .u32 0, Value.int .u32 0, Value.int .u32 0, Value.int .u32 0, Value.int .u32 0, Value.int .u32 0, Value.int .u32 0, Value.int .u32 0, Value.int .u32 0, Value.int .u32 0, Value.int .u32 0, Value.int .u32 0, Value.int .u32 0, Value.int .u32 0, Value.int .u32 0, Value.int .u32 0, Value.int .u32 0, Value.int .u32 0, Value.int .u32 0, Value.int .u32 0, Value.int .u32 0, Value.int .u32 0, Value.int .u32 0, Value.int .u32 0, Value.int .u32 0, Value.int .u32 0, Value.int .u32 0, Value.int .u32 0, Value.int .u32 0, Value.int .u32 0, Value.int .u32 0, Value.int .u32 0] RV 23
  have HW := Lib.hid hW2
  have r3 := Lib.hid r
  have r1 := Lib.hid (blk_below p1.out b2)
  have r2 := Lib.hid (blk_below p2.out b2)
  have r4 := Lib.hid (below_more p4.out (Nat.le_refl _) b2)
  clear hW2 r b2 p1 p2 p4
  go_wp2_with (refine wpList_store_row rfl 23 (.tmp 5) (.tmp 14) rfl rfl w1.heap.size rfl RV rfl _ _ (heap_alloc_new _ _) hV.out.size.symm hV.out.info hV.out.one ?_; rw [HW.out])
  clear HW
  have hNewE : (W2.drew.heap[w1.heap.size]? = some (.cells RV 23 (0, 0))) ∧ (Below w.heap.size w W2.drew) := ⟨r3.out, r4.out.drew⟩
  have hEx := Lib.hid hNewE
  clear hNewE
  refine Go.Proofs.YtocofkkkblelgaaW.PrintLast.wp_region_last_drew (S := fun w' => (w'.heap[w.heap.size]? = some (.cells RF 25 (0, 0))) ∧ (w'.heap[(w.heap.size + 1)]? = some (.cells RG 25 (0, 0)))) (ds := []) (by kernel_rfl) ⟨r1.out, r2.out⟩ (fun hNewS => ?_)
  have hHeld := Lib.hid hNewS
  clear hNewS
  refine lastTake 0 rfl (by kernel_rfl) (by kernel_rfl) (by kernel_rfl) (by kernel_rfl) (by kernel_rfl) (fun _ _ _ h => h) hHeld.out (yieldsIf_row rfl 25 (.tmp 2) rfl _ rfl _ RF _ _ (fun _ h => h.1) Try.underlying25 rfl hF.out.info) ?_
  try simp only [Act.put, List.setIfInBounds_toArray, List.set_cons_zero, List.set_cons_succ]
  refine lastTake 2 rfl (by kernel_rfl) (by kernel_rfl) (by kernel_rfl) (by kernel_rfl) (by kernel_rfl) (fun _ _ _ h => h) hHeld.out (yieldsIf_row rfl 25 (.tmp 3) rfl _ rfl _ RG _ _ (fun _ h => h.2) Try.underlying25 rfl hG.out.info) ?_
  try simp only [Act.put, List.setIfInBounds_toArray, List.set_cons_zero, List.set_cons_succ]
  refine lastOne 1 (by kernel_rfl) rfl (by decide) (fun K hK => ?_)
  go_simp
  refine (ASF.out _).mono ?_
  rintro _ v1 ⟨adq, nq, rfl, hnq, hrd, hb⟩
  have hNewE : (ReadsInt v1 .u32 (some adq) 34 fs) ∧ (v1.heap[w1.heap.size]? = some (.cells RV 23 (0, 0))) ∧ (Below w.heap.size w v1) := ⟨hrd, blk_below (hEx.out.1) hb, below_more (hEx.out.2) (Nat.le_refl _) hb⟩
  refine hK.out _ _ ⟨blk_below (hHeld.out.1) hb, blk_below (hHeld.out.2) hb⟩ (fun hNewS => ?_)
  clear hK K
  clear hHeld hEx
  have hHeld := Lib.hid hNewS
  have hEx := Lib.hid hNewE
  clear hNewS hNewE
  clear hb hrd
  try simp only [Act.put, List.setIfInBounds_toArray, List.set_cons_zero, List.set_cons_succ]
  refine lastOne 3 (by kernel_rfl) rfl (by decide) (fun K hK => ?_)
  go_simp
  refine (ASG.out _).mono ?_
  rintro _ v2 ⟨adr, nr, rfl, hnr, hrd, hb⟩
  have hNewE : (ReadsInt v2 .u32 (some adr) 34 gs) ∧ (ReadsInt v2 .u32 (some adq) 34 fs) ∧ (v2.heap[w1.heap.size]? = some (.cells RV 23 (0, 0))) ∧ (Below w.heap.size w v2) := ⟨hrd, ReadsInt.below (hEx.out.1) hb, blk_below (hEx.out.2.1) hb, below_more (hEx.out.2.2) (Nat.le_refl _) hb⟩
  refine hK.out _ _ ⟨blk_below (hHeld.out.1) hb, blk_below (hHeld.out.2) hb⟩ (fun hNewS => ?_)
  clear hK K
  clear hHeld hEx
  have hHeld := Lib.hid hNewS
  have hEx := Lib.hid hNewE
  clear hNewS hNewE
  clear hb hrd
  try simp only [Act.put, List.setIfInBounds_toArray, List.set_cons_zero, List.set_cons_succ]
  refine lastOne 4 (by kernel_rfl) rfl (by decide) (fun K hK => ?_)
  go_simp
  refine (RAP.out _ _ _ _ _ hnq hnr hEx.out.2.1 hEx.out.1).mono ?_
  rintro _ v3 ⟨adz, nz, rfl, hnz, hrd, hb⟩
  have hNewE : (ReadsInt v3 .u32 (some adz) 34 lw) ∧ (ReadsInt v3 .u32 (some adr) 34 gs) ∧ (ReadsInt v3 .u32 (some adq) 34 fs) ∧ (v3.heap[w1.heap.size]? = some (.cells RV 23 (0, 0))) ∧ (Below w.heap.size w v3) := ⟨hrd, ReadsInt.below (hEx.out.1) hb, ReadsInt.below (hEx.out.2.1) hb, blk_below (hEx.out.2.2.1) hb, below_more (hEx.out.2.2.2) (Nat.le_refl _) hb⟩
  refine hK.out _ _ ⟨blk_below (hHeld.out.1) hb, blk_below (hHeld.out.2) hb⟩ (fun hNewS => ?_)
  clear hK K
  clear hHeld hEx
  have hHeld := Lib.hid hNewS
  have hEx := Lib.hid hNewE
  clear hNewS hNewE
  clear hb hrd
  try simp only [Act.put, List.setIfInBounds_toArray, List.set_cons_zero, List.set_cons_succ]
  refine lastTake 5 (v := ?_) rfl (by kernel_rfl) (by kernel_rfl) (by kernel_rfl) (by kernel_rfl) (by kernel_rfl) (fun _ _ _ h => h) hHeld.out (yieldsIf_of rfl ?_) ?_
  rotate_left
  · (intro w hSw; go_simp <;> with_reducible rfl)
  try simp only [Act.put, List.setIfInBounds_toArray, List.set_cons_zero, List.set_cons_succ]
  refine lastTake 6 (v := ?_) rfl (by kernel_rfl) (by kernel_rfl) (by kernel_rfl) (by kernel_rfl) (by kernel_rfl) (fun _ _ _ h => h) hHeld.out (yieldsIf_of rfl ?_) ?_
  rotate_left
  · (intro w hSw; go_simp <;> with_reducible rfl)
  try simp only [Act.put, List.setIfInBounds_toArray, List.set_cons_zero, List.set_cons_succ]
  refine lastTake 7 (v := ?_) rfl (by kernel_rfl) (by kernel_rfl) (by kernel_rfl) (by kernel_rfl) (by kernel_rfl) (fun _ _ _ h => h) hHeld.out (yieldsIf_of rfl ?_) ?_
  rotate_left
  · (intro w hSw; go_simp <;> with_reducible rfl)
  try simp only [Act.put, List.setIfInBounds_toArray, List.set_cons_zero, List.set_cons_succ]
  refine lastTake 8 (v := ?_) rfl (by kernel_rfl) (by kernel_rfl) (by kernel_rfl) (by kernel_rfl) (by kernel_rfl) (fun _ _ _ h => h) hHeld.out (yieldsIf_of rfl ?_) ?_
  rotate_left
  · (intro w hSw; go_simp <;> with_reducible rfl)
  try simp only [Act.put, List.setIfInBounds_toArray, List.set_cons_zero, List.set_cons_succ]
  refine lastTake 9 (v := ?_) rfl (by kernel_rfl) (by kernel_rfl) (by kernel_rfl) (by kernel_rfl) (by kernel_rfl) (fun _ _ _ h => h) hHeld.out (yieldsIf_of rfl ?_) ?_
  rotate_left
  · (intro w hSw; go_simp <;> with_reducible rfl)
  try simp only [Act.put, List.setIfInBounds_toArray, List.set_cons_zero, List.set_cons_succ]
  refine Go.Proofs.YtocofkkkblelgaaW.PrintLast.wpAnyLast_done (by kernel_rfl) ?_ _
  have HZ := Lib.hid hEx.out.1
  have HB := Lib.hid hEx.out.2.2.2.2
  have HV3 := Lib.hid hEx.out.2.2.2.1
  clear hHeld hEx
  go_wp2_with fail
  go_loopw [9] (fun i wr => ∃ k : Nat, k ≤ 34 ∧ i = .int .i64 (k : Int) ∧ Below v3.heap.size v3 wr) (fun i _ => 34 - (intOf i).toNat)
  case atStart => exact ⟨0, by omega, rfl, Below.refl _ _⟩
  case round =>
    obtain ⟨k, hk, rfl, hbb⟩ := hrel
    by_cases hlt : k < 34
    · have HX : RowKit.Hid (wr.cell? (adz.add k) = some (.int .u32 (lw.getD k 0))) := Lib.hid (by obtain ⟨ad, e, hc⟩ := (HZ.out.below hbb).2.2 (by omega); injection e with e; subst e; exact hc k hlt)
      have x1 := HX.out
      have hv := blk_below HV3.out hbb
      have x2 : wr.cell? ⟨w1.heap.size, k, none⟩ = some (.int .u32 (lw.getD k 0)) := by rw [← HRV.out] at hv; exact cell_row hv k _ (nums_get .u32 lw k (by rw [HWL.out]; omega))
      have HBB := Lib.hid hbb
      clear hbb hv HX
      generalize lw.getD k 0 = p at *
      go_wp2_with fail
      go_quiet (fail)
      go_wp2_with fail
      go_roundw
      case measure => simp [intOf]; omega
      case rel => exact ⟨k + 1, by omega, by go_num, below_dN HBB.out _⟩
    · obtain rfl : k = 34 := by omega
      have HBB := Lib.hid (below_more HB.out (Nat.le_refl _) hbb)
      clear hbb
      cases b
      · go_wp2_with fail
        refine (KN.out _).mono ?_
        rintro e w9 ⟨rfl, hb⟩
        have HF := Lib.hid (below_more HBB.out (Nat.le_refl _) hb)
        clear hb
        go_wp2_with fail
        go_ret
        exact ⟨rfl, HF.out⟩
      · go_wp2_with fail
        refine (KN.out _).mono ?_
        rintro e w9 ⟨rfl, hb⟩
        have HF := Lib.hid (below_more HBB.out (Nat.le_refl _) hb)
        clear hb
        go_wp2_with fail
        go_ret
        exact ⟨rfl, HF.out⟩

theorem rapart_of {c1 c2 : Int} {fs gs l : List Int} {b : Bool} (h : ∀ (ad1 ad2 : Addr) (n1 n2 : Nat) (w : World), 34 ≤ n1 → 34 ≤ n2 → ReadsInt w .u32 (some ad1) 34 fs → ReadsInt w .u32 (some ad2) 34 gs →
    Calls Try.prog 27 #[.agg #[.int .u32 c1, .slice (some ad1) 34 n1], .agg #[.int .u32 c2, .slice (some ad2) 34 n2]] w fun e w' => ∃ v, e = .returned (.tuple #[v, .bool b]) ∧ w'.ownsRow w.heap.size 22 1 v 34 (nums .u32 l) ∧ Below w.heap.size w w') : GRApart c1 c2 fs gs l b := by
  intro ad1 ad2 n1 n2 w h1 h2 r1 r2
  refine (h ad1 ad2 n1 n2 w h1 h2 r1 r2).mono ?_
  rintro e w' ⟨v, rfl, ho, hb⟩
  obtain ⟨ad, c, rfl, k1, k2⟩ := own_form ho
  exact ⟨ad, c, rfl, k1, k2, hb⟩

theorem AffineApart_walk (f0 : Int) (fs : List Int) (g0 : Int) (gs : List Int) (hf : IsForm f0 fs) (hg : IsForm g0 gs) (w : World) :
    Calls Try.prog 5 #[FV f0 fs, FV g0 gs] w fun e w' => e = .returned (.bool true) ∧ Below w.heap.size w w' := by
  have A1 := As_gives f0 fs hf
  have A2 := As_gives g0 gs hg
  obtain ⟨hf1, hf2, hf3⟩ := hf
  obtain ⟨hg1, hg2, hg3⟩ := hg
  have AP := fun w => Apart_walk f0 g0 fs gs hf1 hg1 hf3 hg3 w
  by_cases h0 : f0 = g0
  · by_cases h1 : fs = gs
    · subst h0 h1
      have hap : apart f0 f0 fs fs = (z34, false) := by
        unfold apart
        rw [if_neg (by simp)]
        rw [show (List.range 34).find? (fun i => fs.getD i 0 != fs.getD i 0) = none from by simp]
      rw [hap] at AP
      exact AffineApart_abs _ _ f0 f0 fs fs z34 false (frow f0 fs hf1) (frow f0 fs hf1) z34_len A1 A2 AP (rapart_of fun ad1 ad2 n1 n2 w h1 h2 r1 r2 => RApart_same f0 fs ad1 ad2 n1 n2 hf1 h1 h2 w r1 r2) knows_walk w
    · obtain ⟨i, hi⟩ : ∃ i, (List.range 34).find? (fun i => fs.getD i 0 != gs.getD i 0) = some i := by
        cases h : (List.range 34).find? (fun i => fs.getD i 0 != gs.getD i 0) with
        | some i => exact ⟨i, rfl⟩
        | none =>
          exfalso
          apply h1
          refine zip_extA hf1 hg1 fun k hk => ?_
          have := List.find?_eq_none.1 h k (by simpa using hk)
          simpa using this
      have hlt : i < 34 := by simpa using List.mem_of_find?_eq_some hi
      have hne : ¬ fs.getD i 0 = gs.getD i 0 := by simpa using List.find?_some hi
      have hbef : ∀ j, j < i → fs.getD j 0 = gs.getD j 0 := by
        intro j hj
        have := (List.find?_range_eq_some.1 hi).2.2 j hj
        simpa using this
      subst h0
      have hap : apart f0 f0 fs gs = (z34.set i 1, true) := by
        unfold apart
        rw [if_neg (by simp), hi]
      rw [hap] at AP
      exact AffineApart_abs _ _ f0 f0 fs gs (z34.set i 1) true (frow f0 fs hf1) (frow f0 gs hg1) (var_len i) A1 A2 AP (rapart_of fun ad1 ad2 n1 n2 w k1 k2 r1 r2 => RApart_row f0 fs gs ad1 ad2 n1 n2 hf1 hg1 k1 k2 h1 i hlt hbef hne w r1 r2) knows_walk w
  · have hap : apart f0 g0 fs gs = (z34, true) := by
      unfold apart
      rw [if_pos (by simpa using h0)]
    rw [hap] at AP
    exact AffineApart_abs _ _ f0 g0 fs gs z34 true (frow f0 fs hf1) (frow g0 gs hg1) z34_len A1 A2 AP (rapart_of fun ad1 ad2 n1 n2 w h1 h2 r1 r2 => RApart_num f0 g0 fs gs ad1 ad2 n1 n2 hf1 hg1 h1 h2 h0 w r1 r2) knows_walk w
end Go.Proofs.Ytocofkkkblelgaa.H
