/-
AffineValues: the walks.
-/
import Derived.Test.YtocofkkkblelgaaProg
import Derived.WalkKit
import Derived.WalkSpells
import Derived.WalkLawsBesides
import Derived.Handy
import Derived.Lib.Hide
import Derived.Test.YtocofkkkblelgaaHRForms
import Derived.Test.YtocofkkkblelgaaWWords
set_option linter.unusedVariables false
set_option linter.unusedSimpArgs false
namespace Go.Proofs.Ytocofkkkblelgaa.H
open Go.RowKit Go.Proofs.YtocofkkkblelgaaW.PrintWords

theorem info32k (c : Int) (ad : Addr) (n : Nat) : (Try.prog.info? 32).map (·.size) = some (#[Value.int .u32 c, Value.slice (some ad) 34 n] : Array Value).size ∧ ∀ v ∈ (#[Value.int .u32 c, Value.slice (some ad) 34 n] : Array Value).toList, v.oneCell' = true := by
  refine ⟨by rw [show (#[Value.int .u32 c, Value.slice (some ad) 34 n] : Array Value).size = 2 from rfl]; kernel_rfl, ?_⟩
  intro v hv
  simp at hv
  rcases hv with rfl | rfl <;> rfl

set_option maxHeartbeats 8000000 in
theorem AffineValues_true (RF RV : Array Value) (f0 ev iv n : Int) (isv : Bool) (fs vs : List Int) (hit : Nat → Bool) (hF : FRow RF) (hV : VRow RV) (hF0 : RF[0]? = some (.int .u32 f0)) (hn : n = 0)
    (CT : Gives Try.prog 20 #[.agg RF] (.tuple #[.int .u32 f0, .bool true])) (SG : Gives Try.prog 21 #[.agg RF] (.tuple #[.int .i64 iv, .bool isv]))
    (ASF : GRF 11 #[.agg RF] f0 fs) (CNT : ∀ ad c w, 34 ≤ c → ReadsInt w .u32 (some ad) 34 fs → Calls Try.prog 22 #[.agg #[.int .u32 f0, .slice (some ad) 34 c]] w fun e w' => e = .returned (.int .i64 n) ∧ Below w.heap.size w w')
    (EV : Gives Try.prog 23 #[.agg RF, .agg RV] (.int .u32 ev)) (ROW : ∀ w, Calls Try.prog 25 #[.agg RV] w fun e w' => ∃ ad cap, e = .returned (.slice (some ad) 34 cap) ∧ 34 ≤ cap ∧ ReadsInt w' .u32 (some ad) 34 vs ∧ Below w.heap.size w w')
    (REV : ∀ (ad1 ad2 : Addr) (n1 n2 : Nat) (w : World), 34 ≤ n1 → 34 ≤ n2 → ReadsInt w .u32 (some ad1) 34 fs → ReadsInt w .u32 (some ad2) 34 vs → Calls Try.prog 24 #[.agg #[.int .u32 f0, .slice (some ad1) 34 n1], .slice (some ad2) 34 n2] w fun e w' => e = .returned (.int .u32 ev) ∧ Below w.heap.size w w')
    (RVA : ∀ m : Nat, m < 34 → GRF 12 #[.int .i64 (m : Int)] 0 (var m)) (SAM : ∀ m, m < 34 → GSame f0 0 fs (var m) (hit m))
    (SPY : ∀ m, m < 34 → (∀ j, j < m → hit j = false) → hit m = true → isv = true ∧ iv = (m : Int)) (SPN : (∀ j, j < 34 → hit j = false) → isv = false ∧ iv = 0)
    (KN : Gives Try.prog 19 #[] (.bool true)) (w : World) :
    Calls Try.prog 4 #[.agg RF, .agg RV] w fun e w' => e = .returned (.bool true) ∧ Below w.heap.size w w' := by
  subst hn
  replace hF := Lib.hid hF
  replace hV := Lib.hid hV
  replace hF0 := Lib.hid hF0
  replace CT := Lib.hid CT
  replace SG := Lib.hid SG
  replace ASF := Lib.hid ASF
  replace CNT := Lib.hid CNT
  replace EV := Lib.hid EV
  replace ROW := Lib.hid ROW
  replace REV := Lib.hid REV
  replace RVA := Lib.hid RVA
  replace SAM := Lib.hid SAM
  replace SPY := Lib.hid SPY
  replace SPN := Lib.hid SPN
  replace KN := Lib.hid KN
  obtain ⟨q1, q2, q3, q4⟩ := alloc2d w (Obj.cells RF 25) (Obj.cells RV 23)
  replace q1 := Lib.hid q1
  replace q2 := Lib.hid q2
  replace q4 := Lib.hid q4
  clear q3
  go_enter Try.func4, Try.ntmps4
  go_wp2_with (refine wpList_load_row_g rfl 25 (.tmp 2) rfl _ rfl _ _ _ _ q1.out Try.underlying25 rfl hF.out.info ?_)
  refine (CT.out _).mono ?_
  rintro _ w1 ⟨rfl, hb⟩
  have p1 := Lib.hid (blk_below q1.out hb)
  have p2 := Lib.hid (blk_below q2.out hb)
  have p4 := Lib.hid (below_more q4.out (Nat.le_refl _) hb)
  clear hb q1 q2 q4
  go_wp2_with (refine wpList_load_row_g rfl 25 (.tmp 2) rfl _ rfl _ _ _ _ p1.out Try.underlying25 rfl hF.out.info ?_)
  refine (SG.out _).mono ?_
  rintro _ w2 ⟨rfl, hb⟩
  have r1 := Lib.hid (blk_below p1.out hb)
  have r2 := Lib.hid (blk_below p2.out hb)
  have r4 := Lib.hid (below_more p4.out (Nat.le_refl _) hb)
  clear hb p1 p2 p4
  go_wp2_with (refine wpList_load_row_g rfl 25 (.tmp 2) rfl _ rfl _ _ _ _ r1.out Try.underlying25 rfl hF.out.info ?_)
  refine (ASF.out _).mono ?_
  rintro _ w3 ⟨adk, nk, rfl, hnk, hrk, hb⟩
  have s1 := Lib.hid (blk_below r1.out hb)
  have s2 := Lib.hid (blk_below r2.out hb)
  have s4 := Lib.hid (below_more r4.out (Nat.le_refl _) hb)
  have RK := Lib.hid hrk
  clear hb r1 r2 r4 hrk
  obtain ⟨W4, hW4, r, b2⟩ := letvar w3 #[Value.int .u32 0, Value.slice none 0 0] #[Value.int .u32 f0, Value.slice (some adk) 34 nk] 32
  have HW := Lib.hid hW4
  have t3 := Lib.hid r
  have t1 := Lib.hid (blk_below s1.out b2)
  have t2 := Lib.hid (blk_below s2.out b2)
  have t4 := Lib.hid (below_more s4.out (Nat.le_refl _) b2)
  have RK4 := Lib.hid (ReadsInt.below RK.out b2)
  clear hW4 r b2 s1 s2 s4 RK
  have HIK := Lib.hid (info32k f0 adk nk)
  go_wp2_with (first | (refine wpList_store_row rfl 32 (.tmp 9) (.tmp 23) rfl rfl w3.heap.size rfl #[Value.int .u32 f0, Value.slice (some adk) 34 nk] rfl _ _ (heap_alloc_new _ _) rfl HIK.out.1 HIK.out.2 ?_; rw [HW.out]) | (refine wpList_load_row_g rfl 32 (.tmp 9) rfl _ rfl _ _ _ _ t3.out Try.underlying32 rfl HIK.out.1 ?_))
  clear HW
  refine (CNT.out _ _ _ hnk RK4.out).mono ?_
  rintro _ w5 ⟨rfl, hb⟩
  have x1 := Lib.hid (blk_below t1.out hb)
  have x2 := Lib.hid (blk_below t2.out hb)
  have x3 := Lib.hid (blk_below t3.out hb)
  have x4 := Lib.hid (below_more t4.out (Nat.le_refl _) hb)
  have RK5 := Lib.hid (ReadsInt.below RK4.out hb)
  clear hb t1 t2 t3 t4 RK4
  go_wp2_with fail
  have hNewE : (ReadsInt w5.drew .u32 (some adk) 34 fs) ∧ (Below w.heap.size w w5.drew) := ⟨RK5.out, x4.out.drew⟩
  have hEx := Lib.hid hNewE
  clear hNewE
  refine Go.Proofs.YtocofkkkblelgaaW.PrintLast.wp_region_last_drew (S := fun w' => (w'.heap[w.heap.size]? = some (.cells RF 25 (0, 0))) ∧ (w'.heap[(w.heap.size + 1)]? = some (.cells RV 23 (0, 0))) ∧ (w'.heap[w3.heap.size]? = some (.cells #[Value.int .u32 f0, Value.slice (some adk) 34 nk] 32 (0, 0)))) (ds := []) (by kernel_rfl) ⟨x1.out, x2.out, x3.out⟩ (fun hNewS => ?_)
  have hHeld := Lib.hid hNewS
  clear hNewS
  refine lastTake 0 (v := ?_) rfl (by kernel_rfl) (by kernel_rfl) (by kernel_rfl) (by kernel_rfl) (by kernel_rfl) (fun _ _ _ h => h) hHeld.out (yieldsIf_of rfl ?_) ?_
  rotate_left
  · (intro w hSw; go_simp <;> with_reducible rfl)
  try simp only [Act.put, List.setIfInBounds_toArray, List.set_cons_zero, List.set_cons_succ]
  refine lastTake 1 (v := ?_) rfl (by kernel_rfl) (by kernel_rfl) (by kernel_rfl) (by kernel_rfl) (by kernel_rfl) (fun _ _ _ h => h) hHeld.out (yieldsIf_of rfl ?_) ?_
  rotate_left
  · (intro w hSw; go_simp <;> with_reducible rfl)
  try simp only [Act.put, List.setIfInBounds_toArray, List.set_cons_zero, List.set_cons_succ]
  refine lastTake 2 (v := ?_) rfl (by kernel_rfl) (by kernel_rfl) (by kernel_rfl) (by kernel_rfl) (by kernel_rfl) (fun _ _ _ h => h) hHeld.out (yieldsIf_of rfl ?_) ?_
  rotate_left
  · (intro w hSw; go_simp <;> with_reducible rfl)
  try simp only [Act.put, List.setIfInBounds_toArray, List.set_cons_zero, List.set_cons_succ]
  refine lastTake 3 (v := ?_) rfl (by kernel_rfl) (by kernel_rfl) (by kernel_rfl) (by kernel_rfl) (by kernel_rfl) (fun _ _ _ h => h) hHeld.out (yieldsIf_of rfl ?_) ?_
  rotate_left
  · (intro w hSw; go_simp <;> with_reducible rfl)
  try simp only [Act.put, List.setIfInBounds_toArray, List.set_cons_zero, List.set_cons_succ]
  refine lastTake 4 (v := ?_) rfl (by kernel_rfl) (by kernel_rfl) (by kernel_rfl) (by kernel_rfl) (by kernel_rfl) (fun _ _ _ h => h) hHeld.out (yieldsIf_of rfl ?_) ?_
  rotate_left
  · (intro w hSw; go_simp <;> with_reducible rfl)
  try simp only [Act.put, List.setIfInBounds_toArray, List.set_cons_zero, List.set_cons_succ]
  refine lastTake 5 (v := ?_) rfl (by kernel_rfl) (by kernel_rfl) (by kernel_rfl) (by kernel_rfl) (by kernel_rfl) (fun _ _ _ h => h) hHeld.out (yieldsIf_of rfl ?_) ?_
  rotate_left
  · (intro w hSw; go_simp <;> with_reducible rfl)
  try simp only [Act.put, List.setIfInBounds_toArray, List.set_cons_zero, List.set_cons_succ]
  refine lastTake 6 (v := ?_) rfl (by kernel_rfl) (by kernel_rfl) (by kernel_rfl) (by kernel_rfl) (by kernel_rfl) (fun _ _ _ h => h) hHeld.out (yieldsIf_of rfl ?_) ?_
  rotate_left
  · (intro w hSw; go_simp <;> with_reducible rfl)
  try simp only [Act.put, List.setIfInBounds_toArray, List.set_cons_zero, List.set_cons_succ]
  refine lastTake 7 (v := ?_) rfl (by kernel_rfl) (by kernel_rfl) (by kernel_rfl) (by kernel_rfl) (by kernel_rfl) (fun _ _ _ h => h) hHeld.out (yieldsIf_of rfl ?_) ?_
  rotate_left
  · (intro w hSw; go_simp <;> with_reducible rfl)
  try simp only [Act.put, List.setIfInBounds_toArray, List.set_cons_zero, List.set_cons_succ]
  refine lastTake 8 (v := ?_) rfl (by kernel_rfl) (by kernel_rfl) (by kernel_rfl) (by kernel_rfl) (by kernel_rfl) (fun _ _ _ h => h) hHeld.out (yieldsIf_of rfl ?_) ?_
  rotate_left
  · (intro w hSw; go_simp <;> with_reducible rfl)
  try simp only [Act.put, List.setIfInBounds_toArray, List.set_cons_zero, List.set_cons_succ]
  refine lastTake 9 rfl (by kernel_rfl) (by kernel_rfl) (by kernel_rfl) (by kernel_rfl) (by kernel_rfl) (fun _ _ _ h => h) hHeld.out (yieldsIf_cell rfl 22 (.tmp 34) rfl _ rfl (.int .u32 f0) _ (fun _ h => (blk_cell h.1 0).trans hF0.out) Try.underlying22 rfl) ?_
  try simp only [Act.put, List.setIfInBounds_toArray, List.set_cons_zero, List.set_cons_succ]
  refine lastTake 10 (v := ?_) rfl (by kernel_rfl) (by kernel_rfl) (by kernel_rfl) (by kernel_rfl) (by kernel_rfl) (fun _ _ _ h => h) hHeld.out (yieldsIf_of rfl ?_) ?_
  rotate_left
  · (intro w hSw; go_simp <;> with_reducible rfl)
  try simp only [Act.put, List.setIfInBounds_toArray, List.set_cons_zero, List.set_cons_succ]
  refine lastTake 11 (v := ?_) rfl (by kernel_rfl) (by kernel_rfl) (by kernel_rfl) (by kernel_rfl) (by kernel_rfl) (fun _ _ _ h => h) hHeld.out (yieldsIf_of rfl ?_) ?_
  rotate_left
  · (intro w hSw; go_simp <;> with_reducible rfl)
  try simp only [Act.put, List.setIfInBounds_toArray, List.set_cons_zero, List.set_cons_succ]
  refine lastTake 12 (v := ?_) rfl (by kernel_rfl) (by kernel_rfl) (by kernel_rfl) (by kernel_rfl) (by kernel_rfl) (fun _ _ _ h => h) hHeld.out (yieldsIf_of rfl ?_) ?_
  rotate_left
  · (intro w hSw; go_simp <;> with_reducible rfl)
  try simp only [Act.put, List.setIfInBounds_toArray, List.set_cons_zero, List.set_cons_succ]
  refine lastTake 13 (v := ?_) rfl (by kernel_rfl) (by kernel_rfl) (by kernel_rfl) (by kernel_rfl) (by kernel_rfl) (fun _ _ _ h => h) hHeld.out (yieldsIf_of rfl ?_) ?_
  rotate_left
  · (intro w hSw; go_simp <;> with_reducible rfl)
  try simp only [Act.put, List.setIfInBounds_toArray, List.set_cons_zero, List.set_cons_succ]
  refine lastTake 14 (v := ?_) rfl (by kernel_rfl) (by kernel_rfl) (by kernel_rfl) (by kernel_rfl) (by kernel_rfl) (fun _ _ _ h => h) hHeld.out (yieldsIf_of rfl ?_) ?_
  rotate_left
  · (intro w hSw; go_simp <;> with_reducible rfl)
  try simp only [Act.put, List.setIfInBounds_toArray, List.set_cons_zero, List.set_cons_succ]
  refine lastTake 15 (v := ?_) rfl (by kernel_rfl) (by kernel_rfl) (by kernel_rfl) (by kernel_rfl) (by kernel_rfl) (fun _ _ _ h => h) hHeld.out (yieldsIf_of rfl ?_) ?_
  rotate_left
  · (intro w hSw; go_simp <;> with_reducible rfl)
  try simp only [Act.put, List.setIfInBounds_toArray, List.set_cons_zero, List.set_cons_succ]
  refine lastTake 16 (v := ?_) rfl (by kernel_rfl) (by kernel_rfl) (by kernel_rfl) (by kernel_rfl) (by kernel_rfl) (fun _ _ _ h => h) hHeld.out (yieldsIf_of rfl ?_) ?_
  rotate_left
  · (intro w hSw; go_simp <;> with_reducible rfl)
  try simp only [Act.put, List.setIfInBounds_toArray, List.set_cons_zero, List.set_cons_succ]
  refine lastTake 17 rfl (by kernel_rfl) (by kernel_rfl) (by kernel_rfl) (by kernel_rfl) (by kernel_rfl) (fun _ _ _ h => h) hHeld.out (yieldsIf_not rfl) ?_
  try simp only [Act.put, List.setIfInBounds_toArray, List.set_cons_zero, List.set_cons_succ]
  refine lastTake 18 rfl (by kernel_rfl) (by kernel_rfl) (by kernel_rfl) (by kernel_rfl) (by kernel_rfl) (fun _ _ _ h => h) hHeld.out (yieldsIf_not rfl) ?_
  try simp only [Act.put, List.setIfInBounds_toArray, List.set_cons_zero, List.set_cons_succ]
  refine lastTake 19 (v := ?_) rfl (by kernel_rfl) (by kernel_rfl) (by kernel_rfl) (by kernel_rfl) (by kernel_rfl) (fun _ _ _ h => h) hHeld.out (yieldsIf_of rfl ?_) ?_
  rotate_left
  · (intro w hSw; go_simp <;> with_reducible rfl)
  try simp only [Act.put, List.setIfInBounds_toArray, List.set_cons_zero, List.set_cons_succ]
  refine lastTake 20 (v := ?_) rfl (by kernel_rfl) (by kernel_rfl) (by kernel_rfl) (by kernel_rfl) (by kernel_rfl) (fun _ _ _ h => h) hHeld.out (yieldsIf_of rfl ?_) ?_
  rotate_left
  · (intro w hSw; go_simp <;> with_reducible rfl)
  try simp only [Act.put, List.setIfInBounds_toArray, List.set_cons_zero, List.set_cons_succ]
  refine lastTake 21 (v := ?_) rfl (by kernel_rfl) (by kernel_rfl) (by kernel_rfl) (by kernel_rfl) (by kernel_rfl) (fun _ _ _ h => h) hHeld.out (yieldsIf_of rfl ?_) ?_
  rotate_left
  · (intro w hSw; go_simp <;> with_reducible rfl)
  try simp only [Act.put, List.setIfInBounds_toArray, List.set_cons_zero, List.set_cons_succ]
  refine lastTake 22 rfl (by kernel_rfl) (by kernel_rfl) (by kernel_rfl) (by kernel_rfl) (by kernel_rfl) (fun _ _ _ h => h) hHeld.out (yieldsIf_row rfl 25 (.tmp 2) rfl _ rfl _ RF _ _ (fun _ h => h.1) Try.underlying25 rfl hF.out.info) ?_
  try simp only [Act.put, List.setIfInBounds_toArray, List.set_cons_zero, List.set_cons_succ]
  refine lastTake 23 rfl (by kernel_rfl) (by kernel_rfl) (by kernel_rfl) (by kernel_rfl) (by kernel_rfl) (fun _ _ _ h => h) hHeld.out (yieldsIf_row rfl 23 (.tmp 3) rfl _ rfl _ RV _ _ (fun _ h => h.2.1) Try.underlying23 rfl hV.out.info) ?_
  try simp only [Act.put, List.setIfInBounds_toArray, List.set_cons_zero, List.set_cons_succ]
  refine lastTake 25 rfl (by kernel_rfl) (by kernel_rfl) (by kernel_rfl) (by kernel_rfl) (by kernel_rfl) (fun _ _ _ h => h) hHeld.out (yieldsIf_row rfl 32 (.tmp 9) rfl _ rfl _ #[Value.int .u32 f0, Value.slice (some adk) 34 nk] _ _ (fun _ h => h.2.2) Try.underlying32 rfl HIK.out.1) ?_
  try simp only [Act.put, List.setIfInBounds_toArray, List.set_cons_zero, List.set_cons_succ]
  refine lastTake 26 rfl (by kernel_rfl) (by kernel_rfl) (by kernel_rfl) (by kernel_rfl) (by kernel_rfl) (fun _ _ _ h => h) hHeld.out (yieldsIf_row rfl 23 (.tmp 3) rfl _ rfl _ RV _ _ (fun _ h => h.2.1) Try.underlying23 rfl hV.out.info) ?_
  try simp only [Act.put, List.setIfInBounds_toArray, List.set_cons_zero, List.set_cons_succ]
  refine lastOne 24 (by kernel_rfl) rfl (by decide) (fun K hK => ?_)
  go_simp
  refine (EV.out _).mono ?_
  rintro _ v1 ⟨rfl, hb⟩
  have hNewE : (ReadsInt v1 .u32 (some adk) 34 fs) ∧ (Below w.heap.size w v1) := ⟨ReadsInt.below (hEx.out.1) hb, below_more (hEx.out.2) (Nat.le_refl _) hb⟩
  refine hK.out _ _ ⟨blk_below (hHeld.out.1) hb, blk_below (hHeld.out.2.1) hb, blk_below (hHeld.out.2.2) hb⟩ (fun hNewS => ?_)
  clear hK K
  clear hHeld hEx
  have hHeld := Lib.hid hNewS
  have hEx := Lib.hid hNewE
  clear hNewS hNewE
  clear hb
  try simp only [Act.put, List.setIfInBounds_toArray, List.set_cons_zero, List.set_cons_succ]
  refine lastOne 27 (by kernel_rfl) rfl (by decide) (fun K hK => ?_)
  go_simp
  refine (ROW.out _).mono ?_
  rintro _ v2 ⟨adv, nv, rfl, hnv, hrd, hb⟩
  have hNewE : (ReadsInt v2 .u32 (some adv) 34 vs) ∧ (ReadsInt v2 .u32 (some adk) 34 fs) ∧ (Below w.heap.size w v2) := ⟨hrd, ReadsInt.below (hEx.out.1) hb, below_more (hEx.out.2) (Nat.le_refl _) hb⟩
  refine hK.out _ _ ⟨blk_below (hHeld.out.1) hb, blk_below (hHeld.out.2.1) hb, blk_below (hHeld.out.2.2) hb⟩ (fun hNewS => ?_)
  clear hK K
  clear hHeld hEx
  have hHeld := Lib.hid hNewS
  have hEx := Lib.hid hNewE
  clear hNewS hNewE
  clear hb hrd
  try simp only [Act.put, List.setIfInBounds_toArray, List.set_cons_zero, List.set_cons_succ]
  refine lastOne 28 (by kernel_rfl) rfl (by decide) (fun K hK => ?_)
  go_simp
  refine (REV.out _ _ _ _ _ hnk hnv hEx.out.2.1 hEx.out.1).mono ?_
  rintro _ v3 ⟨rfl, hb⟩
  have hNewE : (ReadsInt v3 .u32 (some adv) 34 vs) ∧ (ReadsInt v3 .u32 (some adk) 34 fs) ∧ (Below w.heap.size w v3) := ⟨ReadsInt.below (hEx.out.1) hb, ReadsInt.below (hEx.out.2.1) hb, below_more (hEx.out.2.2) (Nat.le_refl _) hb⟩
  refine hK.out _ _ ⟨blk_below (hHeld.out.1) hb, blk_below (hHeld.out.2.1) hb, blk_below (hHeld.out.2.2) hb⟩ (fun hNewS => ?_)
  clear hK K
  clear hHeld hEx
  have hHeld := Lib.hid hNewS
  have hEx := Lib.hid hNewE
  clear hNewS hNewE
  clear hb
  try simp only [Act.put, List.setIfInBounds_toArray, List.set_cons_zero, List.set_cons_succ]
  refine lastTake 29 (v := ?_) rfl (by kernel_rfl) (by kernel_rfl) (by kernel_rfl) (by kernel_rfl) (by kernel_rfl) (fun _ _ _ h => h) hHeld.out (yieldsIf_of rfl ?_) ?_
  rotate_left
  · (intro w hSw; go_simp <;> with_reducible rfl)
  try simp only [Act.put, List.setIfInBounds_toArray, List.set_cons_zero, List.set_cons_succ]
  refine lastTake 30 (v := ?_) rfl (by kernel_rfl) (by kernel_rfl) (by kernel_rfl) (by kernel_rfl) (by kernel_rfl) (fun _ _ _ h => h) hHeld.out (yieldsIf_of rfl ?_) ?_
  rotate_left
  · (intro w hSw; go_simp <;> with_reducible rfl)
  try simp only [Act.put, List.setIfInBounds_toArray, List.set_cons_zero, List.set_cons_succ]
  refine Go.Proofs.YtocofkkkblelgaaW.PrintLast.wpAnyLast_done (by kernel_rfl) ?_ _
  have HRK := Lib.hid hEx.out.2.1
  have HB := Lib.hid hEx.out.2.2
  have HK := Lib.hid hHeld.out.2.2
  clear hHeld hEx
  go_wp2_with fail
  go_loopw [11] (fun i wr => ∃ m : Nat, m ≤ 34 ∧ i = .int .i64 (m : Int) ∧ (∀ j, j < m → hit j = false) ∧ Below v3.heap.size v3 wr) (fun i _ => 34 - (intOf i).toNat)
  case atStart => exact ⟨0, by omega, rfl, fun j hj => by omega, Below.refl _ _⟩
  case round =>
    obtain ⟨m, hm, rfl, hall, hbb⟩ := hrel
    have HALL := Lib.hid hall
    have HBB := Lib.hid hbb
    have HK2 := Lib.hid (blk_below HK.out hbb)
    have HRK2 := Lib.hid (ReadsInt.below HRK.out hbb)
    have HB2 := Lib.hid (below_more HB.out (Nat.le_refl _) hbb)
    clear hall hbb
    by_cases hlt : m < 34
    · have RVM := Lib.hid (RVA.out m hlt)
      have SAMM := Lib.hid (SAM.out m hlt)
      have HNX := Lib.hid (fun (h : hit m = false) j (hj : j < m + 1) => (if e : j = m then e ▸ h else HALL.out j (by omega) : hit j = false))
      have HYS := Lib.hid (SPY.out m hlt HALL.out)
      generalize hit m = hm at *
      go_wp2_with fail
      have hNewE : (ReadsInt wr.drew .u32 (some adk) 34 fs) ∧ (Below v3.heap.size v3 wr.drew) ∧ (Below w.heap.size w wr.drew) := ⟨HRK2.out, HBB.out.drew, HB2.out.drew⟩
      have hEx := Lib.hid hNewE
      clear hNewE
      refine Go.Proofs.YtocofkkkblelgaaW.PrintLast.wp_region_last_drew (S := fun w' => (w'.heap[w3.heap.size]? = some (.cells #[Value.int .u32 f0, Value.slice (some adk) 34 nk] 32 (0, 0)))) (ds := []) (by kernel_rfl) HK2.out (fun hNewS => ?_)
      have hHeld := Lib.hid hNewS
      clear hNewS
      refine lastTake 0 rfl (by kernel_rfl) (by kernel_rfl) (by kernel_rfl) (by kernel_rfl) (by kernel_rfl) (fun _ _ _ h => h) hHeld.out (yieldsIf_row rfl 32 (.tmp 9) rfl _ rfl _ #[Value.int .u32 f0, Value.slice (some adk) 34 nk] _ _ (fun _ h => h) Try.underlying32 rfl HIK.out.1) ?_
      try simp only [Act.put, List.setIfInBounds_toArray, List.set_cons_zero, List.set_cons_succ]
      refine lastTake 1 (v := ?_) rfl (by kernel_rfl) (by kernel_rfl) (by kernel_rfl) (by kernel_rfl) (by kernel_rfl) (fun _ _ _ h => h) hHeld.out (yieldsIf_of rfl ?_) ?_
      rotate_left
      · (intro w hSw; go_simp <;> with_reducible rfl)
      try simp only [Act.put, List.setIfInBounds_toArray, List.set_cons_zero, List.set_cons_succ]
      refine lastOne 2 (by kernel_rfl) rfl (by decide) (fun K hK => ?_)
      go_simp
      refine (RVM.out _).mono ?_
      rintro _ v4 ⟨adq, nq, rfl, hnq, hrd, hb⟩
      have hNewE : (ReadsInt v4 .u32 (some adq) 34 (var m)) ∧ (ReadsInt v4 .u32 (some adk) 34 fs) ∧ (Below v3.heap.size v3 v4) ∧ (Below w.heap.size w v4) := ⟨hrd, ReadsInt.below (hEx.out.1) hb, below_more (hEx.out.2.1) (Nat.le_refl _) hb, below_more (hEx.out.2.2) (Nat.le_refl _) hb⟩
      refine hK.out _ _ (blk_below (hHeld.out) hb) (fun hNewS => ?_)
      clear hK K
      clear hHeld hEx
      have hHeld := Lib.hid hNewS
      have hEx := Lib.hid hNewE
      clear hNewS hNewE
      clear hb hrd
      try simp only [Act.put, List.setIfInBounds_toArray, List.set_cons_zero, List.set_cons_succ]
      refine lastOne 3 (by kernel_rfl) rfl (by decide) (fun K hK => ?_)
      go_simp
      refine (SAMM.out _ _ _ _ _ hnk hnq hEx.out.2.1 hEx.out.1).mono ?_
      rintro _ v5 ⟨rfl, hb⟩
      have hNewE : (ReadsInt v5 .u32 (some adq) 34 (var m)) ∧ (ReadsInt v5 .u32 (some adk) 34 fs) ∧ (Below v3.heap.size v3 v5) ∧ (Below w.heap.size w v5) := ⟨ReadsInt.below (hEx.out.1) hb, ReadsInt.below (hEx.out.2.1) hb, below_more (hEx.out.2.2.1) (Nat.le_refl _) hb, below_more (hEx.out.2.2.2) (Nat.le_refl _) hb⟩
      refine hK.out _ _ (blk_below (hHeld.out) hb) (fun hNewS => ?_)
      clear hK K
      clear hHeld hEx
      have hHeld := Lib.hid hNewS
      have hEx := Lib.hid hNewE
      clear hNewS hNewE
      clear hb
      try simp only [Act.put, List.setIfInBounds_toArray, List.set_cons_zero, List.set_cons_succ]
      refine Go.Proofs.YtocofkkkblelgaaW.PrintLast.wpAnyLast_done (by kernel_rfl) ?_ _
      have HBW := Lib.hid hEx.out.2.2.1
      have HB3 := Lib.hid hEx.out.2.2.2
      clear hHeld hEx
      cases hm
      · go_wp2_with fail
        go_roundw
        case measure => simp [intOf]; omega
        case rel => exact ⟨m + 1, by omega, by go_num, HNX.out rfl, HBW.out⟩
      · obtain ⟨rfl, rfl⟩ := HYS.out rfl
        go_wp2_with fail
        refine (KN.out _).mono ?_
        rintro e w9 ⟨rfl, hb⟩
        have HFI := Lib.hid (below_more HB3.out (Nat.le_refl _) hb)
        clear hb
        go_wp2_with fail
        go_ret
        exact ⟨rfl, HFI.out⟩
    · obtain rfl : m = 34 := by omega
      obtain ⟨rfl, rfl⟩ := SPN.out HALL.out
      go_wp2_with fail
      refine (KN.out _).mono ?_
      rintro e w9 ⟨rfl, hb⟩
      have HFI := Lib.hid (below_more HB2.out (Nat.le_refl _) hb)
      clear hb
      go_wp2_with fail
      go_ret
      exact ⟨rfl, HFI.out⟩
set_option maxHeartbeats 8000000 in
theorem AffineValues_false (RF RV : Array Value) (f0 ev iv n : Int) (isv : Bool) (fs vs : List Int) (hit : Nat → Bool) (hF : FRow RF) (hV : VRow RV) (hF0 : RF[0]? = some (.int .u32 f0)) (hn : ¬ n = 0)
    (CT : Gives Try.prog 20 #[.agg RF] (.tuple #[.int .u32 0, .bool false])) (SG : Gives Try.prog 21 #[.agg RF] (.tuple #[.int .i64 iv, .bool isv]))
    (ASF : GRF 11 #[.agg RF] f0 fs) (CNT : ∀ ad c w, 34 ≤ c → ReadsInt w .u32 (some ad) 34 fs → Calls Try.prog 22 #[.agg #[.int .u32 f0, .slice (some ad) 34 c]] w fun e w' => e = .returned (.int .i64 n) ∧ Below w.heap.size w w')
    (EV : Gives Try.prog 23 #[.agg RF, .agg RV] (.int .u32 ev)) (ROW : ∀ w, Calls Try.prog 25 #[.agg RV] w fun e w' => ∃ ad cap, e = .returned (.slice (some ad) 34 cap) ∧ 34 ≤ cap ∧ ReadsInt w' .u32 (some ad) 34 vs ∧ Below w.heap.size w w')
    (REV : ∀ (ad1 ad2 : Addr) (n1 n2 : Nat) (w : World), 34 ≤ n1 → 34 ≤ n2 → ReadsInt w .u32 (some ad1) 34 fs → ReadsInt w .u32 (some ad2) 34 vs → Calls Try.prog 24 #[.agg #[.int .u32 f0, .slice (some ad1) 34 n1], .slice (some ad2) 34 n2] w fun e w' => e = .returned (.int .u32 ev) ∧ Below w.heap.size w w')
    (RVA : ∀ m : Nat, m < 34 → GRF 12 #[.int .i64 (m : Int)] 0 (var m)) (SAM : ∀ m, m < 34 → GSame f0 0 fs (var m) (hit m))
    (SPY : ∀ m, m < 34 → (∀ j, j < m → hit j = false) → hit m = true → isv = true ∧ iv = (m : Int)) (SPN : (∀ j, j < 34 → hit j = false) → isv = false ∧ iv = 0)
    (KN : Gives Try.prog 19 #[] (.bool true)) (w : World) :
    Calls Try.prog 4 #[.agg RF, .agg RV] w fun e w' => e = .returned (.bool true) ∧ Below w.heap.size w w' := by
  have hn2 : (n == 0) = false := by simpa using hn
  replace hF := Lib.hid hF
  replace hV := Lib.hid hV
  replace hF0 := Lib.hid hF0
  replace CT := Lib.hid CT
  replace SG := Lib.hid SG
  replace ASF := Lib.hid ASF
  replace CNT := Lib.hid CNT
  replace EV := Lib.hid EV
  replace ROW := Lib.hid ROW
  replace REV := Lib.hid REV
  replace RVA := Lib.hid RVA
  replace SAM := Lib.hid SAM
  replace SPY := Lib.hid SPY
  replace SPN := Lib.hid SPN
  replace KN := Lib.hid KN
  obtain ⟨q1, q2, q3, q4⟩ := alloc2d w (Obj.cells RF 25) (Obj.cells RV 23)
  replace q1 := Lib.hid q1
  replace q2 := Lib.hid q2
  replace q4 := Lib.hid q4
  clear q3
  go_enter Try.func4, Try.ntmps4
  go_wp2_with (refine wpList_load_row_g rfl 25 (.tmp 2) rfl _ rfl _ _ _ _ q1.out Try.underlying25 rfl hF.out.info ?_)
  refine (CT.out _).mono ?_
  rintro _ w1 ⟨rfl, hb⟩
  have p1 := Lib.hid (blk_below q1.out hb)
  have p2 := Lib.hid (blk_below q2.out hb)
  have p4 := Lib.hid (below_more q4.out (Nat.le_refl _) hb)
  clear hb q1 q2 q4
  go_wp2_with (refine wpList_load_row_g rfl 25 (.tmp 2) rfl _ rfl _ _ _ _ p1.out Try.underlying25 rfl hF.out.info ?_)
  refine (SG.out _).mono ?_
  rintro _ w2 ⟨rfl, hb⟩
  have r1 := Lib.hid (blk_below p1.out hb)
  have r2 := Lib.hid (blk_below p2.out hb)
  have r4 := Lib.hid (below_more p4.out (Nat.le_refl _) hb)
  clear hb p1 p2 p4
  go_wp2_with (refine wpList_load_row_g rfl 25 (.tmp 2) rfl _ rfl _ _ _ _ r1.out Try.underlying25 rfl hF.out.info ?_)
  refine (ASF.out _).mono ?_
  rintro _ w3 ⟨adk, nk, rfl, hnk, hrk, hb⟩
  have s1 := Lib.hid (blk_below r1.out hb)
  have s2 := Lib.hid (blk_below r2.out hb)
  have s4 := Lib.hid (below_more r4.out (Nat.le_refl _) hb)
  have RK := Lib.hid hrk
  clear hb r1 r2 r4 hrk
  obtain ⟨W4, hW4, r, b2⟩ := letvar w3 #[Value.int .u32 0, Value.slice none 0 0] #[Value.int .u32 f0, Value.slice (some adk) 34 nk] 32
  have HW := Lib.hid hW4
  have t3 := Lib.hid r
  have t1 := Lib.hid (blk_below s1.out b2)
  have t2 := Lib.hid (blk_below s2.out b2)
  have t4 := Lib.hid (below_more s4.out (Nat.le_refl _) b2)
  have RK4 := Lib.hid (ReadsInt.below RK.out b2)
  clear hW4 r b2 s1 s2 s4 RK
  have HIK := Lib.hid (info32k f0 adk nk)
  go_wp2_with (first | (refine wpList_store_row rfl 32 (.tmp 9) (.tmp 23) rfl rfl w3.heap.size rfl #[Value.int .u32 f0, Value.slice (some adk) 34 nk] rfl _ _ (heap_alloc_new _ _) rfl HIK.out.1 HIK.out.2 ?_; rw [HW.out]) | (refine wpList_load_row_g rfl 32 (.tmp 9) rfl _ rfl _ _ _ _ t3.out Try.underlying32 rfl HIK.out.1 ?_))
  clear HW
  refine (CNT.out _ _ _ hnk RK4.out).mono ?_
  rintro _ w5 ⟨rfl, hb⟩
  have x1 := Lib.hid (blk_below t1.out hb)
  have x2 := Lib.hid (blk_below t2.out hb)
  have x3 := Lib.hid (blk_below t3.out hb)
  have x4 := Lib.hid (below_more t4.out (Nat.le_refl _) hb)
  have RK5 := Lib.hid (ReadsInt.below RK4.out hb)
  clear hb t1 t2 t3 t4 RK4
  go_wp2_with fail
  have hNewE : (ReadsInt w5.drew .u32 (some adk) 34 fs) ∧ (Below w.heap.size w w5.drew) := ⟨RK5.out, x4.out.drew⟩
  have hEx := Lib.hid hNewE
  clear hNewE
  refine Go.Proofs.YtocofkkkblelgaaW.PrintLast.wp_region_last_drew (S := fun w' => (w'.heap[w.heap.size]? = some (.cells RF 25 (0, 0))) ∧ (w'.heap[(w.heap.size + 1)]? = some (.cells RV 23 (0, 0))) ∧ (w'.heap[w3.heap.size]? = some (.cells #[Value.int .u32 f0, Value.slice (some adk) 34 nk] 32 (0, 0)))) (ds := []) (by kernel_rfl) ⟨x1.out, x2.out, x3.out⟩ (fun hNewS => ?_)
  have hHeld := Lib.hid hNewS
  clear hNewS
  refine lastTake 0 (v := ?_) rfl (by kernel_rfl) (by kernel_rfl) (by kernel_rfl) (by kernel_rfl) (by kernel_rfl) (fun _ _ _ h => h) hHeld.out (yieldsIf_of rfl ?_) ?_
  rotate_left
  · (intro w hSw; go_simp <;> with_reducible rfl)
  try simp only [Act.put, List.setIfInBounds_toArray, List.set_cons_zero, List.set_cons_succ]
  refine lastTake 1 (v := ?_) rfl (by kernel_rfl) (by kernel_rfl) (by kernel_rfl) (by kernel_rfl) (by kernel_rfl) (fun _ _ _ h => h) hHeld.out (yieldsIf_of rfl ?_) ?_
  rotate_left
  · (intro w hSw; go_simp <;> with_reducible rfl)
  try simp only [Act.put, List.setIfInBounds_toArray, List.set_cons_zero, List.set_cons_succ]
  refine lastTake 2 (v := ?_) rfl (by kernel_rfl) (by kernel_rfl) (by kernel_rfl) (by kernel_rfl) (by kernel_rfl) (fun _ _ _ h => h) hHeld.out (yieldsIf_of rfl ?_) ?_
  rotate_left
  · (intro w hSw; go_simp <;> with_reducible rfl)
  try simp only [Act.put, List.setIfInBounds_toArray, List.set_cons_zero, List.set_cons_succ]
  refine lastTake 3 (v := ?_) rfl (by kernel_rfl) (by kernel_rfl) (by kernel_rfl) (by kernel_rfl) (by kernel_rfl) (fun _ _ _ h => h) hHeld.out (yieldsIf_of rfl ?_) ?_
  rotate_left
  · (intro w hSw; go_simp <;> with_reducible rfl)
  try simp only [Act.put, List.setIfInBounds_toArray, List.set_cons_zero, List.set_cons_succ]
  refine lastTake 4 (v := ?_) rfl (by kernel_rfl) (by kernel_rfl) (by kernel_rfl) (by kernel_rfl) (by kernel_rfl) (fun _ _ _ h => h) hHeld.out (yieldsIf_of rfl ?_) ?_
  rotate_left
  · (intro w hSw; go_simp <;> with_reducible rfl)
  try simp only [Act.put, List.setIfInBounds_toArray, List.set_cons_zero, List.set_cons_succ]
  refine lastTake 5 (v := ?_) rfl (by kernel_rfl) (by kernel_rfl) (by kernel_rfl) (by kernel_rfl) (by kernel_rfl) (fun _ _ _ h => h) hHeld.out (yieldsIf_of rfl ?_) ?_
  rotate_left
  · (intro w hSw; go_simp <;> with_reducible rfl)
  try simp only [Act.put, List.setIfInBounds_toArray, List.set_cons_zero, List.set_cons_succ]
  refine lastTake 6 (v := ?_) rfl (by kernel_rfl) (by kernel_rfl) (by kernel_rfl) (by kernel_rfl) (by kernel_rfl) (fun _ _ _ h => h) hHeld.out (yieldsIf_of rfl ?_) ?_
  rotate_left
  · (intro w hSw; go_simp <;> with_reducible rfl)
  try simp only [Act.put, List.setIfInBounds_toArray, List.set_cons_zero, List.set_cons_succ]
  refine lastTake 7 rfl (by kernel_rfl) (by kernel_rfl) (by kernel_rfl) (by kernel_rfl) (by kernel_rfl) (fun _ _ _ h => h) hHeld.out (yieldsIf_not rfl) ?_
  try simp only [Act.put, List.setIfInBounds_toArray, List.set_cons_zero, List.set_cons_succ]
  refine lastTake 8 rfl (by kernel_rfl) (by kernel_rfl) (by kernel_rfl) (by kernel_rfl) (by kernel_rfl) (fun _ _ _ h => h) hHeld.out (yieldsIf_not rfl) ?_
  try simp only [Act.put, List.setIfInBounds_toArray, List.set_cons_zero, List.set_cons_succ]
  refine lastTake 9 rfl (by kernel_rfl) (by kernel_rfl) (by kernel_rfl) (by kernel_rfl) (by kernel_rfl) (fun _ _ _ h => h) hHeld.out (yieldsIf_not rfl) ?_
  try simp only [Act.put, List.setIfInBounds_toArray, List.set_cons_zero, List.set_cons_succ]
  refine lastTake 10 rfl (by kernel_rfl) (by kernel_rfl) (by kernel_rfl) (by kernel_rfl) (by kernel_rfl) (fun _ _ _ h => h) hHeld.out (yieldsIf_not rfl) ?_
  try simp only [Act.put, List.setIfInBounds_toArray, List.set_cons_zero, List.set_cons_succ]
  refine lastTake 11 (v := ?_) rfl (by kernel_rfl) (by kernel_rfl) (by kernel_rfl) (by kernel_rfl) (by kernel_rfl) (fun _ _ _ h => h) hHeld.out (yieldsIf_of rfl ?_) ?_
  rotate_left
  · (intro w hSw; go_simp <;> with_reducible rfl)
  try simp only [Act.put, List.setIfInBounds_toArray, List.set_cons_zero, List.set_cons_succ]
  refine lastTake 12 (v := ?_) rfl (by kernel_rfl) (by kernel_rfl) (by kernel_rfl) (by kernel_rfl) (by kernel_rfl) (fun _ _ _ h => h) hHeld.out (yieldsIf_of rfl ?_) ?_
  rotate_left
  · (intro w hSw; go_simp <;> with_reducible rfl)
  try simp only [Act.put, List.setIfInBounds_toArray, List.set_cons_zero, List.set_cons_succ]
  refine lastTake 13 (v := ?_) rfl (by kernel_rfl) (by kernel_rfl) (by kernel_rfl) (by kernel_rfl) (by kernel_rfl) (fun _ _ _ h => h) hHeld.out (yieldsIf_of rfl ?_) ?_
  rotate_left
  · (intro w hSw; go_simp <;> with_reducible rfl)
  try simp only [Act.put, List.setIfInBounds_toArray, List.set_cons_zero, List.set_cons_succ]
  refine lastTake 14 (v := ?_) rfl (by kernel_rfl) (by kernel_rfl) (by kernel_rfl) (by kernel_rfl) (by kernel_rfl) (fun _ _ _ h => h) hHeld.out (yieldsIf_of rfl ?_) ?_
  rotate_left
  · (intro w hSw; go_simp <;> with_reducible rfl)
  try simp only [Act.put, List.setIfInBounds_toArray, List.set_cons_zero, List.set_cons_succ]
  refine lastTake 15 (v := ?_) rfl (by kernel_rfl) (by kernel_rfl) (by kernel_rfl) (by kernel_rfl) (by kernel_rfl) (fun _ _ _ h => h) hHeld.out (yieldsIf_of rfl ?_) ?_
  rotate_left
  · (intro w hSw; go_simp <;> with_reducible rfl)
  try simp only [Act.put, List.setIfInBounds_toArray, List.set_cons_zero, List.set_cons_succ]
  refine lastTake 16 (v := ?_) rfl (by kernel_rfl) (by kernel_rfl) (by kernel_rfl) (by kernel_rfl) (by kernel_rfl) (fun _ _ _ h => h) hHeld.out (yieldsIf_of rfl ?_) ?_
  rotate_left
  · (intro w hSw; go_simp <;> with_reducible rfl)
  try simp only [Act.put, List.setIfInBounds_toArray, List.set_cons_zero, List.set_cons_succ]
  refine lastTake 17 (v := ?_) rfl (by kernel_rfl) (by kernel_rfl) (by kernel_rfl) (by kernel_rfl) (by kernel_rfl) (fun _ _ _ h => h) hHeld.out (yieldsIf_of rfl ?_) ?_
  rotate_left
  · (intro w hSw; go_simp <;> with_reducible rfl)
  try simp only [Act.put, List.setIfInBounds_toArray, List.set_cons_zero, List.set_cons_succ]
  refine lastTake 18 (v := ?_) rfl (by kernel_rfl) (by kernel_rfl) (by kernel_rfl) (by kernel_rfl) (by kernel_rfl) (fun _ _ _ h => h) hHeld.out (yieldsIf_of rfl ?_) ?_
  rotate_left
  · (intro w hSw; go_simp <;> with_reducible rfl)
  try simp only [Act.put, List.setIfInBounds_toArray, List.set_cons_zero, List.set_cons_succ]
  refine lastTake 19 (v := ?_) rfl (by kernel_rfl) (by kernel_rfl) (by kernel_rfl) (by kernel_rfl) (by kernel_rfl) (fun _ _ _ h => h) hHeld.out (yieldsIf_of rfl ?_) ?_
  rotate_left
  · (intro w hSw; go_simp <;> with_reducible rfl)
  try simp only [Act.put, List.setIfInBounds_toArray, List.set_cons_zero, List.set_cons_succ]
  refine lastTake 20 (v := ?_) rfl (by kernel_rfl) (by kernel_rfl) (by kernel_rfl) (by kernel_rfl) (by kernel_rfl) (fun _ _ _ h => h) hHeld.out (yieldsIf_of rfl ?_) ?_
  rotate_left
  · (intro w hSw; go_simp <;> with_reducible rfl)
  try simp only [Act.put, List.setIfInBounds_toArray, List.set_cons_zero, List.set_cons_succ]
  refine lastTake 21 (v := ?_) rfl (by kernel_rfl) (by kernel_rfl) (by kernel_rfl) (by kernel_rfl) (by kernel_rfl) (fun _ _ _ h => h) hHeld.out (yieldsIf_of rfl ?_) ?_
  rotate_left
  · (intro w hSw; go_simp <;> with_reducible rfl)
  try simp only [Act.put, List.setIfInBounds_toArray, List.set_cons_zero, List.set_cons_succ]
  refine lastTake 22 rfl (by kernel_rfl) (by kernel_rfl) (by kernel_rfl) (by kernel_rfl) (by kernel_rfl) (fun _ _ _ h => h) hHeld.out (yieldsIf_row rfl 25 (.tmp 2) rfl _ rfl _ RF _ _ (fun _ h => h.1) Try.underlying25 rfl hF.out.info) ?_
  try simp only [Act.put, List.setIfInBounds_toArray, List.set_cons_zero, List.set_cons_succ]
  refine lastTake 23 rfl (by kernel_rfl) (by kernel_rfl) (by kernel_rfl) (by kernel_rfl) (by kernel_rfl) (fun _ _ _ h => h) hHeld.out (yieldsIf_row rfl 23 (.tmp 3) rfl _ rfl _ RV _ _ (fun _ h => h.2.1) Try.underlying23 rfl hV.out.info) ?_
  try simp only [Act.put, List.setIfInBounds_toArray, List.set_cons_zero, List.set_cons_succ]
  refine lastTake 25 rfl (by kernel_rfl) (by kernel_rfl) (by kernel_rfl) (by kernel_rfl) (by kernel_rfl) (fun _ _ _ h => h) hHeld.out (yieldsIf_row rfl 32 (.tmp 9) rfl _ rfl _ #[Value.int .u32 f0, Value.slice (some adk) 34 nk] _ _ (fun _ h => h.2.2) Try.underlying32 rfl HIK.out.1) ?_
  try simp only [Act.put, List.setIfInBounds_toArray, List.set_cons_zero, List.set_cons_succ]
  refine lastTake 26 rfl (by kernel_rfl) (by kernel_rfl) (by kernel_rfl) (by kernel_rfl) (by kernel_rfl) (fun _ _ _ h => h) hHeld.out (yieldsIf_row rfl 23 (.tmp 3) rfl _ rfl _ RV _ _ (fun _ h => h.2.1) Try.underlying23 rfl hV.out.info) ?_
  try simp only [Act.put, List.setIfInBounds_toArray, List.set_cons_zero, List.set_cons_succ]
  refine lastOne 24 (by kernel_rfl) rfl (by decide) (fun K hK => ?_)
  go_simp
  refine (EV.out _).mono ?_
  rintro _ v6 ⟨rfl, hb⟩
  have hNewE : (ReadsInt v6 .u32 (some adk) 34 fs) ∧ (Below w.heap.size w v6) := ⟨ReadsInt.below (hEx.out.1) hb, below_more (hEx.out.2) (Nat.le_refl _) hb⟩
  refine hK.out _ _ ⟨blk_below (hHeld.out.1) hb, blk_below (hHeld.out.2.1) hb, blk_below (hHeld.out.2.2) hb⟩ (fun hNewS => ?_)
  clear hK K
  clear hHeld hEx
  have hHeld := Lib.hid hNewS
  have hEx := Lib.hid hNewE
  clear hNewS hNewE
  clear hb
  try simp only [Act.put, List.setIfInBounds_toArray, List.set_cons_zero, List.set_cons_succ]
  refine lastOne 27 (by kernel_rfl) rfl (by decide) (fun K hK => ?_)
  go_simp
  refine (ROW.out _).mono ?_
  rintro _ v7 ⟨adv, nv, rfl, hnv, hrd, hb⟩
  have hNewE : (ReadsInt v7 .u32 (some adv) 34 vs) ∧ (ReadsInt v7 .u32 (some adk) 34 fs) ∧ (Below w.heap.size w v7) := ⟨hrd, ReadsInt.below (hEx.out.1) hb, below_more (hEx.out.2) (Nat.le_refl _) hb⟩
  refine hK.out _ _ ⟨blk_below (hHeld.out.1) hb, blk_below (hHeld.out.2.1) hb, blk_below (hHeld.out.2.2) hb⟩ (fun hNewS => ?_)
  clear hK K
  clear hHeld hEx
  have hHeld := Lib.hid hNewS
  have hEx := Lib.hid hNewE
  clear hNewS hNewE
  clear hb hrd
  try simp only [Act.put, List.setIfInBounds_toArray, List.set_cons_zero, List.set_cons_succ]
  refine lastOne 28 (by kernel_rfl) rfl (by decide) (fun K hK => ?_)
  go_simp
  refine (REV.out _ _ _ _ _ hnk hnv hEx.out.2.1 hEx.out.1).mono ?_
  rintro _ v8 ⟨rfl, hb⟩
  have hNewE : (ReadsInt v8 .u32 (some adv) 34 vs) ∧ (ReadsInt v8 .u32 (some adk) 34 fs) ∧ (Below w.heap.size w v8) := ⟨ReadsInt.below (hEx.out.1) hb, ReadsInt.below (hEx.out.2.1) hb, below_more (hEx.out.2.2) (Nat.le_refl _) hb⟩
  refine hK.out _ _ ⟨blk_below (hHeld.out.1) hb, blk_below (hHeld.out.2.1) hb, blk_below (hHeld.out.2.2) hb⟩ (fun hNewS => ?_)
  clear hK K
  clear hHeld hEx
  have hHeld := Lib.hid hNewS
  have hEx := Lib.hid hNewE
  clear hNewS hNewE
  clear hb
  try simp only [Act.put, List.setIfInBounds_toArray, List.set_cons_zero, List.set_cons_succ]
  refine lastTake 29 (v := ?_) rfl (by kernel_rfl) (by kernel_rfl) (by kernel_rfl) (by kernel_rfl) (by kernel_rfl) (fun _ _ _ h => h) hHeld.out (yieldsIf_of rfl ?_) ?_
  rotate_left
  · (intro w hSw; go_simp <;> with_reducible rfl)
  try simp only [Act.put, List.setIfInBounds_toArray, List.set_cons_zero, List.set_cons_succ]
  refine lastTake 30 (v := ?_) rfl (by kernel_rfl) (by kernel_rfl) (by kernel_rfl) (by kernel_rfl) (by kernel_rfl) (fun _ _ _ h => h) hHeld.out (yieldsIf_of rfl ?_) ?_
  rotate_left
  · (intro w hSw; go_simp <;> with_reducible rfl)
  try simp only [Act.put, List.setIfInBounds_toArray, List.set_cons_zero, List.set_cons_succ]
  refine Go.Proofs.YtocofkkkblelgaaW.PrintLast.wpAnyLast_done (by kernel_rfl) ?_ _
  have HRK := Lib.hid hEx.out.2.1
  have HB := Lib.hid hEx.out.2.2
  have HK := Lib.hid hHeld.out.2.2
  clear hHeld hEx
  go_wp2_with fail
  go_loopw [11] (fun i wr => ∃ m : Nat, m ≤ 34 ∧ i = .int .i64 (m : Int) ∧ (∀ j, j < m → hit j = false) ∧ Below v8.heap.size v8 wr) (fun i _ => 34 - (intOf i).toNat)
  case atStart => exact ⟨0, by omega, rfl, fun j hj => by omega, Below.refl _ _⟩
  case round =>
    obtain ⟨m, hm, rfl, hall, hbb⟩ := hrel
    have HALL := Lib.hid hall
    have HBB := Lib.hid hbb
    have HK2 := Lib.hid (blk_below HK.out hbb)
    have HRK2 := Lib.hid (ReadsInt.below HRK.out hbb)
    have HB2 := Lib.hid (below_more HB.out (Nat.le_refl _) hbb)
    clear hall hbb
    by_cases hlt : m < 34
    · have RVM := Lib.hid (RVA.out m hlt)
      have SAMM := Lib.hid (SAM.out m hlt)
      have HNX := Lib.hid (fun (h : hit m = false) j (hj : j < m + 1) => (if e : j = m then e ▸ h else HALL.out j (by omega) : hit j = false))
      have HYS := Lib.hid (SPY.out m hlt HALL.out)
      generalize hit m = hm at *
      go_wp2_with fail
      have hNewE : (ReadsInt wr.drew .u32 (some adk) 34 fs) ∧ (Below v8.heap.size v8 wr.drew) ∧ (Below w.heap.size w wr.drew) := ⟨HRK2.out, HBB.out.drew, HB2.out.drew⟩
      have hEx := Lib.hid hNewE
      clear hNewE
      refine Go.Proofs.YtocofkkkblelgaaW.PrintLast.wp_region_last_drew (S := fun w' => (w'.heap[w3.heap.size]? = some (.cells #[Value.int .u32 f0, Value.slice (some adk) 34 nk] 32 (0, 0)))) (ds := []) (by kernel_rfl) HK2.out (fun hNewS => ?_)
      have hHeld := Lib.hid hNewS
      clear hNewS
      refine lastTake 0 rfl (by kernel_rfl) (by kernel_rfl) (by kernel_rfl) (by kernel_rfl) (by kernel_rfl) (fun _ _ _ h => h) hHeld.out (yieldsIf_row rfl 32 (.tmp 9) rfl _ rfl _ #[Value.int .u32 f0, Value.slice (some adk) 34 nk] _ _ (fun _ h => h) Try.underlying32 rfl HIK.out.1) ?_
      try simp only [Act.put, List.setIfInBounds_toArray, List.set_cons_zero, List.set_cons_succ]
      refine lastTake 1 (v := ?_) rfl (by kernel_rfl) (by kernel_rfl) (by kernel_rfl) (by kernel_rfl) (by kernel_rfl) (fun _ _ _ h => h) hHeld.out (yieldsIf_of rfl ?_) ?_
      rotate_left
      · (intro w hSw; go_simp <;> with_reducible rfl)
      try simp only [Act.put, List.setIfInBounds_toArray, List.set_cons_zero, List.set_cons_succ]
      refine lastOne 2 (by kernel_rfl) rfl (by decide) (fun K hK => ?_)
      go_simp
      refine (RVM.out _).mono ?_
      rintro _ v9 ⟨adq, nq, rfl, hnq, hrd, hb⟩
      have hNewE : (ReadsInt v9 .u32 (some adq) 34 (var m)) ∧ (ReadsInt v9 .u32 (some adk) 34 fs) ∧ (Below v8.heap.size v8 v9) ∧ (Below w.heap.size w v9) := ⟨hrd, ReadsInt.below (hEx.out.1) hb, below_more (hEx.out.2.1) (Nat.le_refl _) hb, below_more (hEx.out.2.2) (Nat.le_refl _) hb⟩
      refine hK.out _ _ (blk_below (hHeld.out) hb) (fun hNewS => ?_)
      clear hK K
      clear hHeld hEx
      have hHeld := Lib.hid hNewS
      have hEx := Lib.hid hNewE
      clear hNewS hNewE
      clear hb hrd
      try simp only [Act.put, List.setIfInBounds_toArray, List.set_cons_zero, List.set_cons_succ]
      refine lastOne 3 (by kernel_rfl) rfl (by decide) (fun K hK => ?_)
      go_simp
      refine (SAMM.out _ _ _ _ _ hnk hnq hEx.out.2.1 hEx.out.1).mono ?_
      rintro _ v10 ⟨rfl, hb⟩
      have hNewE : (ReadsInt v10 .u32 (some adq) 34 (var m)) ∧ (ReadsInt v10 .u32 (some adk) 34 fs) ∧ (Below v8.heap.size v8 v10) ∧ (Below w.heap.size w v10) := ⟨ReadsInt.below (hEx.out.1) hb, ReadsInt.below (hEx.out.2.1) hb, below_more (hEx.out.2.2.1) (Nat.le_refl _) hb, below_more (hEx.out.2.2.2) (Nat.le_refl _) hb⟩
      refine hK.out _ _ (blk_below (hHeld.out) hb) (fun hNewS => ?_)
      clear hK K
      clear hHeld hEx
      have hHeld := Lib.hid hNewS
      have hEx := Lib.hid hNewE
      clear hNewS hNewE
      clear hb
      try simp only [Act.put, List.setIfInBounds_toArray, List.set_cons_zero, List.set_cons_succ]
      refine Go.Proofs.YtocofkkkblelgaaW.PrintLast.wpAnyLast_done (by kernel_rfl) ?_ _
      have HBW := Lib.hid hEx.out.2.2.1
      have HB3 := Lib.hid hEx.out.2.2.2
      clear hHeld hEx
      cases hm
      · go_wp2_with fail
        go_roundw
        case measure => simp [intOf]; omega
        case rel => exact ⟨m + 1, by omega, by go_num, HNX.out rfl, HBW.out⟩
      · obtain ⟨rfl, rfl⟩ := HYS.out rfl
        go_wp2_with fail
        refine (KN.out _).mono ?_
        rintro e w9 ⟨rfl, hb⟩
        have HFI := Lib.hid (below_more HB3.out (Nat.le_refl _) hb)
        clear hb
        go_wp2_with fail
        go_ret
        exact ⟨rfl, HFI.out⟩
    · obtain rfl : m = 34 := by omega
      obtain ⟨rfl, rfl⟩ := SPN.out HALL.out
      go_wp2_with fail
      refine (KN.out _).mono ?_
      rintro e w9 ⟨rfl, hb⟩
      have HFI := Lib.hid (below_more HB2.out (Nat.le_refl _) hb)
      clear hb
      go_wp2_with fail
      go_ret
      exact ⟨rfl, HFI.out⟩
end Go.Proofs.Ytocofkkkblelgaa.H
