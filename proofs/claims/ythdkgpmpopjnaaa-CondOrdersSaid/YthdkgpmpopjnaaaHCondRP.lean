/-
The reference of cond: Words, Print.
-/
import Derived.Test.YthdkgpmpopjnaaaProg
import Derived.WalkKit
import Derived.WalkSpells
import Derived.WalkLawsBesides
import Derived.Handy
import Derived.Lib.Hide
import Derived.Deep.QuietTactic
import Derived.BigQuiet
import Derived.Test.YthdkgpmpopjnaaaHCondF
import Derived.Test.YthdkgpmpopjnaaaHRefC
import Derived.Test.YthdkgpmpopjnaaaWWords
set_option linter.unusedVariables false
set_option linter.unusedSimpArgs false
namespace Go.Proofs.Ythdkgpmpopjnaaa.H
open Go.RowKit Go.Proofs.YthdkgpmpopjnaaaW.PrintWords

def WK : Array Value := #[.string ⟨#[101, 113]⟩, .string ⟨#[110, 101]⟩, .string ⟨#[108, 116]⟩, .string ⟨#[108, 101]⟩, .string ⟨#[103, 116]⟩, .string ⟨#[103, 101]⟩]
theorem wk_at (k : Nat) (hk : k < 6) : WK[k]? = some (.string (wordK k)) := by
  rcases (by omega : k = 0 ∨ k = 1 ∨ k = 2 ∨ k = 3 ∨ k = 4 ∨ k = 5) with rfl | rfl | rfl | rfl | rfl | rfl <;> rfl
def DG : Array Value := #[.string ⟨#[48]⟩, .string ⟨#[49]⟩, .string ⟨#[50]⟩, .string ⟨#[51]⟩, .string ⟨#[52]⟩, .string ⟨#[53]⟩]
theorem dg_at (k : Nat) (hk : k < 6) : DG[k]? = some (.string (digB k)) := by
  rcases (by omega : k = 0 ∨ k = 1 ∨ k = 2 ∨ k = 3 ∨ k = 4 ∨ k = 5) with rfl | rfl | rfl | rfl | rfl | rfl <;> rfl
def WordsGive : Prop := ∀ w, Calls Try.prog 44 #[] w fun e w' => ∃ g, e = .returned (.slice (some ⟨g, 0, none⟩) 6 6) ∧ w'.heap[g]? = some (.cells WK 9 (0, 0)) ∧ Below w.heap.size w w'
set_option maxHeartbeats 1000000 in
theorem Words_walk : WordsGive := by
  intro w
  have hg := heap_alloc_new w (.cells #[.string ⟨#[101, 113]⟩, .string ⟨#[110, 101]⟩, .string ⟨#[108, 116]⟩, .string ⟨#[108, 101]⟩, .string ⟨#[103, 116]⟩, .string ⟨#[103, 101]⟩] 9)
  have HG := Lib.hid hg
  have HB := Lib.hid ((Below.refl w.heap.size w).alloc (Nat.le_refl _) (.cells #[.string ⟨#[101, 113]⟩, .string ⟨#[110, 101]⟩, .string ⟨#[108, 116]⟩, .string ⟨#[108, 101]⟩, .string ⟨#[103, 116]⟩, .string ⟨#[103, 101]⟩] 9))
  clear hg
  go_enter Try.func44, Try.ntmps44
  go_wp2
  go_ret
  exact ⟨_, rfl, HG.out, HB.out⟩
set_option maxHeartbeats 4000000 in
theorem RefPrint_yes (j k : Nat) (hj : (j : Int) < 6) (hk : (k : Int) < 6) (m v : Int) (ch tm tv s : ByteArray) (TM : Gives Try.prog 45 #[.int .u64 m] (.string tm)) (TV : Gives Try.prog 45 #[.int .u64 v] (.string tv)) (hch : DG[j]? = some (.string ch)) (hs : WK[k]? = some (.string s)) (b1 b2 b3 b4 b5 b6 b7 : ByteArray) (e1 : Cat ⟨#[97]⟩ ch b1) (e2 : Cat b1 ⟨#[32]⟩ b2) (e3 : Cat b2 tm b3) (e4 : Cat b3 ⟨#[32]⟩ b4) (e5 : Cat b4 s b5) (e6 : Cat b5 ⟨#[32]⟩ b6) (e7 : Cat b6 tv b7) (w : World) :
    Calls Try.prog 22 #[.agg #[.int .i64 (j : Int), .int .i64 (k : Int), .int .u64 m, .int .u64 v]] w fun e w' => e = .returned (.string b7) ∧ Below w.heap.size w w' := by
  replace TM := Lib.hid TM
  replace TV := Lib.hid TV
  replace hch := Lib.hid hch
  replace hs := Lib.hid hs
  replace e1 := Lib.hid e1
  replace e2 := Lib.hid e2
  replace e3 := Lib.hid e3
  replace e4 := Lib.hid e4
  replace e5 := Lib.hid e5
  replace e6 := Lib.hid e6
  replace e7 := Lib.hid e7
  have WS := Lib.hid Words_walk
  have q1 := Lib.hid (heap_alloc_new w (Obj.cells #[.int .i64 (j : Int), .int .i64 (k : Int), .int .u64 m, .int .u64 v] 24))
  have q4 := Lib.hid ((Below.refl w.heap.size w).alloc (Nat.le_refl _) (Obj.cells #[.int .i64 (j : Int), .int .i64 (k : Int), .int .u64 m, .int .u64 v] 24))
  go_enter Try.func22, Try.ntmps22
  go_wp2_with fail
  obtain ⟨W1, hW1⟩ : ∃ W1, w.alloc (Obj.cells #[.int .i64 (j : Int), .int .i64 (k : Int), .int .u64 m, .int .u64 v] 24) = W1 := ⟨_, rfl⟩
  rw [hW1] at q1 q4
  try rw [hW1]
  clear hW1
  refine wp_region_held_drew (S := (fun w' => (w'.heap[w.heap.size]? = some (.cells #[.int .i64 (j : Int), .int .i64 (k : Int), .int .u64 m, .int .u64 v] 24 (0, 0))) ∧ (Below w.heap.size w w'))) (by kernel_rfl) ⟨q1.out, q4.out.drew⟩ (fun hNew => ?_)
  have hHeld := Lib.hid hNew
  clear hNew
  refine wpAnyH_takeL 1 (v := ?_) rfl (by kernel_rfl) (by kernel_rfl) (by kernel_rfl) (fun _ _ _ h => h) hHeld.out (yieldsIf_of rfl ?_) ?_
  rotate_left
  · (intro w hSw; go_simp <;> with_reducible rfl)
  try simp only [Act.put, List.setIfInBounds_toArray, List.set_cons_zero, List.set_cons_succ]
  refine wpAnyH_takeL 2 rfl (by kernel_rfl) (by kernel_rfl) (by kernel_rfl) (fun _ _ _ h => h) hHeld.out (yieldsIf_cell rfl 3 (.tmp 4) rfl _ rfl (.int .i64 (j : Int)) _ (fun _ h => blk_cell h.1 0) Try.underlying3 rfl) ?_
  try simp only [Act.put, List.setIfInBounds_toArray, List.set_cons_zero, List.set_cons_succ]
  refine wpAnyH_takeL 7 (v := ?_) rfl (by kernel_rfl) (by kernel_rfl) (by kernel_rfl) (fun _ _ _ h => h) hHeld.out (yieldsIf_of rfl ?_) ?_
  rotate_left
  · (intro w hSw; go_simp <;> with_reducible rfl)
  try simp only [Act.put, List.setIfInBounds_toArray, List.set_cons_zero, List.set_cons_succ]
  refine wpAnyH_takeL 8 rfl (by kernel_rfl) (by kernel_rfl) (by kernel_rfl) (fun _ _ _ h => h) hHeld.out (yieldsIf_cell rfl 22 (.tmp 10) rfl _ rfl (.int .u64 m) _ (fun _ h => blk_cell h.1 2) Try.underlying22 rfl) ?_
  try simp only [Act.put, List.setIfInBounds_toArray, List.set_cons_zero, List.set_cons_succ]
  refine wpAnyH_takeL 13 (v := ?_) rfl (by kernel_rfl) (by kernel_rfl) (by kernel_rfl) (fun _ _ _ h => h) hHeld.out (yieldsIf_of rfl ?_) ?_
  rotate_left
  · (intro w hSw; go_simp <;> with_reducible rfl)
  try simp only [Act.put, List.setIfInBounds_toArray, List.set_cons_zero, List.set_cons_succ]
  refine wpAnyH_takeL 14 rfl (by kernel_rfl) (by kernel_rfl) (by kernel_rfl) (fun _ _ _ h => h) hHeld.out (yieldsIf_cell rfl 3 (.tmp 16) rfl _ rfl (.int .i64 (k : Int)) _ (fun _ h => blk_cell h.1 1) Try.underlying3 rfl) ?_
  try simp only [Act.put, List.setIfInBounds_toArray, List.set_cons_zero, List.set_cons_succ]
  refine wpAnyH_takeL 19 (v := ?_) rfl (by kernel_rfl) (by kernel_rfl) (by kernel_rfl) (fun _ _ _ h => h) hHeld.out (yieldsIf_of rfl ?_) ?_
  rotate_left
  · (intro w hSw; go_simp <;> with_reducible rfl)
  try simp only [Act.put, List.setIfInBounds_toArray, List.set_cons_zero, List.set_cons_succ]
  refine wpAnyH_takeL 20 rfl (by kernel_rfl) (by kernel_rfl) (by kernel_rfl) (fun _ _ _ h => h) hHeld.out (yieldsIf_cell rfl 22 (.tmp 22) rfl _ rfl (.int .u64 v) _ (fun _ h => blk_cell h.1 3) Try.underlying22 rfl) ?_
  try simp only [Act.put, List.setIfInBounds_toArray, List.set_cons_zero, List.set_cons_succ]
  refine wpAnyH_ready (rs := [0, 9]) (by kernel_rfl) (by simp) (AllReadyH.cons rfl (fun K hK => ?_) (AllReadyH.cons rfl (fun K hK => ?_) (AllReadyH.nil)))
  · go_simp
    refine hK.out _ _ ⟨blk_alloc (hHeld.out.1) _, (hHeld.out.2).alloc (hHeld.out.2).size _⟩ (fun hNew => ?_)
    have hNew := And.intro (heap_alloc_new W1.drew (.cells DG 9)) hNew
    refine wpAnyH_stronger (fun w' => (w'.heap[W1.heap.size]? = some (.cells DG 9 (0, 0))) ∧ (w'.heap[w.heap.size]? = some (.cells #[.int .i64 (j : Int), .int .i64 (k : Int), .int .u64 m, .int .u64 v] 24 (0, 0))) ∧ (Below w.heap.size w w')) (fun _ h => h.2) ?_
    clear hK K hHeld
    have hHeld := Lib.hid hNew
    clear hNew
    try simp only [Act.put, List.setIfInBounds_toArray, List.set_cons_zero, List.set_cons_succ]
    refine wpAnyH_takeL 3 (v := ?_) rfl (by kernel_rfl) (by kernel_rfl) (by kernel_rfl) (fun _ _ _ h => h) hHeld.out (yieldsIf_of rfl ?_) ?_
    rotate_left
    · (intro w hSw; go_simp <;> with_reducible rfl)
    try simp only [Act.put, List.setIfInBounds_toArray, List.set_cons_zero, List.set_cons_succ]
    refine wpAnyH_takeL 4 rfl (by kernel_rfl) (by kernel_rfl) (by kernel_rfl) (fun _ _ _ h => h) hHeld.out (yieldsIf_cell rfl 9 (.tmp 6) rfl _ rfl (.string ch) _ (fun _ h => (blk_cell h.1 j).trans hch.out) Try.underlying9 rfl) ?_
    try simp only [Act.put, List.setIfInBounds_toArray, List.set_cons_zero, List.set_cons_succ]
    refine wpAnyH_takeL 5 rfl (by kernel_rfl) (by kernel_rfl) (by kernel_rfl) (fun _ _ _ h => h) hHeld.out (yieldsIf_catR e1.out rfl (.const (.string ⟨#[97]⟩)) (.tmp 7) _ rfl rfl rfl) ?_
    try simp only [Act.put, List.setIfInBounds_toArray, List.set_cons_zero, List.set_cons_succ]
    refine wpAnyH_takeL 6 rfl (by kernel_rfl) (by kernel_rfl) (by kernel_rfl) (fun _ _ _ h => h) hHeld.out (yieldsIf_catR e2.out rfl (.tmp 8) (.const (.string ⟨#[32]⟩)) _ rfl rfl rfl) ?_
    try simp only [Act.put, List.setIfInBounds_toArray, List.set_cons_zero, List.set_cons_succ]
    refine wpAnyH_one 9 _ (by kernel_rfl) rfl (fun _ h => h) (fun K hK => ?_)
    go_simp
    refine (TM.out _).mono ?_
    rintro _ v9 ⟨rfl, hb⟩
    refine hK.out _ _ ⟨blk_below (hHeld.out.1) hb, blk_below (hHeld.out.2.1) hb, below_more (hHeld.out.2.2) (Nat.le_refl _) hb⟩ (fun hNew => ?_)
    clear hK K hHeld hb
    have hHeld := Lib.hid hNew
    clear hNew
    try simp only [Act.put, List.setIfInBounds_toArray, List.set_cons_zero, List.set_cons_succ]
    refine wpAnyH_takeL 10 rfl (by kernel_rfl) (by kernel_rfl) (by kernel_rfl) (fun _ _ _ h => h) hHeld.out (yieldsIf_catR e3.out rfl (.tmp 9) (.tmp 12) _ rfl rfl rfl) ?_
    try simp only [Act.put, List.setIfInBounds_toArray, List.set_cons_zero, List.set_cons_succ]
    refine wpAnyH_takeL 11 rfl (by kernel_rfl) (by kernel_rfl) (by kernel_rfl) (fun _ _ _ h => h) hHeld.out (yieldsIf_catR e4.out rfl (.tmp 13) (.const (.string ⟨#[32]⟩)) _ rfl rfl rfl) ?_
    try simp only [Act.put, List.setIfInBounds_toArray, List.set_cons_zero, List.set_cons_succ]
    refine wpAnyH_one 12 _ (by kernel_rfl) rfl (fun _ h => h) (fun K hK => ?_)
    go_simp
    refine (WS.out _).mono ?_
    rintro _ v12 ⟨g10, rfl, hg11, hb⟩
    refine hK.out _ _ ⟨blk_below (hHeld.out.1) hb, blk_below (hHeld.out.2.1) hb, below_more (hHeld.out.2.2) (Nat.le_refl _) hb⟩ (fun hNew => ?_)
    replace hNew : (v12.heap[g10]? = some (.cells WK 9 (0, 0))) ∧ (v12.heap[W1.heap.size]? = some (.cells DG 9 (0, 0))) ∧ (v12.heap[w.heap.size]? = some (.cells #[.int .i64 (j : Int), .int .i64 (k : Int), .int .u64 m, .int .u64 v] 24 (0, 0))) ∧ (Below w.heap.size w v12) := ⟨hg11, hNew⟩
    refine wpAnyH_stronger (fun w' => (w'.heap[g10]? = some (.cells WK 9 (0, 0))) ∧ (w'.heap[W1.heap.size]? = some (.cells DG 9 (0, 0))) ∧ (w'.heap[w.heap.size]? = some (.cells #[.int .i64 (j : Int), .int .i64 (k : Int), .int .u64 m, .int .u64 v] 24 (0, 0))) ∧ (Below w.heap.size w w')) (fun _ h => h.2) ?_
    clear hK K hHeld hb
    have hHeld := Lib.hid hNew
    clear hNew
    try simp only [Act.put, List.setIfInBounds_toArray, List.set_cons_zero, List.set_cons_succ]
    refine wpAnyH_takeL 15 (v := ?_) rfl (by kernel_rfl) (by kernel_rfl) (by kernel_rfl) (fun _ _ _ h => h) hHeld.out (yieldsIf_of rfl ?_) ?_
    rotate_left
    · (intro w hSw; go_simp <;> with_reducible rfl)
    try simp only [Act.put, List.setIfInBounds_toArray, List.set_cons_zero, List.set_cons_succ]
    refine wpAnyH_takeL 16 rfl (by kernel_rfl) (by kernel_rfl) (by kernel_rfl) (fun _ _ _ h => h) hHeld.out (yieldsIf_cell rfl 9 (.tmp 18) rfl _ rfl (.string s) _ (fun _ h => (blk_cell h.1 k).trans hs.out) Try.underlying9 rfl) ?_
    try simp only [Act.put, List.setIfInBounds_toArray, List.set_cons_zero, List.set_cons_succ]
    refine wpAnyH_takeL 17 rfl (by kernel_rfl) (by kernel_rfl) (by kernel_rfl) (fun _ _ _ h => h) hHeld.out (yieldsIf_catR e5.out rfl (.tmp 14) (.tmp 19) _ rfl rfl rfl) ?_
    try simp only [Act.put, List.setIfInBounds_toArray, List.set_cons_zero, List.set_cons_succ]
    refine wpAnyH_takeL 18 rfl (by kernel_rfl) (by kernel_rfl) (by kernel_rfl) (fun _ _ _ h => h) hHeld.out (yieldsIf_catR e6.out rfl (.tmp 20) (.const (.string ⟨#[32]⟩)) _ rfl rfl rfl) ?_
    try simp only [Act.put, List.setIfInBounds_toArray, List.set_cons_zero, List.set_cons_succ]
    refine wpAnyH_one 21 _ (by kernel_rfl) rfl (fun _ h => h) (fun K hK => ?_)
    go_simp
    refine (TV.out _).mono ?_
    rintro _ v13 ⟨rfl, hb⟩
    refine hK.out _ _ ⟨blk_below (hHeld.out.1) hb, blk_below (hHeld.out.2.1) hb, blk_below (hHeld.out.2.2.1) hb, below_more (hHeld.out.2.2.2) (Nat.le_refl _) hb⟩ (fun hNew => ?_)
    clear hK K hHeld hb
    have hHeld := Lib.hid hNew
    clear hNew
    try simp only [Act.put, List.setIfInBounds_toArray, List.set_cons_zero, List.set_cons_succ]
    refine wpAnyH_takeL 22 rfl (by kernel_rfl) (by kernel_rfl) (by kernel_rfl) (fun _ _ _ h => h) hHeld.out (yieldsIf_catR e7.out rfl (.tmp 21) (.tmp 24) _ rfl rfl rfl) ?_
    try simp only [Act.put, List.setIfInBounds_toArray, List.set_cons_zero, List.set_cons_succ]
    refine wpAnyH_takeL 23 (v := ?_) rfl (by kernel_rfl) (by kernel_rfl) (by kernel_rfl) (fun _ _ _ h => h) hHeld.out (yieldsIf_of rfl ?_) ?_
    rotate_left
    · (intro w hSw; go_simp <;> with_reducible rfl)
    try simp only [Act.put, List.setIfInBounds_toArray, List.set_cons_zero, List.set_cons_succ]
    refine wpAnyH_done (by kernel_rfl) ?_ _
    have HFI := Lib.hid (hHeld.out.2.2.2)
    clear hHeld
    go_wp2_with fail
    go_ret
    exact ⟨rfl, HFI.out⟩
  · go_simp
    refine (TM.out _).mono ?_
    rintro _ v14 ⟨rfl, hb⟩
    refine hK.out _ _ ⟨blk_below (hHeld.out.1) hb, below_more (hHeld.out.2) (Nat.le_refl _) hb⟩ (fun hNew => ?_)
    clear hK K hHeld hb
    have hHeld := Lib.hid hNew
    clear hNew
    try simp only [Act.put, List.setIfInBounds_toArray, List.set_cons_zero, List.set_cons_succ]
    refine wpAnyH_ready (rs := [0, 12]) (by kernel_rfl) (by simp) (AllReadyH.cons rfl (fun K hK => ?_) (AllReadyH.cons rfl (fun K hK => ?_) (AllReadyH.nil)))
    · go_simp
      refine hK.out _ _ ⟨blk_alloc (hHeld.out.1) _, (hHeld.out.2).alloc (hHeld.out.2).size _⟩ (fun hNew => ?_)
      have hNew := And.intro (heap_alloc_new v14 (.cells DG 9)) hNew
      refine wpAnyH_stronger (fun w' => (w'.heap[v14.heap.size]? = some (.cells DG 9 (0, 0))) ∧ (w'.heap[w.heap.size]? = some (.cells #[.int .i64 (j : Int), .int .i64 (k : Int), .int .u64 m, .int .u64 v] 24 (0, 0))) ∧ (Below w.heap.size w w')) (fun _ h => h.2) ?_
      clear hK K hHeld
      have hHeld := Lib.hid hNew
      clear hNew
      try simp only [Act.put, List.setIfInBounds_toArray, List.set_cons_zero, List.set_cons_succ]
      refine wpAnyH_takeL 3 (v := ?_) rfl (by kernel_rfl) (by kernel_rfl) (by kernel_rfl) (fun _ _ _ h => h) hHeld.out (yieldsIf_of rfl ?_) ?_
      rotate_left
      · (intro w hSw; go_simp <;> with_reducible rfl)
      try simp only [Act.put, List.setIfInBounds_toArray, List.set_cons_zero, List.set_cons_succ]
      refine wpAnyH_takeL 4 rfl (by kernel_rfl) (by kernel_rfl) (by kernel_rfl) (fun _ _ _ h => h) hHeld.out (yieldsIf_cell rfl 9 (.tmp 6) rfl _ rfl (.string ch) _ (fun _ h => (blk_cell h.1 j).trans hch.out) Try.underlying9 rfl) ?_
      try simp only [Act.put, List.setIfInBounds_toArray, List.set_cons_zero, List.set_cons_succ]
      refine wpAnyH_takeL 5 rfl (by kernel_rfl) (by kernel_rfl) (by kernel_rfl) (fun _ _ _ h => h) hHeld.out (yieldsIf_catR e1.out rfl (.const (.string ⟨#[97]⟩)) (.tmp 7) _ rfl rfl rfl) ?_
      try simp only [Act.put, List.setIfInBounds_toArray, List.set_cons_zero, List.set_cons_succ]
      refine wpAnyH_takeL 6 rfl (by kernel_rfl) (by kernel_rfl) (by kernel_rfl) (fun _ _ _ h => h) hHeld.out (yieldsIf_catR e2.out rfl (.tmp 8) (.const (.string ⟨#[32]⟩)) _ rfl rfl rfl) ?_
      try simp only [Act.put, List.setIfInBounds_toArray, List.set_cons_zero, List.set_cons_succ]
      refine wpAnyH_takeL 10 rfl (by kernel_rfl) (by kernel_rfl) (by kernel_rfl) (fun _ _ _ h => h) hHeld.out (yieldsIf_catR e3.out rfl (.tmp 9) (.tmp 12) _ rfl rfl rfl) ?_
      try simp only [Act.put, List.setIfInBounds_toArray, List.set_cons_zero, List.set_cons_succ]
      refine wpAnyH_takeL 11 rfl (by kernel_rfl) (by kernel_rfl) (by kernel_rfl) (fun _ _ _ h => h) hHeld.out (yieldsIf_catR e4.out rfl (.tmp 13) (.const (.string ⟨#[32]⟩)) _ rfl rfl rfl) ?_
      try simp only [Act.put, List.setIfInBounds_toArray, List.set_cons_zero, List.set_cons_succ]
      refine wpAnyH_one 12 _ (by kernel_rfl) rfl (fun _ h => h) (fun K hK => ?_)
      go_simp
      refine (WS.out _).mono ?_
      rintro _ v17 ⟨g15, rfl, hg16, hb⟩
      refine hK.out _ _ ⟨blk_below (hHeld.out.1) hb, blk_below (hHeld.out.2.1) hb, below_more (hHeld.out.2.2) (Nat.le_refl _) hb⟩ (fun hNew => ?_)
      replace hNew : (v17.heap[g15]? = some (.cells WK 9 (0, 0))) ∧ (v17.heap[v14.heap.size]? = some (.cells DG 9 (0, 0))) ∧ (v17.heap[w.heap.size]? = some (.cells #[.int .i64 (j : Int), .int .i64 (k : Int), .int .u64 m, .int .u64 v] 24 (0, 0))) ∧ (Below w.heap.size w v17) := ⟨hg16, hNew⟩
      refine wpAnyH_stronger (fun w' => (w'.heap[g15]? = some (.cells WK 9 (0, 0))) ∧ (w'.heap[v14.heap.size]? = some (.cells DG 9 (0, 0))) ∧ (w'.heap[w.heap.size]? = some (.cells #[.int .i64 (j : Int), .int .i64 (k : Int), .int .u64 m, .int .u64 v] 24 (0, 0))) ∧ (Below w.heap.size w w')) (fun _ h => h.2) ?_
      clear hK K hHeld hb
      have hHeld := Lib.hid hNew
      clear hNew
      try simp only [Act.put, List.setIfInBounds_toArray, List.set_cons_zero, List.set_cons_succ]
      refine wpAnyH_takeL 15 (v := ?_) rfl (by kernel_rfl) (by kernel_rfl) (by kernel_rfl) (fun _ _ _ h => h) hHeld.out (yieldsIf_of rfl ?_) ?_
      rotate_left
      · (intro w hSw; go_simp <;> with_reducible rfl)
      try simp only [Act.put, List.setIfInBounds_toArray, List.set_cons_zero, List.set_cons_succ]
      refine wpAnyH_takeL 16 rfl (by kernel_rfl) (by kernel_rfl) (by kernel_rfl) (fun _ _ _ h => h) hHeld.out (yieldsIf_cell rfl 9 (.tmp 18) rfl _ rfl (.string s) _ (fun _ h => (blk_cell h.1 k).trans hs.out) Try.underlying9 rfl) ?_
      try simp only [Act.put, List.setIfInBounds_toArray, List.set_cons_zero, List.set_cons_succ]
      refine wpAnyH_takeL 17 rfl (by kernel_rfl) (by kernel_rfl) (by kernel_rfl) (fun _ _ _ h => h) hHeld.out (yieldsIf_catR e5.out rfl (.tmp 14) (.tmp 19) _ rfl rfl rfl) ?_
      try simp only [Act.put, List.setIfInBounds_toArray, List.set_cons_zero, List.set_cons_succ]
      refine wpAnyH_takeL 18 rfl (by kernel_rfl) (by kernel_rfl) (by kernel_rfl) (fun _ _ _ h => h) hHeld.out (yieldsIf_catR e6.out rfl (.tmp 20) (.const (.string ⟨#[32]⟩)) _ rfl rfl rfl) ?_
      try simp only [Act.put, List.setIfInBounds_toArray, List.set_cons_zero, List.set_cons_succ]
      refine wpAnyH_one 21 _ (by kernel_rfl) rfl (fun _ h => h) (fun K hK => ?_)
      go_simp
      refine (TV.out _).mono ?_
      rintro _ v18 ⟨rfl, hb⟩
      refine hK.out _ _ ⟨blk_below (hHeld.out.1) hb, blk_below (hHeld.out.2.1) hb, blk_below (hHeld.out.2.2.1) hb, below_more (hHeld.out.2.2.2) (Nat.le_refl _) hb⟩ (fun hNew => ?_)
      clear hK K hHeld hb
      have hHeld := Lib.hid hNew
      clear hNew
      try simp only [Act.put, List.setIfInBounds_toArray, List.set_cons_zero, List.set_cons_succ]
      refine wpAnyH_takeL 22 rfl (by kernel_rfl) (by kernel_rfl) (by kernel_rfl) (fun _ _ _ h => h) hHeld.out (yieldsIf_catR e7.out rfl (.tmp 21) (.tmp 24) _ rfl rfl rfl) ?_
      try simp only [Act.put, List.setIfInBounds_toArray, List.set_cons_zero, List.set_cons_succ]
      refine wpAnyH_takeL 23 (v := ?_) rfl (by kernel_rfl) (by kernel_rfl) (by kernel_rfl) (fun _ _ _ h => h) hHeld.out (yieldsIf_of rfl ?_) ?_
      rotate_left
      · (intro w hSw; go_simp <;> with_reducible rfl)
      try simp only [Act.put, List.setIfInBounds_toArray, List.set_cons_zero, List.set_cons_succ]
      refine wpAnyH_done (by kernel_rfl) ?_ _
      have HFI := Lib.hid (hHeld.out.2.2.2)
      clear hHeld
      go_wp2_with fail
      go_ret
      exact ⟨rfl, HFI.out⟩
    · go_simp
      refine (WS.out _).mono ?_
      rintro _ v21 ⟨g19, rfl, hg20, hb⟩
      refine hK.out _ _ ⟨blk_below (hHeld.out.1) hb, below_more (hHeld.out.2) (Nat.le_refl _) hb⟩ (fun hNew => ?_)
      replace hNew : (v21.heap[g19]? = some (.cells WK 9 (0, 0))) ∧ (v21.heap[w.heap.size]? = some (.cells #[.int .i64 (j : Int), .int .i64 (k : Int), .int .u64 m, .int .u64 v] 24 (0, 0))) ∧ (Below w.heap.size w v21) := ⟨hg20, hNew⟩
      refine wpAnyH_stronger (fun w' => (w'.heap[g19]? = some (.cells WK 9 (0, 0))) ∧ (w'.heap[w.heap.size]? = some (.cells #[.int .i64 (j : Int), .int .i64 (k : Int), .int .u64 m, .int .u64 v] 24 (0, 0))) ∧ (Below w.heap.size w w')) (fun _ h => h.2) ?_
      clear hK K hHeld hb
      have hHeld := Lib.hid hNew
      clear hNew
      try simp only [Act.put, List.setIfInBounds_toArray, List.set_cons_zero, List.set_cons_succ]
      refine wpAnyH_takeL 15 (v := ?_) rfl (by kernel_rfl) (by kernel_rfl) (by kernel_rfl) (fun _ _ _ h => h) hHeld.out (yieldsIf_of rfl ?_) ?_
      rotate_left
      · (intro w hSw; go_simp <;> with_reducible rfl)
      try simp only [Act.put, List.setIfInBounds_toArray, List.set_cons_zero, List.set_cons_succ]
      refine wpAnyH_takeL 16 rfl (by kernel_rfl) (by kernel_rfl) (by kernel_rfl) (fun _ _ _ h => h) hHeld.out (yieldsIf_cell rfl 9 (.tmp 18) rfl _ rfl (.string s) _ (fun _ h => (blk_cell h.1 k).trans hs.out) Try.underlying9 rfl) ?_
      try simp only [Act.put, List.setIfInBounds_toArray, List.set_cons_zero, List.set_cons_succ]
      refine wpAnyH_ready (rs := [0, 21]) (by kernel_rfl) (by simp) (AllReadyH.cons rfl (fun K hK => ?_) (AllReadyH.cons rfl (fun K hK => ?_) (AllReadyH.nil)))
      · go_simp
        refine hK.out _ _ ⟨blk_alloc (hHeld.out.1) _, blk_alloc (hHeld.out.2.1) _, (hHeld.out.2.2).alloc (hHeld.out.2.2).size _⟩ (fun hNew => ?_)
        have hNew := And.intro (heap_alloc_new v21 (.cells DG 9)) hNew
        refine wpAnyH_stronger (fun w' => (w'.heap[v21.heap.size]? = some (.cells DG 9 (0, 0))) ∧ (w'.heap[g19]? = some (.cells WK 9 (0, 0))) ∧ (w'.heap[w.heap.size]? = some (.cells #[.int .i64 (j : Int), .int .i64 (k : Int), .int .u64 m, .int .u64 v] 24 (0, 0))) ∧ (Below w.heap.size w w')) (fun _ h => h.2) ?_
        clear hK K hHeld
        have hHeld := Lib.hid hNew
        clear hNew
        try simp only [Act.put, List.setIfInBounds_toArray, List.set_cons_zero, List.set_cons_succ]
        refine wpAnyH_takeL 3 (v := ?_) rfl (by kernel_rfl) (by kernel_rfl) (by kernel_rfl) (fun _ _ _ h => h) hHeld.out (yieldsIf_of rfl ?_) ?_
        rotate_left
        · (intro w hSw; go_simp <;> with_reducible rfl)
        try simp only [Act.put, List.setIfInBounds_toArray, List.set_cons_zero, List.set_cons_succ]
        refine wpAnyH_takeL 4 rfl (by kernel_rfl) (by kernel_rfl) (by kernel_rfl) (fun _ _ _ h => h) hHeld.out (yieldsIf_cell rfl 9 (.tmp 6) rfl _ rfl (.string ch) _ (fun _ h => (blk_cell h.1 j).trans hch.out) Try.underlying9 rfl) ?_
        try simp only [Act.put, List.setIfInBounds_toArray, List.set_cons_zero, List.set_cons_succ]
        refine wpAnyH_takeL 5 rfl (by kernel_rfl) (by kernel_rfl) (by kernel_rfl) (fun _ _ _ h => h) hHeld.out (yieldsIf_catR e1.out rfl (.const (.string ⟨#[97]⟩)) (.tmp 7) _ rfl rfl rfl) ?_
        try simp only [Act.put, List.setIfInBounds_toArray, List.set_cons_zero, List.set_cons_succ]
        refine wpAnyH_takeL 6 rfl (by kernel_rfl) (by kernel_rfl) (by kernel_rfl) (fun _ _ _ h => h) hHeld.out (yieldsIf_catR e2.out rfl (.tmp 8) (.const (.string ⟨#[32]⟩)) _ rfl rfl rfl) ?_
        try simp only [Act.put, List.setIfInBounds_toArray, List.set_cons_zero, List.set_cons_succ]
        refine wpAnyH_takeL 10 rfl (by kernel_rfl) (by kernel_rfl) (by kernel_rfl) (fun _ _ _ h => h) hHeld.out (yieldsIf_catR e3.out rfl (.tmp 9) (.tmp 12) _ rfl rfl rfl) ?_
        try simp only [Act.put, List.setIfInBounds_toArray, List.set_cons_zero, List.set_cons_succ]
        refine wpAnyH_takeL 11 rfl (by kernel_rfl) (by kernel_rfl) (by kernel_rfl) (fun _ _ _ h => h) hHeld.out (yieldsIf_catR e4.out rfl (.tmp 13) (.const (.string ⟨#[32]⟩)) _ rfl rfl rfl) ?_
        try simp only [Act.put, List.setIfInBounds_toArray, List.set_cons_zero, List.set_cons_succ]
        refine wpAnyH_takeL 17 rfl (by kernel_rfl) (by kernel_rfl) (by kernel_rfl) (fun _ _ _ h => h) hHeld.out (yieldsIf_catR e5.out rfl (.tmp 14) (.tmp 19) _ rfl rfl rfl) ?_
        try simp only [Act.put, List.setIfInBounds_toArray, List.set_cons_zero, List.set_cons_succ]
        refine wpAnyH_takeL 18 rfl (by kernel_rfl) (by kernel_rfl) (by kernel_rfl) (fun _ _ _ h => h) hHeld.out (yieldsIf_catR e6.out rfl (.tmp 20) (.const (.string ⟨#[32]⟩)) _ rfl rfl rfl) ?_
        try simp only [Act.put, List.setIfInBounds_toArray, List.set_cons_zero, List.set_cons_succ]
        refine wpAnyH_one 21 _ (by kernel_rfl) rfl (fun _ h => h) (fun K hK => ?_)
        go_simp
        refine (TV.out _).mono ?_
        rintro _ v22 ⟨rfl, hb⟩
        refine hK.out _ _ ⟨blk_below (hHeld.out.1) hb, blk_below (hHeld.out.2.1) hb, blk_below (hHeld.out.2.2.1) hb, below_more (hHeld.out.2.2.2) (Nat.le_refl _) hb⟩ (fun hNew => ?_)
        clear hK K hHeld hb
        have hHeld := Lib.hid hNew
        clear hNew
        try simp only [Act.put, List.setIfInBounds_toArray, List.set_cons_zero, List.set_cons_succ]
        refine wpAnyH_takeL 22 rfl (by kernel_rfl) (by kernel_rfl) (by kernel_rfl) (fun _ _ _ h => h) hHeld.out (yieldsIf_catR e7.out rfl (.tmp 21) (.tmp 24) _ rfl rfl rfl) ?_
        try simp only [Act.put, List.setIfInBounds_toArray, List.set_cons_zero, List.set_cons_succ]
        refine wpAnyH_takeL 23 (v := ?_) rfl (by kernel_rfl) (by kernel_rfl) (by kernel_rfl) (fun _ _ _ h => h) hHeld.out (yieldsIf_of rfl ?_) ?_
        rotate_left
        · (intro w hSw; go_simp <;> with_reducible rfl)
        try simp only [Act.put, List.setIfInBounds_toArray, List.set_cons_zero, List.set_cons_succ]
        refine wpAnyH_done (by kernel_rfl) ?_ _
        have HFI := Lib.hid (hHeld.out.2.2.2)
        clear hHeld
        go_wp2_with fail
        go_ret
        exact ⟨rfl, HFI.out⟩
      · go_simp
        refine (TV.out _).mono ?_
        rintro _ v23 ⟨rfl, hb⟩
        refine hK.out _ _ ⟨blk_below (hHeld.out.1) hb, blk_below (hHeld.out.2.1) hb, below_more (hHeld.out.2.2) (Nat.le_refl _) hb⟩ (fun hNew => ?_)
        clear hK K hHeld hb
        have hHeld := Lib.hid hNew
        clear hNew
        try simp only [Act.put, List.setIfInBounds_toArray, List.set_cons_zero, List.set_cons_succ]
        refine wpAnyH_one 0 _ (by kernel_rfl) rfl (fun _ h => h) (fun K hK => ?_)
        go_simp
        refine hK.out _ _ ⟨blk_alloc (hHeld.out.1) _, blk_alloc (hHeld.out.2.1) _, (hHeld.out.2.2).alloc (hHeld.out.2.2).size _⟩ (fun hNew => ?_)
        have hNew := And.intro (heap_alloc_new v23 (.cells DG 9)) hNew
        refine wpAnyH_stronger (fun w' => (w'.heap[v23.heap.size]? = some (.cells DG 9 (0, 0))) ∧ (w'.heap[g19]? = some (.cells WK 9 (0, 0))) ∧ (w'.heap[w.heap.size]? = some (.cells #[.int .i64 (j : Int), .int .i64 (k : Int), .int .u64 m, .int .u64 v] 24 (0, 0))) ∧ (Below w.heap.size w w')) (fun _ h => h.2) ?_
        clear hK K hHeld
        have hHeld := Lib.hid hNew
        clear hNew
        try simp only [Act.put, List.setIfInBounds_toArray, List.set_cons_zero, List.set_cons_succ]
        refine wpAnyH_takeL 3 (v := ?_) rfl (by kernel_rfl) (by kernel_rfl) (by kernel_rfl) (fun _ _ _ h => h) hHeld.out (yieldsIf_of rfl ?_) ?_
        rotate_left
        · (intro w hSw; go_simp <;> with_reducible rfl)
        try simp only [Act.put, List.setIfInBounds_toArray, List.set_cons_zero, List.set_cons_succ]
        refine wpAnyH_takeL 4 rfl (by kernel_rfl) (by kernel_rfl) (by kernel_rfl) (fun _ _ _ h => h) hHeld.out (yieldsIf_cell rfl 9 (.tmp 6) rfl _ rfl (.string ch) _ (fun _ h => (blk_cell h.1 j).trans hch.out) Try.underlying9 rfl) ?_
        try simp only [Act.put, List.setIfInBounds_toArray, List.set_cons_zero, List.set_cons_succ]
        refine wpAnyH_takeL 5 rfl (by kernel_rfl) (by kernel_rfl) (by kernel_rfl) (fun _ _ _ h => h) hHeld.out (yieldsIf_catR e1.out rfl (.const (.string ⟨#[97]⟩)) (.tmp 7) _ rfl rfl rfl) ?_
        try simp only [Act.put, List.setIfInBounds_toArray, List.set_cons_zero, List.set_cons_succ]
        refine wpAnyH_takeL 6 rfl (by kernel_rfl) (by kernel_rfl) (by kernel_rfl) (fun _ _ _ h => h) hHeld.out (yieldsIf_catR e2.out rfl (.tmp 8) (.const (.string ⟨#[32]⟩)) _ rfl rfl rfl) ?_
        try simp only [Act.put, List.setIfInBounds_toArray, List.set_cons_zero, List.set_cons_succ]
        refine wpAnyH_takeL 10 rfl (by kernel_rfl) (by kernel_rfl) (by kernel_rfl) (fun _ _ _ h => h) hHeld.out (yieldsIf_catR e3.out rfl (.tmp 9) (.tmp 12) _ rfl rfl rfl) ?_
        try simp only [Act.put, List.setIfInBounds_toArray, List.set_cons_zero, List.set_cons_succ]
        refine wpAnyH_takeL 11 rfl (by kernel_rfl) (by kernel_rfl) (by kernel_rfl) (fun _ _ _ h => h) hHeld.out (yieldsIf_catR e4.out rfl (.tmp 13) (.const (.string ⟨#[32]⟩)) _ rfl rfl rfl) ?_
        try simp only [Act.put, List.setIfInBounds_toArray, List.set_cons_zero, List.set_cons_succ]
        refine wpAnyH_takeL 17 rfl (by kernel_rfl) (by kernel_rfl) (by kernel_rfl) (fun _ _ _ h => h) hHeld.out (yieldsIf_catR e5.out rfl (.tmp 14) (.tmp 19) _ rfl rfl rfl) ?_
        try simp only [Act.put, List.setIfInBounds_toArray, List.set_cons_zero, List.set_cons_succ]
        refine wpAnyH_takeL 18 rfl (by kernel_rfl) (by kernel_rfl) (by kernel_rfl) (fun _ _ _ h => h) hHeld.out (yieldsIf_catR e6.out rfl (.tmp 20) (.const (.string ⟨#[32]⟩)) _ rfl rfl rfl) ?_
        try simp only [Act.put, List.setIfInBounds_toArray, List.set_cons_zero, List.set_cons_succ]
        refine wpAnyH_takeL 22 rfl (by kernel_rfl) (by kernel_rfl) (by kernel_rfl) (fun _ _ _ h => h) hHeld.out (yieldsIf_catR e7.out rfl (.tmp 21) (.tmp 24) _ rfl rfl rfl) ?_
        try simp only [Act.put, List.setIfInBounds_toArray, List.set_cons_zero, List.set_cons_succ]
        refine wpAnyH_takeL 23 (v := ?_) rfl (by kernel_rfl) (by kernel_rfl) (by kernel_rfl) (fun _ _ _ h => h) hHeld.out (yieldsIf_of rfl ?_) ?_
        rotate_left
        · (intro w hSw; go_simp <;> with_reducible rfl)
        try simp only [Act.put, List.setIfInBounds_toArray, List.set_cons_zero, List.set_cons_succ]
        refine wpAnyH_done (by kernel_rfl) ?_ _
        have HFI := Lib.hid (hHeld.out.2.2.2)
        clear hHeld
        go_wp2_with fail
        go_ret
        exact ⟨rfl, HFI.out⟩
end Go.Proofs.Ythdkgpmpopjnaaa.H
