/-
Package affine: the other functions.
-/
import Derived.Test.YtocofkkkblelgaaProg
import Derived.WalkKit
import Derived.WalkSpells
import Derived.WalkLawsBesides
import Derived.Handy
import Derived.Lib.Hide
import Derived.Deep.QuietTactic
import Derived.BigQuiet
import Derived.StillTailTactics
import Derived.Test.YtocofkkkblelgaaHArr
import Derived.Test.YtocofkkkblelgaaHAff6
import Derived.Test.YtocofkkkblelgaaWEqStruct
import Derived.Test.YtocofkkkblelgaaWWords
set_option linter.unusedVariables false
set_option linter.unusedSimpArgs false
namespace Go.Proofs.Ytocofkkkblelgaa.H
open Go.RowKit Go.Proofs.YtocofkkkblelgaaW.PrintWords



attribute [local go_sem high] eqFormN

theorem wpList_load_row_g {P : Program} {ops : Array Oper} {rest : List Oper} {o : Oper} {a : Act} {w : World} {Q : Exit → Act → World → Prop} (hw : Region.wanted o (yielded ops a.tmps) = true) (ty : TypeId) (x : Operand) (ho : o.op = .load ty x)
    (g : Nat) (hx : a.eval x = .pointer (some ⟨g, 0, none⟩)) (t : TypeId) (cs : Array Value) (fr : Nat × Nat) (d : TypeDesc) (hg : w.heap[g]? = some (.cells cs t fr))
    (hu : P.underlying ty = some d) (hd : (match d with | .struct _ | .array _ _ => true | _ => false) = true) (hi : (P.info? ty).map (·.size) = some cs.size)
    (h : wpList P ops Q rest (a.put o.dst (.agg cs)) w) : wpList P ops Q (o :: rest) a w :=
  wpList_step fun K hK => by rw [if_pos hw]; exact wp_load_row ty x ho g hx t cs fr d hg hu hd hi (hK _ _ h)

def isVar (f0 : Int) (fs : List Int) (i : Nat) : Bool := (fs.getD i 0 == 1) && formEq 0 f0 (z34.set i 1) fs
def single (f0 : Int) (fs : List Int) : Int × Bool :=
  match (List.range 34).find? (isVar f0 fs) with
  | some i => ((i : Int), true)
  | none => (0, false)

set_option maxHeartbeats 2000000 in
theorem Single_walk (f0 : Int) (fs : List Int) (hf : fs.length = 34) (hfu : U32s fs) (w : World) :
    Calls Try.prog 21 #[FV f0 fs] w fun e w' => e = .returned (.tuple #[.int .i64 (single f0 fs).1, .bool (single f0 fs).2]) ∧ Below w.heap.size w w' := by
  unfold FV
  have HSZ := Lib.hid (size_form f0 fs hf)
  have HEX := Lib.hid (ext34 f0 fs hf)
  have HIX := Lib.hid (idx34 fs hf)
  have HIF := Lib.hid (info_form f0 fs hf)
  have HFU := Lib.hid hfu
  have HSL := Lib.hid (fun (k : Nat) => (by simp [z34_len] : (z34.set k 1).length = 34))
  have HFL := Lib.hid hf
  have Q0 := Lib.hid (heap_alloc_new w (Obj.cells (Value.int .u32 f0 :: nums .u32 fs).toArray 25))
  have Q3 := Lib.hid ((Below.refl w.heap.size w).alloc (Nat.le_refl _) (Obj.cells (Value.int .u32 f0 :: nums .u32 fs).toArray 25))
  have hap : ∀ r, single f0 fs = r → Calls Try.prog 21 #[.agg (Value.int .u32 f0 :: nums .u32 fs).toArray] w fun e w' => e = .returned (.tuple #[.int .i64 r.1, .bool r.2]) ∧ Below w.heap.size w w' := by
    intro r hr
    have HR := Lib.hid hr
    clear hr hf hfu
    go_enter Try.func21, Try.ntmps21
    go_wp2_with (refine wpList_load_sub rfl 23 (.tmp 8) rfl w.heap.size 1 34 rfl _ _ _ _ Q0.out Try.underlying23 rfl (by kernel_rfl) (by simp [HSZ.out]) ?_; rw [HEX.out])
    generalize hW : w.alloc (Obj.cells (Value.int .u32 f0 :: nums .u32 fs).toArray 25) = W0 at *
    clear hW
    go_loopw [10] (fun i wr => ∃ k : Nat, k ≤ 34 ∧ i = .int .i64 (k : Int) ∧ (∀ j, j < k → isVar f0 fs j = false) ∧ Below W0.heap.size W0 wr) (fun i _ => 34 - (intOf i).toNat)
    case atStart => exact ⟨0, by omega, rfl, fun j hj => by omega, Below.refl _ _⟩
    case round =>
      obtain ⟨k, hk, rfl, hall, hbe⟩ := hrel
      have HALL := Lib.hid hall
      have HB := Lib.hid hbe
      have G0 := Lib.hid (blk_below Q0.out hbe)
      clear hall hbe
      by_cases hlt : k < 34
      · have hix := HIX.out k hlt
        have HV := Lib.hid (Var_walk k hlt)
        have hl : (z34.set k 1).length = 34 := by simp [z34_len]
        have HI := Lib.hid (info_form 0 (z34.set k 1) hl)
        have HS := Lib.hid (size_form 0 (z34.set k 1) hl)
        have HO := Lib.hid (oneCell_nums .u32 (0 :: z34.set k 1))
        have hx := HFU.out k
        have hnext : isVar f0 fs k = false → ∀ j, j < k + 1 → isVar f0 fs j = false := by
          intro h j hj
          by_cases e : j = k
          · rw [e]; exact h
          · exact HALL.out j (by omega)
        have HNEXT := Lib.hid hnext
        have hfind : isVar f0 fs k = true → r = ((k : Int), true) := by
          intro h
          have h1 := find_first (isVar f0 fs) 34 k hlt HALL.out h
          have h2 := HR.out
          unfold single at h2
          rw [h1] at h2
          exact h2.symm
        have HFIND := Lib.hid hfind
        have hdef : isVar f0 fs k = ((fs.getD k 0 == 1) && formEq 0 f0 (z34.set k 1) fs) := rfl
        have HDEF := Lib.hid hdef
        clear hnext hfind hdef hl
        generalize isVar f0 fs k = isv at *
        generalize fs.getD k 0 = x at *
        have HX1 := Lib.hid (rfl : (x == 1) = (x == 1))
        cases hx1 : (x == 1) with
        | false =>
          have hisv : isv = false := by rw [HDEF.out, hx1]; rfl
          have HN := Lib.hid (HNEXT.out hisv)
          clear hisv HNEXT HFIND HDEF HX1
          go_wp2_with fail
          refine (HV.out _).mono ?_
          rintro e w1 ⟨rfl, hb⟩
          have HB1 := Lib.hid (HB.out.trans (hb.mono HB.out.size))
          clear hb
          unfold FV
          go_wp2_with (refine wpList_store_row rfl 25 (.tmp 6) (.tmp 17) rfl rfl w1.heap.size rfl (Value.int .u32 0 :: nums .u32 (z34.set k 1)).toArray rfl _ _ (heap_alloc_new _ _) HS.out.symm HI.out HO.out ?_)
          refine ⟨⟨k + 1, by omega, by go_num, HN.out, HB1.out.trans (((Below.refl _ _).alloc HB1.out.size _).trans ⟨rfl, rfl, rfl, by simp [World.setRow], fun q hq => heap_setRow_other _ _ _ _ (by have := HB1.out.size; omega)⟩)⟩, ?_⟩
          simp [intOf]; omega
        | true =>
          cases hx2 : formEq 0 f0 (z34.set k 1) fs with
          | false =>
            have hisv : isv = false := by rw [HDEF.out, hx1, hx2]; rfl
            have HN := Lib.hid (HNEXT.out hisv)
            clear hisv HNEXT HFIND HDEF HX1
            have HV1 := Lib.hid hx1
            go_wp2_with fail
            refine (HV.out _).mono ?_
            rintro e w1 ⟨rfl, hb⟩
            have HB1 := Lib.hid (HB.out.trans (hb.mono HB.out.size))
            have G1 := Lib.hid (blk_below G0.out hb)
            clear hb
            unfold FV
            obtain ⟨W3, hW3⟩ : ∃ W3, (w1.alloc (Obj.cells #[Value.int .u32 0, Value.int .u32 0, Value.int .u32 0, Value.int .u32 0, Value.int .u32 0, Value.int .u32 0, Value.int .u32 0, Value.int .u32 0, Value.int .u32 0, Value.int .u32 0, Value.int .u32 0, Value.int .u32 0, Value.int .u32 0, Value.int .u32 0, Value.int .u32 0, Value.int .u32 0, Value.int .u32 0, Value.int .u32 0, Value.int .u32 0, Value.int .u32 0, Value.int .u32 0, Value.int .u32 0, Value.int .u32 0, Value.int .u32 0, Value.int .u32 0, Value.int .u32 0, Value.int .u32 0, Value.int .u32 0, Value.int .u32 0, Value.int .u32 0, Value.int .u32 0, Value.int .u32 0, Value.int .u32 0, Value.int .u32 0, Value.int .u32 0] 25)).setRow w1.heap.size (Value.int .u32 0 :: nums .u32 (z34.set k 1)).toArray = W3 := ⟨_, rfl⟩
            have r3 := heap_setRow_same (w1.alloc (Obj.cells #[Value.int .u32 0, Value.int .u32 0, Value.int .u32 0, Value.int .u32 0, Value.int .u32 0, Value.int .u32 0, Value.int .u32 0, Value.int .u32 0, Value.int .u32 0, Value.int .u32 0, Value.int .u32 0, Value.int .u32 0, Value.int .u32 0, Value.int .u32 0, Value.int .u32 0, Value.int .u32 0, Value.int .u32 0, Value.int .u32 0, Value.int .u32 0, Value.int .u32 0, Value.int .u32 0, Value.int .u32 0, Value.int .u32 0, Value.int .u32 0, Value.int .u32 0, Value.int .u32 0, Value.int .u32 0, Value.int .u32 0, Value.int .u32 0, Value.int .u32 0, Value.int .u32 0, Value.int .u32 0, Value.int .u32 0, Value.int .u32 0, Value.int .u32 0] 25)) w1.heap.size (Value.int .u32 0 :: nums .u32 (z34.set k 1)).toArray _ _ _ (heap_alloc_new w1 (Obj.cells #[Value.int .u32 0, Value.int .u32 0, Value.int .u32 0, Value.int .u32 0, Value.int .u32 0, Value.int .u32 0, Value.int .u32 0, Value.int .u32 0, Value.int .u32 0, Value.int .u32 0, Value.int .u32 0, Value.int .u32 0, Value.int .u32 0, Value.int .u32 0, Value.int .u32 0, Value.int .u32 0, Value.int .u32 0, Value.int .u32 0, Value.int .u32 0, Value.int .u32 0, Value.int .u32 0, Value.int .u32 0, Value.int .u32 0, Value.int .u32 0, Value.int .u32 0, Value.int .u32 0, Value.int .u32 0, Value.int .u32 0, Value.int .u32 0, Value.int .u32 0, Value.int .u32 0, Value.int .u32 0, Value.int .u32 0, Value.int .u32 0, Value.int .u32 0] 25))
            rw [hW3] at r3
            have b3 : Below w1.heap.size w1 W3 := by rw [← hW3]; exact ((Below.refl _ _).alloc (Nat.le_refl _) _).trans ⟨rfl, rfl, rfl, by simp [World.setRow], fun k hk => heap_setRow_other _ _ _ _ (by omega)⟩
            have HW3 := Lib.hid hW3
            have R3 := Lib.hid r3
            have G3 := Lib.hid (blk_below G1.out b3)
            have HB3 := Lib.hid (HB1.out.trans (b3.mono HB1.out.size))
            have hsl := HSL.out k
            have hfl := HFL.out
            clear hW3 r3 b3
            go_wp2_with (first | (refine wpList_store_row rfl 25 (.tmp 6) (.tmp 17) rfl rfl w1.heap.size rfl (Value.int .u32 0 :: nums .u32 (z34.set k 1)).toArray rfl _ _ (heap_alloc_new _ _) HS.out.symm HI.out HO.out ?_; rw [HW3.out]) | (refine wpList_load_row_g rfl 25 (.tmp 6) rfl w1.heap.size rfl _ _ _ _ R3.out Try.underlying25 rfl HI.out ?_) | (refine wpList_load_row_g rfl 25 (.tmp 1) rfl w.heap.size rfl _ _ _ _ G3.out Try.underlying25 rfl HIF.out ?_))
            refine ⟨⟨k + 1, by omega, by go_num, HN.out, HB3.out⟩, ?_⟩
            simp [intOf]; omega
          | true =>
            have hisv : isv = true := by rw [HDEF.out, hx1, hx2]; rfl
            have hr := HFIND.out hisv
            subst hr
            clear hisv HNEXT HFIND HDEF HX1
            have HV1 := Lib.hid hx1
            go_wp2_with fail
            refine (HV.out _).mono ?_
            rintro e w1 ⟨rfl, hb⟩
            have HB1 := Lib.hid (HB.out.trans (hb.mono HB.out.size))
            have G1 := Lib.hid (blk_below G0.out hb)
            clear hb
            unfold FV
            obtain ⟨W3, hW3⟩ : ∃ W3, (w1.alloc (Obj.cells #[Value.int .u32 0, Value.int .u32 0, Value.int .u32 0, Value.int .u32 0, Value.int .u32 0, Value.int .u32 0, Value.int .u32 0, Value.int .u32 0, Value.int .u32 0, Value.int .u32 0, Value.int .u32 0, Value.int .u32 0, Value.int .u32 0, Value.int .u32 0, Value.int .u32 0, Value.int .u32 0, Value.int .u32 0, Value.int .u32 0, Value.int .u32 0, Value.int .u32 0, Value.int .u32 0, Value.int .u32 0, Value.int .u32 0, Value.int .u32 0, Value.int .u32 0, Value.int .u32 0, Value.int .u32 0, Value.int .u32 0, Value.int .u32 0, Value.int .u32 0, Value.int .u32 0, Value.int .u32 0, Value.int .u32 0, Value.int .u32 0, Value.int .u32 0] 25)).setRow w1.heap.size (Value.int .u32 0 :: nums .u32 (z34.set k 1)).toArray = W3 := ⟨_, rfl⟩
            have r3 := heap_setRow_same (w1.alloc (Obj.cells #[Value.int .u32 0, Value.int .u32 0, Value.int .u32 0, Value.int .u32 0, Value.int .u32 0, Value.int .u32 0, Value.int .u32 0, Value.int .u32 0, Value.int .u32 0, Value.int .u32 0, Value.int .u32 0, Value.int .u32 0, Value.int .u32 0, Value.int .u32 0, Value.int .u32 0, Value.int .u32 0, Value.int .u32 0, Value.int .u32 0, Value.int .u32 0, Value.int .u32 0, Value.int .u32 0, Value.int .u32 0, Value.int .u32 0, Value.int .u32 0, Value.int .u32 0, Value.int .u32 0, Value.int .u32 0, Value.int .u32 0, Value.int .u32 0, Value.int .u32 0, Value.int .u32 0, Value.int .u32 0, Value.int .u32 0, Value.int .u32 0, Value.int .u32 0] 25)) w1.heap.size (Value.int .u32 0 :: nums .u32 (z34.set k 1)).toArray _ _ _ (heap_alloc_new w1 (Obj.cells #[Value.int .u32 0, Value.int .u32 0, Value.int .u32 0, Value.int .u32 0, Value.int .u32 0, Value.int .u32 0, Value.int .u32 0, Value.int .u32 0, Value.int .u32 0, Value.int .u32 0, Value.int .u32 0, Value.int .u32 0, Value.int .u32 0, Value.int .u32 0, Value.int .u32 0, Value.int .u32 0, Value.int .u32 0, Value.int .u32 0, Value.int .u32 0, Value.int .u32 0, Value.int .u32 0, Value.int .u32 0, Value.int .u32 0, Value.int .u32 0, Value.int .u32 0, Value.int .u32 0, Value.int .u32 0, Value.int .u32 0, Value.int .u32 0, Value.int .u32 0, Value.int .u32 0, Value.int .u32 0, Value.int .u32 0, Value.int .u32 0, Value.int .u32 0] 25))
            rw [hW3] at r3
            have b3 : Below w1.heap.size w1 W3 := by rw [← hW3]; exact ((Below.refl _ _).alloc (Nat.le_refl _) _).trans ⟨rfl, rfl, rfl, by simp [World.setRow], fun k hk => heap_setRow_other _ _ _ _ (by omega)⟩
            have HW3 := Lib.hid hW3
            have R3 := Lib.hid r3
            have G3 := Lib.hid (blk_below G1.out b3)
            have HB3 := Lib.hid (HB1.out.trans (b3.mono HB1.out.size))
            have hsl := HSL.out k
            have hfl := HFL.out
            clear hW3 r3 b3
            go_wp2_with (first | (refine wpList_store_row rfl 25 (.tmp 6) (.tmp 17) rfl rfl w1.heap.size rfl (Value.int .u32 0 :: nums .u32 (z34.set k 1)).toArray rfl _ _ (heap_alloc_new _ _) HS.out.symm HI.out HO.out ?_; rw [HW3.out]) | (refine wpList_load_row_g rfl 25 (.tmp 6) rfl w1.heap.size rfl _ _ _ _ R3.out Try.underlying25 rfl HI.out ?_) | (refine wpList_load_row_g rfl 25 (.tmp 1) rfl w.heap.size rfl _ _ _ _ G3.out Try.underlying25 rfl HIF.out ?_))
            have HFIN := Lib.hid (Q3.out.trans (HB3.out.mono Q3.out.size))
            go_ret2
            exact ⟨rfl, HFIN.out⟩
      · obtain rfl : k = 34 := by omega
        have h1 := find_none (isVar f0 fs) 34 HALL.out
        have h2 := HR.out
        unfold single at h2
        rw [h1] at h2
        subst h2
        have HFIN := Lib.hid (Q3.out.trans (HB.out.mono Q3.out.size))
        clear h1
        go_wp2_with fail
        go_ret2
        exact ⟨rfl, HFIN.out⟩
  exact hap _ rfl
end Go.Proofs.Ytocofkkkblelgaa.H
