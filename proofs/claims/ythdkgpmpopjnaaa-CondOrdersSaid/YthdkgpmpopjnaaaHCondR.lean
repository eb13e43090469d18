/-
Package cond: Parse.
-/
import Derived.Test.YthdkgpmpopjnaaaProg
import Derived.WalkKit
import Derived.WalkSpells
import Derived.WalkLawsBesides
import Derived.Handy
import Derived.Lib.Hide
import Derived.Test.YthdkgpmpopjnaaaHCondP
import Derived.Test.YthdkgpmpopjnaaaHCondN
import Derived.Test.YthdkgpmpopjnaaaHParse
import Derived.Test.YthdkgpmpopjnaaaWWords
set_option linter.unusedVariables false
set_option linter.unusedSimpArgs false
namespace Go.Proofs.Ythdkgpmpopjnaaa.H
open Go.RowKit Go.Proofs.YthdkgpmpopjnaaaW.PrintWords

def argOf (l : List UInt8) : Option Nat := match l with
  | [a, d] => if a.toNat = 97 ∧ 48 ≤ d.toNat ∧ d.toNat ≤ 53 then some (d.toNat - 48) else none
  | _ => none
def wordIdx (l : List UInt8) : Option Nat := (List.range 6).find? (fun k => (wordK k).data.toList == l)
def condOf (a m c v : List UInt8) : Option (Nat × Nat × Nat × Nat) := match argOf a, parseL m, parseL v, wordIdx c with
  | some d, some x, some y, some k => some (d, k, x, y)
  | _, _, _, _ => none
def condParse (l : List UInt8) : Option (Nat × Nat × Nat × Nat) := condOf (cutL l).1 (cutL (cutL l).2).1 (cutL (cutL (cutL l).2).2).1 (cutL (cutL (cutL l).2).2).2
def condR : Option (Nat × Nat × Nat × Nat) → Value
  | some (a, k, m, v) => .tuple #[CV a k m v, .int .i64 0]
  | none => .tuple #[CV 0 0 0 0, .int .i64 2]

theorem cutL_len (l : List UInt8) : (cutL l).1.length ≤ l.length ∧ (cutL l).2.length ≤ l.length := by
  induction l with
  | nil => simp [cutL]
  | cons c l ih =>
    unfold cutL
    split
    · simp
    · simp; omega
theorem ofBytes_size (l : List UInt8) : (ofBytes l).size = l.length := by simp [ofBytes, ByteArray.size]
theorem ofBytes_list (l : List UInt8) : (ofBytes l).data.toList = l := by simp [ofBytes]
theorem find6_first (p : Nat → Bool) (k : Nat) (hk : k < 6) (h1 : ∀ j, j < k → p j = false) (h2 : p k = true) : (List.range 6).find? p = some k := by
  rw [List.find?_range_eq_some]
  exact ⟨h2, by simpa using hk, fun j hj => by rw [h1 j hj]; rfl⟩
theorem find6_none (p : Nat → Bool) (h1 : ∀ j, j < 6 → p j = false) : (List.range 6).find? p = none := by
  rw [List.find?_range_eq_none]
  intro i hi
  rw [h1 i hi]; rfl

theorem arg_bad {l : List UInt8} (h : l.length ≠ 2) : argOf l = none := by
  match l, h with
  | [], _ => rfl
  | [_], _ => rfl
  | [_, _], h => exact absurd rfl h
  | _ :: _ :: _ :: _, _ => rfl

set_option maxHeartbeats 4000000 in
theorem Parse_rest (A M C V : List UInt8) (hlen : A.length ≤ 140737488351232 ∧ M.length ≤ 140737488351232 ∧ C.length ≤ 140737488351232 ∧ V.length ≤ 140737488351232) (s r1 r2 : ByteArray) 
    (c1 : Gives Try.prog 40 #[.string s] (.tuple #[.string (ofBytes A), .string r1])) (c2 : Gives Try.prog 40 #[.string r1] (.tuple #[.string (ofBytes M), .string r2])) (c3 : Gives Try.prog 40 #[.string r2] (.tuple #[.string (ofBytes C), .string (ofBytes V)])) (w : World) :
    Calls Try.prog 20 #[.string s] w fun e w' => e = .returned (condR (condOf A M C V)) ∧ Below w.heap.size w w' := by
  obtain ⟨r, hr⟩ : ∃ r, condOf A M C V = r := ⟨_, rfl⟩
  rw [hr]
  have HR := Lib.hid hr
  have C1 := Lib.hid c1
  have C2 := Lib.hid c2
  have C3 := Lib.hid c3
  have HL := Lib.hid hlen
  have PM := Lib.hid (parse_walk (ofBytes M))
  have PV := Lib.hid (parse_walk (ofBytes V))
  rw [ofBytes_list] at PM PV
  have HAS := Lib.hid (ofBytes_size A)
  have Q0 := Lib.hid (heap_alloc_new w (Obj.cells #[Value.int .i64 0, Value.int .i64 0, Value.int .u64 0, Value.int .u64 0] 24))
  have Q4 := Lib.hid ((Below.refl w.heap.size w).alloc (Nat.le_refl _) (Obj.cells #[Value.int .i64 0, Value.int .i64 0, Value.int .u64 0, Value.int .u64 0] 24))
  clear hr c1 c2 c3 hlen
  go_enter Try.func20, Try.ntmps20
  go_wp2_with fail
  refine (C1.out _).mono ?_
  rintro e w1 ⟨rfl, hb⟩
  have G1 := Lib.hid (blk_below Q0.out hb)
  have B1 := Lib.hid (below_more Q4.out (Nat.le_refl _) hb)
  clear hb
  go_wp2_with fail
  refine (C2.out _).mono ?_
  rintro e w2 ⟨rfl, hb⟩
  have G2 := Lib.hid (blk_below G1.out hb)
  have B2 := Lib.hid (below_more B1.out (Nat.le_refl _) hb)
  clear hb G1 B1
  go_wp2_with fail
  refine (C3.out _).mono ?_
  rintro e w3 ⟨rfl, hb⟩
  have G3 := Lib.hid (blk_below G2.out hb)
  have B3 := Lib.hid (below_more B2.out (Nat.le_refl _) hb)
  clear hb G2 B2
  by_cases hA : A.length = 2
  · obtain ⟨a, d, rfl⟩ : ∃ a d, A = [a, d] := by
      match A, hA with
      | [a, d], _ => exact ⟨a, d, rfl⟩
    have hi0 : ∀ w, (Instr.index 9 (.string (ofBytes [a, d])) (.int .i64 0)).run Try.prog w = .ok (.int .u8 (a.toNat : Int)) w := fun w => by
      unfold ofBytes
      go_simp
      rfl
    have hi1 : ∀ w, (Instr.index 9 (.string (ofBytes [a, d])) (.int .i64 1)).run Try.prog w = .ok (.int .u8 (d.toNat : Int)) w := fun w => by
      unfold ofBytes
      go_simp
      rfl
    have hsz : (ofBytes [a, d]).size = 2 := rfl
    have hn0 : ¬ (a.toNat = 97 ∧ 48 ≤ d.toNat ∧ d.toNat ≤ 53) → r = none := fun h => by
      rw [← HR.out]; unfold condOf argOf; simp only []; rw [if_neg h]
    have hn1 : (a.toNat = 97 ∧ 48 ≤ d.toNat ∧ d.toNat ≤ 53) → condOf [a, d] M C V = (match parseL M, parseL V, wordIdx C with | some x, some y, some k => some (d.toNat - 48, k, x, y) | _, _, _ => none) := fun h => by
      unfold condOf argOf; simp only []; rw [if_pos h]; cases parseL M <;> cases parseL V <;> cases wordIdx C <;> rfl
    have HN0 := Lib.hid hn0
    have HN1 := Lib.hid hn1
    generalize ofBytes [a, d] = P at *
    clear hA hn0 hn1
    generalize a.toNat = ca at *
    generalize hcd : d.toNat = cd at *
    have hcd256 : cd < 256 := by rw [← hcd]; exact d.toNat_lt
    clear hcd
    by_cases k0 : ca = 97
    · by_cases k1 : 48 ≤ cd
      · by_cases k2 : cd ≤ 53
        · subst k0
          have hcond := HN1.out ⟨rfl, k1, k2⟩
          have HCO := Lib.hid (hcond.symm.trans HR.out)
          clear hcond HN0 HN1 HR
          obtain ⟨x, ex, hx, hxx⟩ : ∃ (x : Nat) (ex : Int), pRes (parseL M) = .tuple #[.int .u64 (x : Int), .int .i64 ex] ∧ ((ex = 0 ∧ parseL M = some x) ∨ (ex = 2 ∧ parseL M = none)) := by
            cases h : parseL M with
            | none => exact ⟨0, 2, rfl, .inr ⟨rfl, rfl⟩⟩
            | some n => exact ⟨n, 0, rfl, .inl ⟨rfl, rfl⟩⟩
          obtain ⟨y, ey, hy, hyy⟩ : ∃ (y : Nat) (ey : Int), pRes (parseL V) = .tuple #[.int .u64 (y : Int), .int .i64 ey] ∧ ((ey = 0 ∧ parseL V = some y) ∨ (ey = 2 ∧ parseL V = none)) := by
            cases h : parseL V with
            | none => exact ⟨0, 2, rfl, .inr ⟨rfl, rfl⟩⟩
            | some n => exact ⟨n, 0, rfl, .inl ⟨rfl, rfl⟩⟩
          unfold ParseEnd at PM PV
          rw [hx] at PM
          rw [hy] at PV
          have HXX := Lib.hid hxx
          have HYY := Lib.hid hyy
          clear hx hy hxx hyy
          go_wp2_with fail
          refine (PM.out _).mono ?_
          rintro e w4 ⟨rfl, hb⟩
          have G4 := Lib.hid (blk_below G3.out hb)
          have B4 := Lib.hid (below_more B3.out (Nat.le_refl _) hb)
          clear hb G3 B3
          go_wp2_with fail
          refine (PV.out _).mono ?_
          rintro e w5 ⟨rfl, hb⟩
          have G5 := Lib.hid (blk_below G4.out hb)
          have B5 := Lib.hid (below_more B4.out (Nat.le_refl _) hb)
          clear hb G4 B4
          go_wp2_with fail
          refine (kinds_walk _).mono ?_
          rintro e w6 ⟨rfl, hb⟩
          have G6 := Lib.hid (blk_below G5.out hb)
          have B6 := Lib.hid (below_more B5.out (Nat.le_refl _) hb)
          clear hb G5 B5
          have KIX := Lib.hid kinds_index
          obtain ⟨KV, hKV⟩ : ∃ KV, kindsA = KV := ⟨_, rfl⟩
          rw [hKV] at KIX ⊢
          clear hKV
          go_wp2_with fail
          go_loopw [60] (fun i wr => ∃ k : Nat, k ≤ 6 ∧ i = .int .i64 (k : Int) ∧ (∀ j, j < k → ((wordK j).data.toList == C && (ex == 0 && ey == 0)) = false) ∧ Below w6.heap.size w6 wr) (fun i _ => 6 - (intOf i).toNat)
          case atStart => exact ⟨0, by omega, rfl, fun j hj => by omega, Below.refl _ _⟩
          case round =>
            obtain ⟨k, hk, rfl, hall, hbb⟩ := hrel
            have HALL := Lib.hid hall
            have HBB := Lib.hid hbb
            have GR := Lib.hid (blk_below G6.out hbb)
            have BR := Lib.hid (below_more B6.out (Nat.le_refl _) hbb)
            clear hall hbb
            by_cases hlt : k < 6
            · have hix := KIX.out k hlt
              unfold kindA at hix
              have hsl : ((wordK k).toList == (ofBytes C).toList) = ((wordK k).data.toList == C) := by
                rw [ByteArray.toList_eq, ByteArray.toList_eq, ofBytes_list]
              have HSTEP := Lib.hid (fun (h : ((wordK k).data.toList == C && (ex == 0 && ey == 0)) = false) j (hj : j < k + 1) => (if e : j = k then e ▸ h else HALL.out j (by omega) : ((wordK j).data.toList == C && (ex == 0 && ey == 0)) = false))
              have HHIT := Lib.hid (fun (h : ((wordK k).data.toList == C) = true) (h1 : ex = 0) (h2 : ey = 0) => (find6_first (fun k => (wordK k).data.toList == C) k hlt (fun j hj => by have := HALL.out j hj; rw [h1, h2] at this; simpa using this) h))
              generalize ((wordK k).data.toList == C) = hit at *
              generalize wordK k = wd at *
              generalize fnK k = fk at *
              generalize notK k = nk at *
              obtain ⟨W3, hW3, r3, b3⟩ := letvar wr #[Value.string ⟨#[]⟩, Value.nilFunc, Value.int .i64 0] #[Value.string wd, Value.func (Fn.func fk) #[] #[], Value.int .i64 (nk : Int)] 58
              have c0 : W3.cell? ⟨wr.heap.size, 0, none⟩ = some (.string wd) := blk_cell r3 0
              have HW3 := Lib.hid hW3
              have GA := Lib.hid (blk_below GR.out b3)
              have BA := Lib.hid (below_more HBB.out (Nat.le_refl _) b3)
              have BW := Lib.hid (below_more BR.out (Nat.le_refl _) b3)
              have HKI := Lib.hid (show (Try.prog.info? 58).map (·.size) = some (#[Value.string wd, Value.func (Fn.func fk) #[] #[], Value.int .i64 (nk : Int)] : Array Value).size by rw [show (#[Value.string wd, Value.func (Fn.func fk) #[] #[], Value.int .i64 (nk : Int)] : Array Value).size = 3 from rfl]; kernel_rfl)
              have HKO := Lib.hid (show ∀ v ∈ (#[Value.string wd, Value.func (Fn.func fk) #[] #[], Value.int .i64 (nk : Int)] : Array Value).toList, v.oneCell' = true by intro v hv; simp at hv; rcases hv with rfl | rfl | rfl <;> rfl)
              clear hW3 r3 b3
              cases hit with
              | false =>
                go_wp2_with (refine wpList_store_row rfl 58 (.tmp 14) (.tmp 63) rfl rfl wr.heap.size rfl #[Value.string wd, Value.func (Fn.func fk) #[] #[], Value.int .i64 (nk : Int)] rfl _ _ (heap_alloc_new _ _) rfl HKI.out HKO.out ?_; rw [HW3.out])
                go_roundw
                case measure => simp [intOf]; omega
                case rel => exact ⟨k + 1, by omega, by go_num, HSTEP.out rfl, BA.out⟩
              | true =>
                by_cases hex : ex = 0
                · subst hex
                  by_cases hey : ey = 0
                  · subst hey
                    have hwi := HHIT.out rfl rfl rfl
                    have hres : r = some (cd - 48, k, x, y) := by
                      rw [← HCO.out]
                      rcases HXX.out with ⟨_, h2⟩ | ⟨h1, _⟩
                      · rcases HYY.out with ⟨_, h4⟩ | ⟨h3, _⟩
                        · rw [h2, h4, show wordIdx C = some k from hwi]
                        · omega
                      · omega
                    subst hres
                    clear hwi HCO
                    have hs8 : IntKind.u8.wrap ((cd : Int) - 48) = ((cd - 48 : Nat) : Int) := by
                      show ((cd : Int) - 48) % 256 = _
                      omega
                    obtain ⟨d0, d1, d2, d3⟩ := cells4 GA.out
                    have f0 := blk_frozen GA.out 0
                    have f1 := blk_frozen GA.out 1
                    have f2 := blk_frozen GA.out 2
                    have f3 := blk_frozen GA.out 3
                    go_wp2_with (refine wpList_store_row rfl 58 (.tmp 14) (.tmp 63) rfl rfl wr.heap.size rfl #[Value.string wd, Value.func (Fn.func fk) #[] #[], Value.int .i64 (nk : Int)] rfl _ _ (heap_alloc_new _ _) rfl HKI.out HKO.out ?_; rw [HW3.out])
                    have hfin := blk_set (blk_set (blk_set (blk_set GA.out 0 (.int .i64 ((cd - 48 : Nat) : Int))) 1 (.int .i64 (k : Int))) 2 (.int .u64 (x : Int))) 3 (.int .u64 (y : Int))
                    refine bodyPost_ret (results_ct rfl _ _ w.heap.size _ _ _ _ rfl hfin Try.underlying24 rfl (info_cond _ _ _ _)) rfl ?_
                    exact ⟨rfl, ⟨BW.out.os, BW.out.tape, BW.out.output, by simpa [World.setCell] using BW.out.size, fun q hq => by rw [heap_setCell_other _ _ _ _ (by simp; omega), heap_setCell_other _ _ _ _ (by simp; omega), heap_setCell_other _ _ _ _ (by simp; omega), heap_setCell_other _ _ _ _ (by simp; omega)]; exact BW.out.block q hq⟩⟩
                  · have hey2 : (ey == 0) = false := by simpa using hey
                    go_wp2_with (refine wpList_store_row rfl 58 (.tmp 14) (.tmp 63) rfl rfl wr.heap.size rfl #[Value.string wd, Value.func (Fn.func fk) #[] #[], Value.int .i64 (nk : Int)] rfl _ _ (heap_alloc_new _ _) rfl HKI.out HKO.out ?_; rw [HW3.out])
                    go_roundw
                    case measure => simp [intOf]; omega
                    case rel => exact ⟨k + 1, by omega, by go_num, HSTEP.out (by rw [hey2]; rfl), BA.out⟩
                · have hex2 : (ex == 0) = false := by simpa using hex
                  go_wp2_with (refine wpList_store_row rfl 58 (.tmp 14) (.tmp 63) rfl rfl wr.heap.size rfl #[Value.string wd, Value.func (Fn.func fk) #[] #[], Value.int .i64 (nk : Int)] rfl _ _ (heap_alloc_new _ _) rfl HKI.out HKO.out ?_; rw [HW3.out])
                  go_roundw
                  case measure => simp [intOf]; omega
                  case rel => exact ⟨k + 1, by omega, by go_num, HSTEP.out (by rw [hex2]; rfl), BA.out⟩
            · obtain rfl : k = 6 := by omega
              have e : r = none := by
                rw [← HCO.out]
                rcases HXX.out with ⟨h1, h2⟩ | ⟨_, h2⟩
                · rcases HYY.out with ⟨h3, h4⟩ | ⟨_, h4⟩
                  · have : wordIdx C = none := find6_none _ (fun j hj => by have := HALL.out j hj; rw [h1, h3] at this; simpa using this)
                    rw [this]; cases parseL M <;> cases parseL V <;> rfl
                  · rw [h4]; cases parseL M <;> rfl
                · rw [h2]
              subst e
              obtain ⟨d0, d1, d2, d3⟩ := cells4 GR.out
              have f0 := blk_frozen GR.out 0
              have f1 := blk_frozen GR.out 1
              have f2 := blk_frozen GR.out 2
              have f3 := blk_frozen GR.out 3
              go_wp2_with fail
              have hfin := blk_set (blk_set (blk_set (blk_set GR.out 0 (Value.int .i64 0)) 1 (Value.int .i64 0)) 2 (Value.int .u64 0)) 3 (Value.int .u64 0)
              refine bodyPost_ret (results_ct rfl _ _ w.heap.size _ _ _ _ rfl hfin Try.underlying24 rfl (info_cond _ _ _ _)) rfl ?_
              exact ⟨rfl, ⟨BR.out.os, BR.out.tape, BR.out.output, by simpa [World.setCell] using BR.out.size, fun q hq => by rw [heap_setCell_other _ _ _ _ (by simp; omega), heap_setCell_other _ _ _ _ (by simp; omega), heap_setCell_other _ _ _ _ (by simp; omega), heap_setCell_other _ _ _ _ (by simp; omega)]; exact BR.out.block q hq⟩⟩
        · have e := HN0.out (fun h => k2 h.2.2)
          subst e
          clear HN0 HN1
          obtain ⟨d0, d1, d2, d3⟩ := cells4 G3.out
          have f0 := blk_frozen G3.out 0
          have f1 := blk_frozen G3.out 1
          have f2 := blk_frozen G3.out 2
          have f3 := blk_frozen G3.out 3
          go_wp2_with fail
          have hfin := blk_set (blk_set (blk_set (blk_set G3.out 0 (Value.int .i64 0)) 1 (Value.int .i64 0)) 2 (Value.int .u64 0)) 3 (Value.int .u64 0)
          refine bodyPost_ret (results_ct rfl _ _ w.heap.size _ _ _ _ rfl hfin Try.underlying24 rfl (info_cond _ _ _ _)) rfl ?_
          exact ⟨rfl, ⟨B3.out.os, B3.out.tape, B3.out.output, by simpa [World.setCell] using B3.out.size, fun q hq => by rw [heap_setCell_other _ _ _ _ (by simp; omega), heap_setCell_other _ _ _ _ (by simp; omega), heap_setCell_other _ _ _ _ (by simp; omega), heap_setCell_other _ _ _ _ (by simp; omega)]; exact B3.out.block q hq⟩⟩
      · have e := HN0.out (fun h => k1 h.2.1)
        subst e
        clear HN0 HN1
        obtain ⟨d0, d1, d2, d3⟩ := cells4 G3.out
        have f0 := blk_frozen G3.out 0
        have f1 := blk_frozen G3.out 1
        have f2 := blk_frozen G3.out 2
        have f3 := blk_frozen G3.out 3
        go_wp2_with fail
        have hfin := blk_set (blk_set (blk_set (blk_set G3.out 0 (Value.int .i64 0)) 1 (Value.int .i64 0)) 2 (Value.int .u64 0)) 3 (Value.int .u64 0)
        refine bodyPost_ret (results_ct rfl _ _ w.heap.size _ _ _ _ rfl hfin Try.underlying24 rfl (info_cond _ _ _ _)) rfl ?_
        exact ⟨rfl, ⟨B3.out.os, B3.out.tape, B3.out.output, by simpa [World.setCell] using B3.out.size, fun q hq => by rw [heap_setCell_other _ _ _ _ (by simp; omega), heap_setCell_other _ _ _ _ (by simp; omega), heap_setCell_other _ _ _ _ (by simp; omega), heap_setCell_other _ _ _ _ (by simp; omega)]; exact B3.out.block q hq⟩⟩
    · have e := HN0.out (fun h => k0 h.1)
      subst e
      clear HN0 HN1
      obtain ⟨d0, d1, d2, d3⟩ := cells4 G3.out
      have f0 := blk_frozen G3.out 0
      have f1 := blk_frozen G3.out 1
      have f2 := blk_frozen G3.out 2
      have f3 := blk_frozen G3.out 3
      go_wp2_with fail
      have hfin := blk_set (blk_set (blk_set (blk_set G3.out 0 (Value.int .i64 0)) 1 (Value.int .i64 0)) 2 (Value.int .u64 0)) 3 (Value.int .u64 0)
      refine bodyPost_ret (results_ct rfl _ _ w.heap.size _ _ _ _ rfl hfin Try.underlying24 rfl (info_cond _ _ _ _)) rfl ?_
      exact ⟨rfl, ⟨B3.out.os, B3.out.tape, B3.out.output, by simpa [World.setCell] using B3.out.size, fun q hq => by rw [heap_setCell_other _ _ _ _ (by simp; omega), heap_setCell_other _ _ _ _ (by simp; omega), heap_setCell_other _ _ _ _ (by simp; omega), heap_setCell_other _ _ _ _ (by simp; omega)]; exact B3.out.block q hq⟩⟩
  · have e : r = none := by rw [← HR.out]; unfold condOf; rw [arg_bad hA]
    subst e
    have hsz : ((ofBytes A).size : Int) ≠ 2 := by rw [HAS.out]; omega
    have hsz2 : (((ofBytes A).size : Int) != 2) = true := by simpa using hsz
    clear hA hsz
    obtain ⟨d0, d1, d2, d3⟩ := cells4 G3.out
    have f0 := blk_frozen G3.out 0
    have f1 := blk_frozen G3.out 1
    have f2 := blk_frozen G3.out 2
    have f3 := blk_frozen G3.out 3
    go_wp2_with fail
    have hfin := blk_set (blk_set (blk_set (blk_set G3.out 0 (Value.int .i64 0)) 1 (Value.int .i64 0)) 2 (Value.int .u64 0)) 3 (Value.int .u64 0)
    refine bodyPost_ret (results_ct rfl _ _ w.heap.size _ _ _ _ rfl hfin Try.underlying24 rfl (info_cond _ _ _ _)) rfl ?_
    exact ⟨rfl, ⟨B3.out.os, B3.out.tape, B3.out.output, by simpa [World.setCell] using B3.out.size, fun q hq => by rw [heap_setCell_other _ _ _ _ (by simp; omega), heap_setCell_other _ _ _ _ (by simp; omega), heap_setCell_other _ _ _ _ (by simp; omega), heap_setCell_other _ _ _ _ (by simp; omega)]; exact B3.out.block q hq⟩⟩

theorem condParse_walk (s : ByteArray) (hsz : s.size ≤ 140737488351232) : Gives Try.prog 20 #[.string s] (condR (condParse s.data.toList)) := by
  have hl : s.data.toList.length = s.size := by simp
  have l1 := cutL_len s.data.toList
  have l2 := cutL_len (cutL s.data.toList).2
  have l3 := cutL_len (cutL (cutL s.data.toList).2).2
  have c1 := fun w => cut_walk s hsz w
  have c2 := fun w => cut_walk (ofBytes (cutL s.data.toList).2) (by rw [ofBytes_size]; omega) w
  have c3 := fun w => cut_walk (ofBytes (cutL (cutL s.data.toList).2).2) (by rw [ofBytes_size]; omega) w
  rw [ofBytes_list] at c2 c3
  exact fun w => Parse_rest _ _ _ _ ⟨by omega, by omega, by omega, by omega⟩ s _ _ c1 c2 c3 w
end Go.Proofs.Ythdkgpmpopjnaaa.H
