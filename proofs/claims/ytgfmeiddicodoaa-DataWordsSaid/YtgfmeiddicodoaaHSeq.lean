/-
Regions that draw their order, walked by hand: loads of rows, calls one at a time, the condition made stronger on the way. Over any program.
-/
import Derived.WalkKit
import Derived.OrdersHeld
import Derived.Deep.RegionHeld
import Derived.Test.YtgfmeiddicodoaaHArr
import Derived.Test.YtgfmeiddicodoaaWWords
import Derived.Test.YtgfmeiddicodoaaWLast
set_option linter.unusedVariables false
namespace Go.Proofs.Ytgfmeiddicodoaa.H
open Go.RowKit Go.Proofs.YtgfmeiddicodoaaW.PrintWords

section
variable {P : Program} {ops : Array Oper} {Q : Exit → Act → World → Prop} {md : Region.Mode} {S S' : World → Prop}

theorem wpAnyH_mono (h : ∀ w, S' w → S w) : ∀ (fuel : Nat) (listed : Array Bool) (a : Act) (w : World), wpAnyH P md ops Q S' fuel listed a w → wpAnyH P md ops Q S fuel listed a w
  | 0, _, _, _, k => k
  | fuel + 1, listed, a, w, k => ⟨k.1, fun i hi => wpOp_mono (fun a' w' h' => ⟨h _ h'.1, wpAnyH_mono h fuel _ a' w' h'.2⟩) (k.2 i hi)⟩

/-- The one operation that may come up; behind it the stronger condition S'. -/
theorem wpAnyH_one (i : Nat) {o : Oper} {fuel : Nat} {listed : Array Bool} {a : Act} {w : World} (S' : World → Prop) (hr : Region.ready md ops listed = [i]) (ho : ops.toList[i]? = some o) (hS : ∀ w, S' w → S w)
    (h : ∀ K' : Act → World → Prop, Shut (∀ a w, S' w → (S' w → wpAnyH P md ops Q S' fuel (listed.setIfInBounds i true) a w) → K' a w) → if Region.wanted o (yielded ops a.tmps) = true then Oper.wp P o a w K' Q else K' (a.put o.dst undef) w) :
    wpAnyH P md ops Q S (fuel + 1) listed a w := by
  refine wpAnyH_all hr (by simp) (fun j hj => ?_)
  obtain rfl : j = i := by simpa using hj
  exact wpOp_step (by simpa using ho) (fun K' hK => h K' (fun a w hs hW => hK a w ⟨hS _ hs, wpAnyH_mono hS _ _ _ _ (hW hs)⟩))

/-- Take number i first. -/
theorem wpAnyH_takeL (i : Nat) {oi : Oper} {v : Value} {fuel : Nat} {listed : Array Bool} {a : Act} {w : World} (hi : ops.toList[i]? = some oi)
    (hs : Region.noSelect ops = true) (hf : Region.free md ops listed i = true) (hr : (Region.ready md ops listed).contains i = true)
    (hQ : ∀ c a w, Q (.panic c) (a.put oi.dst v) w → Q (.panic c) a w) (hS : S w) (hy : YieldsIf P ops S oi v a)
    (h : wpAnyH P md ops Q S fuel (listed.setIfInBounds i true) (a.put oi.dst v) w) : wpAnyH P md ops Q S (fuel + 1) listed a w :=
  wpAnyH_take (by simpa using hi) hs hf hr hQ hy hS h

/-- A load of a whole row, taken first. -/
theorem yieldsIf_row {o : Oper} {a : Act} (hw : Region.wanted o (yielded ops a.tmps) = true) (ty : TypeId) (x : Operand) (ho : o.op = .load ty x) (g : Nat) (hx : a.eval x = .pointer (some ⟨g, 0, none⟩))
    (t : TypeId) (cs : Array Value) (fr : Nat × Nat) (d : TypeDesc) (hS : ∀ w, S w → w.heap[g]? = some (.cells cs t fr))
    (hu : P.underlying ty = some d) (hd : (match d with | .struct _ | .array _ _ => true | _ => false) = true) (hi : (P.info? ty).map (·.size) = some cs.size) : YieldsIf P ops S o (.agg cs) a :=
  .inl ⟨hw, fun w hw' => by
    unfold execOp
    simp only [ho, hx, Instr.loadAt, Instr.sureAddr, Sem.run_bind, Sem.run_pure, Result.andThen_ok, run_loadVar_row w g t ty cs fr d (hS w hw') hu hd hi]⟩

/-- An operation that is passed over. -/
theorem yieldsIf_not {o : Oper} {a : Act} (hw : Region.wanted o (yielded ops a.tmps) = false) : YieldsIf P ops S o undef a := .inr ⟨hw, rfl⟩
theorem yieldsIf_of {o : Oper} {a : Act} {v : Value} (hw : Region.wanted o (yielded ops a.tmps) = true) (h : ∀ w, S w → (execOp a.eval o).run P w = .ok (.value v) w) : YieldsIf P ops S o v a := .inl ⟨hw, h⟩
end
/-- A variable is made, and a whole row stored into it: the world behind, under one name. -/
theorem letvar (w1 : World) (Z R : Array Value) (t : TypeId) : ∃ W3, (w1.alloc (.cells Z t)).setRow w1.heap.size R = W3 ∧ W3.heap[w1.heap.size]? = some (.cells R t (0, 0)) ∧ Below w1.heap.size w1 W3 := by
  refine ⟨_, rfl, heap_setRow_same _ _ _ _ _ _ (heap_alloc_new w1 (.cells Z t)), ?_⟩
  exact ((Below.refl _ _).alloc (Nat.le_refl _) _).trans ⟨rfl, rfl, rfl, by simp [World.setRow], fun k hk => heap_setRow_other _ _ _ _ (by omega)⟩
theorem below_more {B : Nat} {w0 w1 w2 : World} (h : Below B w0 w1) (hB : B ≤ w0.heap.size) (k : Below w1.heap.size w1 w2) : Below B w0 w2 := h.trans (k.mono (Nat.le_trans hB h.size))
/-- The post of a cut: the region ends, and R holds. -/
def NormalIs (R : Act → World → Prop) : Exit → Act → World → Prop
  | .normal, a, w => R a w
  | _, _, _ => False
theorem wp_cut {P : Program} {c : Code} {Q : Exit → Act → World → Prop} {a : Act} {w : World} (R : Act → World → Prop) (h : c.wp P (NormalIs R) a w) (k : ∀ a w, R a w → Q .normal a w) : c.wp P Q a w :=
  Code.wp_mono (fun e a w h => by cases e <;> first | exact k _ _ h | exact (h : False).elim) h
theorem wpAnyH_stronger {P : Program} {md : Region.Mode} {ops : Array Oper} {Q : Exit → Act → World → Prop} {S : World → Prop} (S' : World → Prop) {fuel : Nat} {listed : Array Bool} {a : Act} {w : World} (h : ∀ w, S' w → S w)
    (k : wpAnyH P md ops Q S' fuel listed a w) : wpAnyH P md ops Q S fuel listed a w := wpAnyH_mono h _ _ _ _ k

/-- A store of a whole row, at one operation. -/
theorem wp_store_row {P : Program} {o : Oper} {a : Act} {w : World} {K : Act → World → Prop} {Q : Exit → Act → World → Prop} (ty : TypeId) (x y : Operand) (ho : o.op = .store ty x y) (hdst : o.dst = none)
    (g : Nat) (hx : a.eval x = .pointer (some ⟨g, 0, none⟩)) (cs : Array Value) (hy : a.eval y = .agg cs) (t : TypeId) (old : Array Value) (hg : w.heap[g]? = some (.cells old t (0, 0))) (hs : old.size = cs.size)
    (hi : (P.info? ty).map (·.size) = some cs.size) (h1 : ∀ v ∈ cs.toList, v.oneCell' = true) (h : K a (w.setRow g cs)) : o.wp P a w K Q := by
  unfold Oper.wp execOp
  simp only [ho, hx, hy, Instr.storeAt, Instr.sureAddr, Sem.run_bind, Sem.run_pure, Result.andThen_ok, run_storeVar_row w hg hs hi h1]
  have hp : a.put o.dst undef = a := by rw [hdst]; rfl
  simp only [Oper.upon, hp]
  exact h
theorem below_setRow {B g : Nat} {w0 w : World} {cs : Array Value} (h : Below B w0 w) (hg : B ≤ g) : Below B w0 (w.setRow g cs) :=
  h.trans ⟨rfl, rfl, rfl, by simp [World.setRow], fun k hk => heap_setRow_other _ _ _ _ (by omega)⟩
theorem row_setRow {g k : Nat} {w : World} {cs : Array Value} {o : Obj} (h : w.heap[k]? = some o) (hne : k ≠ g) : (w.setRow g cs).heap[k]? = some o := (heap_setRow_other w g k cs hne).trans h

/-- A function that leaves what was there, and answers v. -/
def Gives (P : Program) (n : Nat) (args : Array Value) (v : Value) : Prop := ∀ w, Calls P n args w fun e w' => e = .returned v ∧ Below w.heap.size w w'
/-- A block that is a row of n cells, whatever they hold. -/
def HasRow (W : World) (g : Nat) (t : TypeId) (n : Nat) : Prop := ∃ old : Array Value, W.heap[g]? = some (.cells old t (0, 0)) ∧ old.size = n
theorem HasRow.below {W W' : World} {g : Nat} {t : TypeId} {n : Nat} (h : HasRow W g t n) (hb : Below W.heap.size W W') : HasRow W' g t n := let ⟨o, h1, h2⟩ := h; ⟨o, blk_below h1 hb, h2⟩
theorem HasRow.alloc {W : World} {g : Nat} {t : TypeId} {n : Nat} (h : HasRow W g t n) (O : Obj) : HasRow (W.alloc O) g t n := let ⟨o, h1, h2⟩ := h; ⟨o, blk_alloc h1 _, h2⟩
theorem HasRow.drew {W : World} {g : Nat} {t : TypeId} {n : Nat} (h : HasRow W g t n) : HasRow W.drew g t n := h
theorem HasRow.same {W : World} {g : Nat} {t : TypeId} {n : Nat} {R : Array Value} (h : HasRow W g t n) (hR : R.size = n) : HasRow (W.setRow g R) g t n := let ⟨o, h1, _⟩ := h; ⟨R, heap_setRow_same _ _ _ _ _ _ h1, hR⟩
theorem HasRow.other {W : World} {g k : Nat} {t : TypeId} {n : Nat} {R : Array Value} (h : HasRow W k t n) (hne : k ≠ g) : HasRow (W.setRow g R) k t n := let ⟨o, h1, h2⟩ := h; ⟨o, row_setRow h1 hne, h2⟩
theorem HasRow.stored {W : World} {g : Nat} {t : TypeId} {n : Nat} (h : HasRow W g t n) (R : Array Value) : (W.setRow g R).heap[g]? = some (.cells R t (0, 0)) := let ⟨o, h1, _⟩ := h; heap_setRow_same _ _ _ _ _ _ h1
theorem HasRow.new (W : World) {t : TypeId} {n : Nat} {Z : Array Value} (hZ : Z.size = n) : HasRow (W.alloc (.cells Z t)) W.heap.size t n := ⟨Z, heap_alloc_new _ _, hZ⟩
theorem wp_store_has {P : Program} {o : Oper} {a : Act} {w : World} {K : Act → World → Prop} {Q : Exit → Act → World → Prop} (ty : TypeId) (x y : Operand) (ho : o.op = .store ty x y) (hdst : o.dst = none)
    {g n : Nat} {t : TypeId} (hg : HasRow w g t n) (hx : a.eval x = .pointer (some ⟨g, 0, none⟩)) (cs : Array Value) (hy : a.eval y = .agg cs) (hs : cs.size = n)
    (hi : (P.info? ty).map (·.size) = some cs.size) (h1 : ∀ v ∈ cs.toList, v.oneCell' = true) (h : K a (w.setRow g cs)) : o.wp P a w K Q :=
  let ⟨old, h2, h3⟩ := hg
  wp_store_row ty x y ho hdst g hx cs hy t old h2 (h3.trans hs.symm) hi h1 h
theorem run_load_cell {P : Program} {ty : TypeId} {d : TypeDesc} (w : World) (ad : Addr) (v : Value) (hc : w.cell? ad = some v) (hu : P.underlying ty = some d) (hd : (match d with | .struct _ | .array _ _ => true | _ => false) = false) :
    (Instr.loadAt ty (.pointer (some ad))).run P w = .ok v w := by
  have hagg : (isAgg ty).run P w = .ok false w := by
    unfold isAgg
    rw [Sem.run_bind, run_underlying hu w]
    cases d <;> simp_all
  simp only [Instr.loadAt, Instr.sureAddr, loadVar, Sem.run_bind, Sem.run_pure, Result.andThen_ok, hagg]
  go_simp
/-- A load of one cell, taken first. -/
theorem yieldsIf_cell {P : Program} {ops : Array Oper} {S : World → Prop} {o : Oper} {a : Act} (hw : Region.wanted o (yielded ops a.tmps) = true) (ty : TypeId) (x : Operand) (ho : o.op = .load ty x) (ad : Addr) (hx : a.eval x = .pointer (some ad))
    (v : Value) (d : TypeDesc) (hS : ∀ w, S w → w.cell? ad = some v) (hu : P.underlying ty = some d) (hd : (match d with | .struct _ | .array _ _ => true | _ => false) = false) : YieldsIf P ops S o v a :=
  .inl ⟨hw, fun w hw' => by
    unfold execOp
    simp only [ho, hx, Sem.run_bind, run_load_cell w ad v (hS w hw') hu hd, Result.andThen_ok, Sem.run_pure]⟩

/-! Regions whose last stores write what their own loads read. -/
section
open Go.Proofs.YtgfmeiddicodoaaW.PrintLast
variable {P : Program} {ops : Array Oper} {Q : Exit → Act → World → Prop} {md : Region.Mode} {S : World → Prop} {ds : List Nat}

theorem lastTake (i : Nat) {oi : Oper} {v : Value} {fuel : Nat} {listed : Array Bool} {a : Act} {w : World} (hi : ops.toList[i]? = some oi)
    (hs : Region.noSelect ops = true) (hf : Region.free md ops listed i = true) (hr : (Region.ready md ops listed).contains i = true)
    (hc : Region.closedB md ops listed = true) (hl : Region.lastB md ops listed ds i = true)
    (hQ : ∀ c a w, Q (.panic c) (a.put oi.dst v) w → Q (.panic c) a w) (hS : S w) (hy : YieldsIf P ops S oi v a)
    (h : wpAnyLast P md ops Q S ds fuel (listed.setIfInBounds i true) (a.put oi.dst v) w) : wpAnyLast P md ops Q S ds (fuel + 1) listed a w :=
  wpAnyLast_take (by simpa using hi) hs hf hr hc hl hQ hy hS h
theorem lastPure (i : Nat) {oi : Oper} {v : Value} {fuel : Nat} {listed : Array Bool} {a : Act} {w : World} (hi : ops.toList[i]? = some oi)
    (hs : Region.noSelect ops = true) (hf : Region.free md ops listed i = true) (hr : (Region.ready md ops listed).contains i = true)
    (hQ : ∀ c a w, Q (.panic c) (a.put oi.dst v) w → Q (.panic c) a w) (hy : Yields P ops oi v a)
    (h : wpAnyLast P md ops Q S ds fuel (listed.setIfInBounds i true) (a.put oi.dst v) w) : wpAnyLast P md ops Q S ds (fuel + 1) listed a w :=
  wpAnyLast_any (by simpa using hi) (Region.noSelect_spec hs) hQ fuel listed a w (Region.free_spec (by simpa using hi) hf) (by simpa using hr) hy h
theorem yields_of {o : Oper} {a : Act} {v : Value} (hw : Region.wanted o (yielded ops a.tmps) = true) (h : ∀ w, (execOp a.eval o).run P w = .ok (.value v) w) : Yields P ops o v a := .inl ⟨hw, h⟩
theorem lastOne (i : Nat) {o : Oper} {fuel : Nat} {listed : Array Bool} {a : Act} {w : World} (hr : Region.ready md ops listed = [i]) (ho : ops.toList[i]? = some o) (hd : i ∉ ds)
    (h : ∀ K' : Act → World → Prop, Shut (∀ a w, S w → (S w → wpAnyLast P md ops Q S ds fuel (listed.setIfInBounds i true) a w) → K' a w) → if Region.wanted o (yielded ops a.tmps) = true then Oper.wp P o a w K' Q else K' (a.put o.dst undef) w) :
    wpAnyLast P md ops Q S ds (fuel + 1) listed a w :=
  wpAnyLast_ready hr (by simp) (AllReadyL.cons (by simpa using ho) hd h AllReadyL.nil)
theorem lastEnd (i : Nat) {o : Oper} {fuel : Nat} {listed : Array Bool} {a : Act} {w : World} (hr : Region.ready md ops listed = [i]) (ho : ops.toList[i]? = some o) (hd : i ∈ ds)
    (h : ∀ K' : Act → World → Prop, Shut (∀ a w, wpAnyLast P md ops Q S ds fuel (listed.setIfInBounds i true) a w → K' a w) → if Region.wanted o (yielded ops a.tmps) = true then Oper.wp P o a w K' Q else K' (a.put o.dst undef) w) :
    wpAnyLast P md ops Q S ds (fuel + 1) listed a w :=
  wpAnyLast_ready hr (by simp) (AllReadyL.cons_last (by simpa using ho) hd h AllReadyL.nil)
end
end Go.Proofs.Ytgfmeiddicodoaa.H
