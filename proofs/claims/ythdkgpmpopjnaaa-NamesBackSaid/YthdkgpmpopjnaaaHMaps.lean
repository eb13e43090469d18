/-
The maps of package names: a literal map as a list of names and numbers; what a look-up, and a range over it, come to.
-/
import Derived.Test.YthdkgpmpopjnaaaProg
import Derived.WalkKit
import Derived.WalkSpells
import Derived.WalkLawsBesides
import Derived.Handy
import Derived.Lib.Hide
import Derived.Laws.IdiomRangeMap
import Derived.Maps.RangeRun
import Derived.Carry
import Derived.Test.YthdkgpmpopjnaaaHText
import Derived.Test.YthdkgpmpopjnaaaHParse
set_option linter.unusedVariables false
set_option linter.unusedSimpArgs false
namespace Go.Proofs.Ythdkgpmpopjnaaa.H
open Go.RowKit Go.Proofs.YthdkgpmpopjnaaaW.PrintWords Go.Instr

abbrev NL := List (ByteArray × Int)
/-- The entries of a map, from a stamp on. -/
def ents : NL → Nat → List MapEntry
  | [], _ => []
  | (k, v) :: l, i => { key := .string k, val := .int .u32 v, born := i } :: ents l (i + 1)
def entries (l : NL) : Array MapEntry := (ents l 0).toArray

theorem ents_length (l : NL) : ∀ i, (ents l i).length = l.length := by
  induction l with
  | nil => intro i; rfl
  | cons a l ih => intro i; simp [ents, ih]
theorem ents_born (l : NL) : ∀ i, ∀ x ∈ ents l i, i ≤ x.born ∧ x.born < i + l.length := by
  induction l with
  | nil => intro i x h; simp [ents] at h
  | cons a l ih =>
    intro i x h
    simp [ents] at h
    rcases h with rfl | h
    · simp
    · have := ih (i + 1) x h; simp; omega
theorem ents_nodup (l : NL) : ∀ i, ((ents l i).map (·.born)).Nodup := by
  induction l with
  | nil => intro i; simp [ents]
  | cons a l ih =>
    intro i
    simp only [ents, List.map_cons, List.nodup_cons]
    refine ⟨?_, ih (i + 1)⟩
    intro h
    obtain ⟨x, hx, he⟩ := List.mem_map.1 h
    have := ents_born l (i + 1) x hx
    omega
theorem ents_mem (l : NL) : ∀ i, ∀ x ∈ ents l i, ∃ p ∈ l, x.key = .string p.1 ∧ x.val = .int .u32 p.2 := by
  induction l with
  | nil => intro i x h; simp [ents] at h
  | cons a l ih =>
    intro i x h
    simp [ents] at h
    rcases h with rfl | h
    · exact ⟨a, by simp, rfl, rfl⟩
    · obtain ⟨p, hp, h1⟩ := ih (i + 1) x h
      exact ⟨p, List.mem_cons_of_mem _ hp, h1⟩
theorem ents_back (l : NL) : ∀ i, ∀ p ∈ l, ∃ x ∈ ents l i, x.key = .string p.1 ∧ x.val = .int .u32 p.2 := by
  induction l with
  | nil => intro i p h; cases h
  | cons a l ih =>
    intro i p h
    rcases List.mem_cons.1 h with rfl | h
    · exact ⟨_, List.mem_cons_self .., rfl, rfl⟩
    · obtain ⟨x, hx, h1⟩ := ih (i + 1) p h
      exact ⟨x, List.mem_cons_of_mem _ hx, h1⟩

/-- A map value that holds just this list. -/
def HasMap (w : World) (m : Value) (l : NL) : Prop :=
  (m = .map none ∧ l = []) ∨ ∃ g, m = .map (some g) ∧ w.heap[g]? = some (.map (entries l) l.length)
theorem HasMap.below {w w' : World} {m : Value} {l : NL} (h : HasMap w m l) (hb : Below w.heap.size w w') : HasMap w' m l := by
  rcases h with h | ⟨g, h1, h2⟩
  · exact .inl h
  · refine .inr ⟨g, h1, ?_⟩
    rw [hb.block g (Array.getElem?_eq_some_iff.1 h2).1]; exact h2

/-- The name of a number. -/
def nameOf (l : NL) (n : Int) : ByteArray := match l.find? (fun p => p.2 == n) with | some p => p.1 | none => ⟨#[]⟩
/-- The number of a name. -/
def numOf (l : NL) (s : ByteArray) : Option Int := match l.find? (fun p => s == p.1) with | some p => some p.2 | none => none
def Uniq (l : NL) : Prop := ∀ p ∈ l, ∀ q ∈ l, p.2 = q.2 → p.1 = q.1

theorem nameOf_hit {l : NL} (hu : Uniq l) {p : ByteArray × Int} (hp : p ∈ l) : nameOf l p.2 = p.1 := by
  unfold nameOf
  cases h : l.find? (fun q => q.2 == p.2) with
  | none =>
    have := List.find?_eq_none.1 h p hp
    simp at this
  | some q =>
    have h1 := List.find?_some h
    have h2 := List.mem_of_find?_eq_some h
    exact hu q h2 p hp (by simpa using h1)
theorem nameOf_miss {l : NL} {n : Int} (h : ∀ p ∈ l, p.2 ≠ n) : nameOf l n = ⟨#[]⟩ := by
  unfold nameOf
  cases hf : l.find? (fun q => q.2 == n) with
  | none => rfl
  | some q =>
    have h1 := List.find?_some hf
    exact absurd (by simpa using h1) (h q (List.mem_of_find?_eq_some hf))

theorem findNow_ents (s : ByteArray) (l : NL) : ∀ i j, findNow .string (.string s) (ents l i) j = some ((l.find? (fun p => s == p.1)).map fun p => ((l.findIdx (fun p => s == p.1)) + j, .int .u32 p.2)) := by
  induction l with
  | nil => intro i j; rfl
  | cons a l ih =>
    intro i j
    simp only [ents, findNow, sameNow]
    cases h : (s == a.1) with
    | true => simp [List.find?_cons, List.findIdx_cons, h]
    | false => rw [ih]; simp [List.find?_cons, List.findIdx_cons, h]; congr 1; funext p; congr 1; omega

theorem ck (e : Bool) (s : ByteArray) (w : World) : (checkKey e 10000 9 (.string s)).run Try.prog w = .ok () w :=
  MapKept.run_checkKey Try.underlying9 (k := .string s) trivial e 9999
theorem fk {s : ByteArray} {es : List MapEntry} {a : Option (Nat × Value)} (h : findNow .string (.string s) es 0 = some a) (w : World) : (findKey 9 (.string s) es).run Try.prog w = .ok a w :=
  MapKept.run_findKey Try.underlying9 h

theorem run_lookup_has {w : World} {m : Value} {l : NL} (h : HasMap w m l) (s : ByteArray) :
    (lookup 74 m (.string s) true).run Try.prog w = .ok (.tuple #[.int .u32 ((numOf l s).getD 0), .bool (numOf l s).isSome]) w := by
  have hz : (zeroValue 25).run Try.prog w = .ok (.int .u32 0) w := by kernel_rfl
  have hf := findNow_ents s l 0 0
  have hfk := fk hf w
  rcases h with ⟨rfl, rfl⟩ | ⟨g, rfl, hg⟩
  · simp only [lookup, Sem.run_bind, run_underlying Try.underlying74, Result.andThen_ok, Sem.run_pure, ck]
    rw [fk (a := none) rfl w]
    simp only [Result.andThen_ok, Sem.run_bind, hz, Sem.run_pure]
    rfl
  · simp only [lookup, Sem.run_bind, run_underlying Try.underlying74, Result.andThen_ok, MapKept.run_getObj_map hg, Sem.run_pure, ck]
    have he : (entries l).toList = ents l 0 := by simp [entries]
    rw [he, hfk]
    unfold numOf
    cases hq : l.find? (fun p => s == p.1) with
    | none =>
      simp only [Result.andThen_ok, Sem.run_bind, hz, Sem.run_pure, Option.map_none]
      rfl
    | some p =>
      simp only [Result.andThen_ok, Sem.run_bind, Sem.run_pure, Option.map_some]
      rfl

theorem run_insert_new (w : World) (es : Array MapEntry) (c : Nat) (key : ByteArray) (v : Value) (hf : findNow .string (.string key) es.toList 0 = some none) :
    (mapUpdate 74 (.map (some w.heap.size)) (.string key) v).run Try.prog (w.alloc (.map es c)) = .ok () (w.alloc (.map (es.push { key := .string key, val := v, born := c }) (c + 1))) := by
  have hg : (w.alloc (.map es c)).heap[w.heap.size]? = some (.map es c) := heap_alloc_new w _
  have hfk := fk hf (w.alloc (.map es c))
  have hset : ((w.alloc (.map es c)).heap.setIfInBounds w.heap.size (.map (es.push { key := .string key, val := v, born := c }) (c + 1))) = (w.alloc (.map (es.push { key := .string key, val := v, born := c }) (c + 1))).heap := by
    show ((w.heap.push _).setIfInBounds w.heap.size _) = w.heap.push _
    apply Array.ext'
    simp [Array.setIfInBounds, Array.toList_push]
  simp only [mapUpdate, Sem.run_bind, run_underlying Try.underlying74, Result.andThen_ok, MapKept.run_getObj_map hg, ck, hfk, MapKept.run_setObj_map _ hg, hset]
  rfl

def intVal : Value → Int | .int _ n => n | _ => 0

set_option maxHeartbeats 1000000 in
set_option maxRecDepth 100000 in
/-- 'name', of a map whose numbers are apart. -/
theorem name_walk (l : NL) (hu : Uniq l) (m : Value) (want : Int) (w : World) (hm : HasMap w m l) :
    Calls Try.prog 46 #[m, .int .u32 want] w fun e w' => e = .returned (.string (nameOf l want)) ∧ Below w.heap.size w w' := by
  obtain ⟨R, hR⟩ : ∃ R, nameOf l want = R := ⟨_, rfl⟩
  have hmiss : (∀ p ∈ l, p.2 ≠ want) → R = ⟨#[]⟩ := fun h => by rw [← hR]; exact nameOf_miss h
  have hhit : ∀ p ∈ l, p.2 = want → R = p.1 := fun p hp h => by rw [← hR, ← h]; exact nameOf_hit hu hp
  rw [hR]
  clear hR
  rcases hm with ⟨rfl, rfl⟩ | ⟨bm, rfl, hb⟩
  · have hrr := hmiss (fun p hp => by cases hp)
    subst hrr
    clear hmiss hhit
    have hrg := run_range_nilMap (P := Try.prog) w 74 9 25 Try.underlying74
    have hnx : ∀ ty, (Instr.next (.pointer (some ⟨w.heap.size, 0, none⟩)) false ty).run Try.prog (w.alloc (.mapIter none 0 #[] 0)) = _ := fun ty => run_next_nilMap w ty 0 0 #[]
    go_enter Try.func46, Try.ntmps46
    go_wp2
    refine wp_loop_rounds 1 ?_
    rw [rounds_succ]
    go_wp2
    go_ret
    exact ⟨rfl, (Below.refl _ _).alloc (Nat.le_refl _) _⟩
  · have HMISS := Lib.hid hmiss
    have HHIT := Lib.hid hhit
    clear hmiss hhit
    have hrg := run_range_map (P := Try.prog) w 74 9 25 bm (entries l) l.length Try.underlying74 hb
    have hbt : ∀ x ∈ (entries l).toList, x.born < l.length := fun x hx => by
      have := ents_born l 0 x (by simpa [entries] using hx); omega
    have hnd : ((entries l).toList.map (·.born)).Nodup := by
      have := ents_nodup l 0; simpa [entries] using this
    have hkv : ∀ x ∈ (entries l).toList, ∃ p ∈ l, x.key = .string p.1 ∧ x.val = .int .u32 p.2 := fun x hx => ents_mem l 0 x (by simpa [entries] using hx)
    have hback : ∀ p ∈ l, ∃ x ∈ (entries l).toList, x.key = .string p.1 ∧ x.val = .int .u32 p.2 := fun p hp => by
      obtain ⟨x, hx, h1⟩ := ents_back l 0 p hp
      exact ⟨x, by simpa [entries] using hx, h1⟩
    generalize entries l = es at *
    generalize hcl : l.length = clock at *
    have HBT := Lib.hid hbt
    have HND := Lib.hid hnd
    have HKV := Lib.hid hkv
    have HBK := Lib.hid hback
    have HB := Lib.hid hb
    clear hbt hnd hkv hback hb hcl
    go_enter Try.func46, Try.ntmps46
    go_wp2
    clear hrg
    have hb0 := HB.out
    have hi0 : (w.alloc (.mapIter (some bm) clock #[] clock)).heap[w.heap.size]? = some (.mapIter (some bm) clock #[] clock) := heap_alloc_new w _
    have hB0 : Below w.heap.size w (w.alloc (.mapIter (some bm) clock #[] clock)) := (Below.refl _ _).alloc (Nat.le_refl _) _
    have HI0 := Lib.hid hi0
    have HB0 := Lib.hid hB0
    have hbl : bm < w.heap.size := (Array.getElem?_eq_some_iff.1 hb0).1
    clear hi0 hB0 hb0
    go_loopw [] (fun wr => ∃ seen : Array Nat, wr.heap[w.heap.size]? = some (.mapIter (some bm) clock seen clock) ∧ Below w.heap.size w wr ∧ ∀ x ∈ es.toList, seen.contains x.born = true → ¬ intVal x.val = want) (fun wr => (leftOf es (wr.iterSeen w.heap.size)).size)
    case atStart => exact ⟨#[], HI0.out, HB0.out, fun x _ h => by simp at h⟩
    case round =>
      obtain ⟨seen, hit, hbw, hno⟩ := hrel
      have hbm : wr.heap[bm]? = some (.map es clock) := (hbw.block bm hbl).trans HB.out
      have HIT := Lib.hid hit
      have HBW := Lib.hid hbw
      have HNO := Lib.hid hno
      have law := run_next_at (P := Try.prog) wr 0 w.heap.size bm clock clock seen es clock hit hbm HBT.out (Nat.le_refl _)
      clear hit hbw hno
      rcases law with ⟨h0, hrun⟩ | ⟨e, he, w1, hw1, hrun⟩
      · have hnx : ∀ ty, (Instr.next (.pointer (some ⟨w.heap.size, 0, none⟩)) false ty).run Try.prog wr = _ := fun _ => hrun
        have hrr := HMISS.out (fun p hp hpw => by
          obtain ⟨x, hx, hk, hv⟩ := HBK.out p hp
          refine HNO.out x hx (all_seen es seen h0 x hx) ?_
          rw [hv]; exact hpw)
        subst hrr
        clear h0 hrun hbm
        go_wp2
        go_ret
        exact ⟨rfl, HBW.out⟩
      · obtain ⟨p, hp, hk, hv⟩ := HKV.out e (mem_left he).1
        rw [hk, hv] at hrun
        have hit2 : w1.heap[w.heap.size]? = some (.mapIter (some bm) clock seen clock) := by rcases hw1 with rfl | rfl <;> exact HIT.out
        have hbw2 : Below w.heap.size w w1 := by
          rcases hw1 with rfl | rfl
          · exact HBW.out
          · exact HBW.out.drew
        obtain ⟨w2, hw2⟩ : ∃ w2, ChangeMaps.setBlock w1 w.heap.size (.mapIter (some bm) clock (seen.push e.born) clock) = w2 := ⟨_, rfl⟩
        have hit3 : w2.heap[w.heap.size]? = some (.mapIter (some bm) clock (seen.push e.born) clock) := by
          rw [← hw2]; exact (MapKept.heap_set hit2).1
        have hbw3 : Below w.heap.size w w2 := by
          rw [← hw2]
          refine ⟨hbw2.os, hbw2.tape, hbw2.output, ?_, fun k hk => ?_⟩
          · show w.heap.size ≤ (w1.heap.setIfInBounds _ _).size
            rw [Array.size_setIfInBounds]; exact hbw2.size
          · show (w1.heap.setIfInBounds _ _)[k]? = _
            rw [(MapKept.heap_set hit2).2 k (by omega)]; exact hbw2.block k hk
        rw [hw2] at hrun
        have hbm2 : w2.heap[bm]? = some (.map es clock) := (hbw3.block bm hbl).trans HB.out
        have hnx : ∀ ty, (Instr.next (.pointer (some ⟨w.heap.size, 0, none⟩)) false ty).run Try.prog wr = _ := fun _ => hrun
        have hen := run_entry_at (P := Try.prog) w2 w.heap.size bm clock seen es clock e hit3 hbm2 (mem_left he).1 HND.out
        rw [hk, hv] at hen
        have HW3 := Lib.hid hbw3
        have HI3 := Lib.hid hit3
        have HE := Lib.hid he
        have HV := Lib.hid hv
        have HP := Lib.hid hp
        have HWr := Lib.hid hit2
        clear hrun hbm hw1 hit2 hbw2 hw2 hit3 hbw3 hbm2 he hk hv hp
        by_cases heq : p.2 = want
        · have hR := HHIT.out p HP.out heq
          subst hR
          have hq : (p.2 == want) = true := beq_iff_eq.2 heq
          clear heq
          go_wp2
          go_ret
          exact ⟨rfl, HW3.out⟩
        · have hq : (p.2 == want) = false := beq_eq_false_iff_ne.2 heq
          go_wp2
          go_roundw
          case rel =>
            refine ⟨seen.push e.born, HI3.out, HW3.out, fun x hx hc => ?_⟩
            rw [contains_push] at hc
            rcases Bool.or_eq_true _ _ ▸ hc with h1 | h1
            · exact HNO.out x hx h1
            · have hxe : x = e := born_inj HND.out hx (mem_left HE.out).1 (beq_iff_eq.1 h1)
              subst hxe
              rw [HV.out]
              exact heq
          case measure =>
            have e1 : w2.iterSeen w.heap.size = seen.push e.born := by unfold World.iterSeen; rw [HI3.out]
            have e2 : wr.iterSeen w.heap.size = seen := by unfold World.iterSeen; rw [HIT.out]
            rw [e1, e2]
            exact left_shrinks es seen e HE.out
end Go.Proofs.Ythdkgpmpopjnaaa.H
