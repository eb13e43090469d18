/- A policy with a rule put in; what it says. -/
import Derived.Test.YtekpbgmmogpbdaaZC2
set_option linter.unusedVariables false
set_option linter.unusedSimpArgs false
set_option maxRecDepth 100000
namespace Go.Proofs.Ytekpbgmmogpbdaa.H
open Go.RowKit Go.Proofs.YtekpbgmmogpbdaaW.PrintWords Go.Proofs.YtekpbgmmogpbdaaW.PrintLast Go.Proofs.YtekpbgmmogpbdaaW.PrintMore
attribute [local go_sem] max2_int min2_int max_two min_two max_three min_three max_four min_four
structure PI (w : World) (gi gr gp : Nat) (s : ByteArray) (pos : Nat) (slv : Value) (L : List P.S40) (df : Int) (W : World) : Prop where
  it : W.heap[gi]? = some (.stringIter s pos)
  rr : W.heap[gr]? = some (.cells #[.slice none 0 0, .int .u32 0] 25 (0, 0))
  pr : W.heap[gp]? = some (.cells #[slv, .int .u32 df] 25 (0, 0))
  sl : Kd.S P.k40 40 W w.heap.size (fun _ => True) slv L
  bl : Below w.heap.size w W
  gei : w.heap.size ≤ gi
  ger : w.heap.size ≤ gr
  gep : w.heap.size ≤ gp
  ne : gr ≠ gp
section
variable {w W W1 : World} {gi gr gp g : Nat} {s : ByteArray} {pos : Nat} {slv : Value} {L : List P.S40} {df : Int}
theorem PI.keep {cs : Array Value} (h : PI w gi gr gp s pos slv L df W) (hk : KeepBut W W1 g none) (hg : W.heap[g]? = some (.cells cs 65 (0, 0))) (hb : Below w.heap.size w W1) : PI w gi gr gp s pos slv L df W1 where
  it := KeepBut.blk hk h.it (fun e => by have := h.it; rw [e, hg] at this; simp at this) (by simp)
  rr := KeepBut.blk hk h.rr (fun e => by have := h.rr; rw [e, hg] at this; simp at this) (by simp)
  pr := KeepBut.blk hk h.pr (fun e => by have := h.pr; rw [e, hg] at this; simp at this) (by simp)
  sl := Kd.S_mono (Kd.S_keep (Kd.S_types h.sl hg (by decide)) hk (fun _ hk => hk.2)) (fun _ _ => trivial)
  bl := hb
  gei := h.gei
  ger := h.ger
  gep := h.gep
  ne := h.ne
theorem PI.below (h : PI w gi gr gp s pos slv L df W) (hb : Below W.heap.size W W1) : PI w gi gr gp s pos slv L df W1 where
  it := blk_below h.it hb
  rr := blk_below h.rr hb
  pr := blk_below h.pr hb
  sl := Kd.S_below h.sl hb
  bl := below_step h.bl hb
  gei := h.gei
  ger := h.ger
  gep := h.gep
  ne := h.ne
theorem PI.drew (h : PI w gi gr gp s pos slv L df W) : PI w gi gr gp s pos slv L df W.drew := h.below (below_drew (Below.refl _ _))
theorem PI.drewN (h : PI w gi gr gp s pos slv L df W) (m : Nat) : PI w gi gr gp s pos slv L df (W.drewN m) := h.below (pw_below_drewN (Below.refl _ _) m)
theorem PI.alloc (h : PI w gi gr gp s pos slv L df W) (o : Obj) : PI w gi gr gp s pos slv L df (W.alloc o) := h.below (below_alloc (Below.refl _ _) o)
theorem PI.setRd {cs : Array Value} (h : PI w gi gr gp s pos slv L df W) (hg : W.heap[g]? = some (.cells cs 65 (0, 0))) (hge : w.heap.size ≤ g) (j : Nat) (u : Value) : PI w gi gr gp s pos slv L df (W.setCell ⟨g, j, none⟩ u) where
  it := (Below.heap_setCell W ⟨g, j, none⟩ u gi (fun e => by have e : gi = g := e; have := h.it; rw [e, hg] at this; simp at this)).trans h.it
  rr := (Below.heap_setCell W ⟨g, j, none⟩ u gr (fun e => by have e : gr = g := e; have := h.rr; rw [e, hg] at this; simp at this)).trans h.rr
  pr := (Below.heap_setCell W ⟨g, j, none⟩ u gp (fun e => by have e : gp = g := e; have := h.pr; rw [e, hg] at this; simp at this)).trans h.pr
  sl := Kd.S_set h.sl hg (by decide) j u
  bl := below_set h.bl hge
  gei := h.gei
  ger := h.ger
  gep := h.gep
  ne := h.ne
theorem PI.setP (h : PI w gi gr gp s pos slv L df W) (v : Int) : PI w gi gr gp s pos slv L v (W.setCell ⟨gp, 1, none⟩ (.int .u32 v)) where
  it := (Below.heap_setCell W ⟨gp, 1, none⟩ _ gi (fun e => by have e : gi = gp := e; have := h.it; rw [e, h.pr] at this; simp at this)).trans h.it
  rr := (Below.heap_setCell W ⟨gp, 1, none⟩ _ gr (fun e => h.ne e)).trans h.rr
  pr := blk_put (cs := #[slv, .int .u32 df]) h.pr 1 _ rfl
  sl := Kd.S_set h.sl h.pr (by decide) 1 _
  bl := below_set h.bl h.gep
  gei := h.gei
  ger := h.ger
  gep := h.gep
  ne := h.ne
theorem PI.setS (h : PI w gi gr gp s pos slv L df W) {v : Value} {L2 : List P.S40} (hg : W.grownBy W1 slv.ownBlock) (hs : Kd.S P.k40 40 W1 w.heap.size (fun _ => True) v L2) (hb : Below w.heap.size w W1) : PI w gi gr gp s pos v L2 df (W1.setCell ⟨gp, 0, none⟩ v) := by
  have hit : some gi ≠ slv.ownBlock := fun e => by
    obtain ⟨cells, hc⟩ := Kd.S_typed h.sl gi e.symm
    rw [h.it] at hc; simp at hc
  have i1 := blk_grown h.it hg hit
  have r1 := blk_grown h.rr hg (Kd.S_ne h.sl h.rr (by decide))
  have p1 := blk_grown h.pr hg (Kd.S_ne h.sl h.pr (by decide))
  exact ⟨(Below.heap_setCell W1 ⟨gp, 0, none⟩ _ gi (fun e => by have e : gi = gp := e; have := i1; rw [e, p1] at this; simp at this)).trans i1,
    (Below.heap_setCell W1 ⟨gp, 0, none⟩ _ gr (fun e => h.ne e)).trans r1, blk_put (cs := #[slv, .int .u32 df]) p1 0 _ rfl, Kd.S_set hs p1 (by decide) 0 _, below_set hb h.gep, h.gei, h.ger, h.gep, h.ne⟩
theorem PI.next (h : PI w gi gr gp s pos slv L df W) (p' : Nat) : PI w gi gr gp s p' slv L df (setIter W gi s p') where
  it := setIter_same W gi s pos p' h.it
  rr := (setIter_other W gi gr s p' (fun e => by have := h.rr; rw [e, h.it] at this; simp at this)).trans h.rr
  pr := (setIter_other W gi gp s p' (fun e => by have := h.pr; rw [e, h.it] at this; simp at this)).trans h.pr
  sl := Kd.S_step (Kd.S_bound h.sl) (fun k hk hlt => setIter_other W gi k s p' (fun e => by obtain ⟨_, _, _, q, _, cells, hc⟩ := hk; rw [e, h.it] at hc; simp at hc)) |> fun x => Kd.S_mono x (fun _ _ => trivial)
  bl := h.bl.trans ⟨rfl, rfl, rfl, by simp [setIter], fun k hk => setIter_other W gi k s p' (by have := h.gei; omega)⟩
  gei := h.gei
  ger := h.ger
  gep := h.gep
  ne := h.ne
end
theorem PI.pos_ {w W : World} {gi gr gp : Nat} {s : ByteArray} {pos : Nat} {slv : Value} {L : List P.S40} {df : Int} (h : PI w gi gr gp s pos slv L df W) : W.iterPos gi = pos := by simp [World.iterPos, h.it]
theorem ba_slice (s : ByteArray) (a p : Nat) : (s.extract a p).data.toList = (s.data.toList.drop a).take (p - a) := by
  simp [ByteArray.data_extract]
theorem drop_parts (l : List UInt8) (a p : Nat) (hp : p < l.length) (ha : a ≤ p) : l.drop a = (l.drop a).take (p - a) ++ l[p] :: l.drop (p + 1) := by
  have h1 : l.drop p = l[p] :: l.drop (p + 1) := List.drop_eq_getElem_cons hp
  rw [← h1]
  have h2 : l.drop p = (l.drop a).drop (p - a) := by rw [List.drop_drop]; congr 1; omega
  rw [h2, List.take_append_drop]
theorem no10 (s : ByteArray) (a p : Nat) (hb : ∀ j (hj : j < s.size), a ≤ j → j < p → (s[j]'hj).toNat ≠ 10) : (10 : UInt8) ∉ (s.data.toList.drop a).take (p - a) := by
  intro hm
  obtain ⟨j, hj⟩ := List.mem_iff_getElem?.1 hm
  rw [List.getElem?_take] at hj
  split at hj
  · rename_i hlt
    rw [List.getElem?_drop] at hj
    by_cases h : a + j < s.size
    · rw [ba_get s _ h] at hj
      injection hj with hj
      exact hb _ h (by omega) (by omega) (by rw [hj]; rfl)
    · rw [List.getElem?_eq_none (by simp; omega)] at hj
      simp at hj
  · simp at hj
theorem spl_line (s : ByteArray) (a p : Nat) (hp : p < s.size) (ha : a ≤ p) (h10 : (s[p]'hp).toNat = 10) (hb : ∀ j (hj : j < s.size), a ≤ j → j < p → (s[j]'hj).toNat ≠ 10) :
    spl 10 (s.data.toList.drop a) = (s.extract a p).data.toList :: spl 10 (s.data.toList.drop (p + 1)) := by
  have hp' : p < s.data.toList.length := by simpa using hp
  have e : s.data.toList[p] = 10 := by
    have := ba_get s p hp
    rw [List.getElem?_eq_getElem hp'] at this
    injection this with this
    rw [this]
    exact UInt8.toNat_inj.1 h10
  rw [drop_parts _ a p hp' ha, e, spl_cons _ _ _ (no10 s a p hb), ba_slice]
theorem spl_last (s : ByteArray) (a : Nat) (hb : ∀ j (hj : j < s.size), a ≤ j → j < s.size → (s[j]'hj).toNat ≠ 10) : spl 10 (s.data.toList.drop a) = [s.data.toList.drop a] := by
  have h := no10 s a s.size hb
  rw [List.take_of_length_le (by rw [List.length_drop]; simp)] at h
  exact spl_none _ _ h
theorem plines_step (n : Nat) (l : List UInt8) (ls : List (List UInt8)) (hls : ls ≠ []) (at_ : Nat) (done : Bool) (L : List P.S40) (df : Int) :
    plines n (l :: ls) at_ done L df = if done = true then ([], 0, (at_ : Int), 2) else match lineV l with
      | none => ([], 0, (at_ : Int), 2)
      | some (.inl x) => if L.length = 64 then ([], 0, (at_ : Int), 3) else plines n ls (at_ + l.length + 1) false (L ++ [x]) df
      | some (.inr v) => plines n ls (at_ + l.length + 1) true L v := by
  rw [plines, if_neg hls]
  first | rfl | (cases done <;> simp <;> cases lineV l <;> rfl)
def PRel (w : World) (gi gr gp : Nat) (s : ByteArray) (res : List P.S40 × Int × Int × Int) (v6 v7 : Value) (W : World) : Prop :=
  ∃ (pos at_ : Nat) (done : Bool) (slv : Value) (L : List P.S40) (df : Int), v6 = .int .i64 at_ ∧ v7 = .bool done ∧ Aside0 (PI w gi gr gp s pos slv L df W) ∧ at_ ≤ pos ∧ pos ≤ s.size ∧ L.length ≤ 64 ∧
    Aside0 (∀ j (hj : j < s.size), at_ ≤ j → j < pos → (s[j]'hj).toNat ≠ 10) ∧ Aside0 (plines s.size (spl 10 (s.data.toList.drop at_)) at_ done L df = res)
def PEnd (w : World) (r : List P.S40 × Int × Int × Int) (e : Ending) (w' : World) : Prop :=
  ∃ v : Value, e = .returned (.tuple #[.agg #[v, .int .u32 r.2.1], .int .i64 r.2.2.1, .int .i64 r.2.2.2]) ∧ Kd.S P.k40 40 w' w.heap.size (fun _ => True) v r.1 ∧ Below w.heap.size w w'
theorem err_row {W : World} {gr : Nat} {v : Value} {d : Int} (h : W.heap[gr]? = some (.cells #[v, .int .u32 d] 25 (0, 0))) (u : Value) (x : Int) :
    ((W.setCell ⟨gr, 0, none⟩ u).setCell ⟨gr, 1, none⟩ (.int .u32 x)).heap[gr]? = some (.cells #[u, .int .u32 x] 25 (0, 0)) :=
  blk_put (cs := #[u, .int .u32 d]) (blk_put (cs := #[v, .int .u32 d]) h 0 _ rfl) 1 _ rfl
section
variable {P : Program} {ops : Array Oper} {rest : List Oper} {o : Oper} {a : Act} {Q : Exit → Act → World → Prop}
theorem iter_event {W : World} (hgd : o.guard = none) {N : Tmp} (_hd : o.dst = some N) {s : ByteArray}
    (hrun : (execOp a.eval o).run P W = .ok (.value (.pointer (some ⟨W.heap.size, 0, none⟩))) (W.alloc (.stringIter s 0)))
    (h : ∀ g, g = W.heap.size → ∀ w1, w1.heap[g]? = some (.stringIter s 0) → Below W.heap.size W w1 → wpList P ops Q rest (a.put o.dst (.pointer (some ⟨g, 0, none⟩))) w1) : wpList P ops Q (o :: rest) a W :=
  Kd.event_run hgd hrun (h _ rfl _ (blk_new W _) (below_alloc (Below.refl _ _) _))
end
set_option maxHeartbeats 4000000 in
theorem policyParse_big (s : ByteArray) (hb : 20000 < s.size) (hs : s.size ≤ 140737488351232) (w : World) :
    Calls Try.prog 20 #[.string s] w (PEnd w ([], 0, 0, 3)) := by
  have hu25 := Try.underlying25
  have c2b0 : decide (20000 < (s.size : Int)) = true := decide_eq_true (by omega)
  have c2b1 : decide (20000 < s.size) = true := decide_eq_true (by omega)
  have HB := Aside0.mk (Below.refl w.heap.size w)
  go_enter Try.func20, Try.ntmps20
  go_wp2_with (first | ((with_reducible refine gate_dst (N := 2) rfl ?_); refine box_event ?hg (N := 2) ?hd (cs := #[.slice none 0 0, .int .u32 0]) (t := 25) ?hr ?_; (case hd => rfl); (case hg => rfl); (case hr => first | (go_simp; done) | (go_simp; rfl)); intro gr hg w3 hbox hb2; have n0_ := Aside0.mk (below_step HB.out hb2); have n1_ := Aside0.mk hbox; have n2_ := Aside0.mk (by rw [hg]; exact Nat.le_refl _ : w.heap.size ≤ gr); clear HB; have HB := n0_; have BKR := n1_; have GER := n2_; clear n0_ n1_ n2_; clear hb2 hbox hg; have hcz0 : w3.cell? ⟨gr, 0, none⟩ = some (.slice none 0 0) := (blk_cell BKR.out 0).trans rfl; have hcz1 : w3.cell? ⟨gr, 1, none⟩ = some (.int .u32 0) := (blk_cell BKR.out 1).trans rfl; have hfz0 := blk_frozen BKR.out 0; have hfz1 := blk_frozen BKR.out 1))
  go_wp2
  refine bodyPost_ret (results_ctt rfl _ _ gr 25 #[.slice none 0 0, .int .u32 0] (0, 0) _ rfl (err_row BKR.out _ _) Try.underlying25 rfl (by kernel_rfl)) rfl ?_
  exact ⟨_, rfl, Kd.S_nil _ _ _ _ _, below_set (below_set HB.out GER.out) GER.out⟩
set_option maxHeartbeats 8000000 in
theorem policyParse_go (s : ByteArray) (hsz : s.size ≤ 20000) (res : List P.S40 × Int × Int × Int) (hres : plines s.size (spl 10 s.data.toList) 0 false [] 0 = res) (w : World) :
    Calls Try.prog 20 #[.string s] w (PEnd w res) := by
  have hu25 := Try.underlying25
  have c2b0 : decide (20000 < (s.size : Int)) = false := decide_eq_false (by omega)
  have c2b1 : decide (20000 < s.size) = false := decide_eq_false (by omega)
  have HB := Aside0.mk (Below.refl w.heap.size w)
  have HRES := Aside0.mk hres
  clear hres
  go_enter Try.func20, Try.ntmps20
  go_wp2_with (first | ((with_reducible refine gate_dst (N := 2) rfl ?_); (try (refine gate_guard (by rfl) ?_; dsimp only)); refine box_event ?hg (N := 2) ?hd (cs := #[.slice none 0 0, .int .u32 0]) (t := 25) ?hr ?_; (case hd => rfl); (case hg => rfl); (case hr => first | (go_simp; done) | (go_simp; rfl)); intro gr hgx w1 hbox hbx; have n0_ := Aside0.mk (below_step HB.out hbx); have n1_ := Aside0.mk hbox; have n2_ := Aside0.mk (by rw [hgx]; exact Nat.le_refl _ : w.heap.size ≤ gr); clear HB; have HB := n0_; have BKR := n1_; have GER := n2_; clear n0_ n1_ n2_; clear hbx hbox hgx) | ((with_reducible refine gate_dst (N := 5) rfl ?_); (try (refine gate_guard (by rfl) ?_; dsimp only)); refine box_event ?hg (N := 5) ?hd (cs := #[.slice none 0 0, .int .u32 0]) (t := 25) ?hr ?_; (case hd => rfl); (case hg => rfl); (case hr => first | (go_simp; done) | (go_simp; rfl)); intro gp hgx w2 hbox hbx; have n0_ := Aside0.mk (below_step (by repeat (first | (with_reducible first | exact HB.out | apply below_alloc | apply pw_below_drewN | apply below_drew1) | exact HB.out)) hbx); have n1_ := Aside0.mk hbox; have n2_ := Aside0.mk (by rw [hgx]; exact (below_size (by repeat (first | (with_reducible first | exact HB.out | apply below_alloc | apply pw_below_drewN | apply below_drew1) | exact HB.out))) : w.heap.size ≤ gp); have n3_ := Aside0.mk (blk_below BKR.out hbx); have n4_ := Aside0.mk (by rw [hgx]; exact Nat.ne_of_lt (blk_lt BKR.out) : gr ≠ gp); clear HB; clear BKR; have HB := n0_; have BKP := n1_; have GEP := n2_; have BKR := n3_; have NRP := n4_; clear n0_ n1_ n2_ n3_ n4_; clear hbx hbox hgx) | ((with_reducible refine gate_dst (N := 20) rfl ?_); refine iter_event ?hg (N := 20) ?hd (s := s) ?hr ?_; (case hd => rfl); (case hg => rfl); (case hr => first | (go_simp; done) | (go_simp; rfl)); intro gi hgx w3 hbox hbx; have HP := Aside0.mk (PI.mk hbox (blk_below BKR.out hbx) (blk_below BKP.out hbx) (Kd.S_nil _ _ _ _ _) (below_step (by repeat (first | (with_reducible first | exact HB.out | apply below_alloc | apply pw_below_drewN | apply below_drew1) | exact HB.out)) hbx) (by rw [hgx]; exact (below_size (by repeat (first | (with_reducible first | exact HB.out | apply below_alloc | apply pw_below_drewN | apply below_drew1) | exact HB.out)))) GER.out GEP.out NRP.out : PI w gi gr gp s 0 (.slice none 0 0) [] 0 w3); clear HB BKR BKP GER GEP NRP; clear hbx hbox hgx; go_simp))
  go_loopw [6, 7] (fun v6 v7 wr => PRel w gi gr gp s res v6 v7 wr) (fun _ _ wr => s.size - wr.iterPos gi)
  case atStart => exact ⟨0, 0, false, _, [], 0, rfl, rfl, HP, Nat.le_refl _, Nat.zero_le _, by simp, ⟨fun j hj h1 h2 => by omega⟩, ⟨by simpa using HRES.out⟩⟩
  case round =>
    clear HP HRES
    obtain ⟨pos, at_, done, slv, L, df, rfl, rfl, HP, hap, hps, hL, HBF, HRES⟩ := hrel
    have HPOS := Lib.hid HP.out.pos_
    by_cases hlt : pos < s.size
    · by_cases ha : (s[pos]'hlt).toNat < 128
      · obtain ⟨w5, hw5⟩ : ∃ w5, setIter wr gi s (pos + 1) = w5 := ⟨_, rfl⟩
        have hnx : ∀ ty, (Instr.next (.pointer (some ⟨gi, 0, none⟩)) true ty).run Try.prog wr = .ok (.tuple #[.bool true, .int .i64 pos, .int .i32 (s[pos]'hlt).toNat]) w5 := fun ty => by
          rw [next_at wr gi s pos ty HP.out.it hlt, decode_ascii s pos hlt ha, hw5]
        have HP5 := Aside0.mk (hw5 ▸ HP.out.next (pos + 1))
        obtain ⟨c, hc⟩ : ∃ c, (s[pos]'hlt).toNat = c := ⟨_, rfl⟩
        rw [hc] at hnx
        have HC := Lib.hid hc
        clear hc ha hw5 HP
        by_cases h10 : c = 10
        · subst h10
          obtain ⟨line, hline⟩ : ∃ l, s.extract at_ pos = l := ⟨_, rfl⟩
          have hsp := spl_line s at_ pos hlt hap HC.out HBF.out
          rw [hline] at hsp
          have hll : line.data.toList.length = pos - at_ := by rw [← hline, ba_slice, List.length_take, List.length_drop, ← size_list]; omega
          have hlz : line.size ≤ 20000 := by rw [size_list]; omega
          obtain ⟨wd, s1, e1, b1, A10, z1, y1, q1, d1, g1⟩ := word_ev line false false _ (.inr ⟨rfl, rfl⟩) (by omega)
          obtain ⟨w0, ws, hws⟩ : ∃ w0 ws, spl 32 line.data.toList = w0 :: ws := by
            cases h : spl 32 line.data.toList with
            | nil => exact absurd h (spl_ne _ _)
            | cons a b => exact ⟨a, b, rfl⟩
          rw [hws] at q1 d1 g1
          obtain rfl : b1 = false := by rw [g1]; rfl
          simp only [List.tail_cons, List.headD_cons] at q1 d1
          have hst := HRES.out
          rw [hsp, plines_step _ _ _ (spl_ne _ _), hll, show at_ + (pos - at_) + 1 = pos + 1 by omega] at hst
          rw [lineV_of hws] at hst
          have HST := Aside0.mk hst
          have A1 := Aside0.mk A10
          have HQ1 := Aside0.mk q1
          have HY1 := Aside0.mk y1
          have hpi : (0 : Int) ≤ (at_ : Int) ∧ (at_ : Int) ≤ (pos : Int) ∧ (pos : Int) ≤ (s.size : Int) := by omega
          obtain ⟨hp1, hp2, hp3⟩ := hpi
          have hE1 : (wd.toList == ([111, 110] : List UInt8)) = decide (w0 = [111, 110]) := by rw [ByteArray.toList_eq, d1]; exact Bool.eq_iff_iff.2 (by simp)
          have hE2 : (wd.toList == ([100, 101, 102, 97, 117, 108, 116] : List UInt8)) = decide (w0 = [100, 101, 102, 97, 117, 108, 116]) := by rw [ByteArray.toList_eq, d1]; exact Bool.eq_iff_iff.2 (by simp)
          clear hst A10 q1 y1 z1 g1 hws hsp
          have HLL := Lib.hid hll
          clear hll
          have HP := HP5
          clear HP5
          cases done with
          | true =>
            have hres : res = ([], 0, (at_ : Int), 2) := by have h := HST.out; rw [if_pos rfl] at h; exact h.symm
            subst hres
            clear HST
            by_cases hon : w0 = [111, 110]
            · have hE1b := hE1.trans (decide_eq_true hon)
              have hE2b := hE2.trans (decide_eq_false (by rw [hon]; decide))
              clear hE1 hE2
              go_wp2_with (first | ((with_reducible refine gate_dst (N := 32) rfl ?_); (try (refine gate_guard (by rfl) ?_; dsimp only)); refine box_event ?hg (N := 32) ?hd (cs := #[.string line, .bool false, .bool false]) (t := 65) ?hr ?_; (case hd => rfl); (case hg => rfl); (case hr => first | (go_simp; done) | (go_simp; rfl)); intro g hgx w6 hbox hbx; have n0_ := Aside0.mk (PI.below (by repeat (first | (with_reducible exact HP.out) | (with_reducible refine PI.drewN ?_ _) | (with_reducible refine PI.drew ?_) | (with_reducible refine PI.alloc ?_ _) | exact HP.out)) hbx); have n1_ := Aside0.mk (⟨hbox, by rw [hgx]; exact (PI.bl (by repeat (first | (with_reducible exact HP.out) | (with_reducible refine PI.drewN ?_ _) | (with_reducible refine PI.drew ?_) | (with_reducible refine PI.alloc ?_ _) | exact HP.out))).size⟩ : P.IsS65 w w6 g line false false); have NRG := Aside0.mk (by rw [hgx]; exact Nat.ne_of_lt (blk_lt (PI.rr (by repeat (first | (with_reducible exact HP.out) | (with_reducible refine PI.drewN ?_ _) | (with_reducible refine PI.drew ?_) | (with_reducible refine PI.alloc ?_ _) | exact HP.out)))) : gr ≠ g); have NPG := Aside0.mk (by rw [hgx]; exact Nat.ne_of_lt (blk_lt (PI.pr (by repeat (first | (with_reducible exact HP.out) | (with_reducible refine PI.drewN ?_ _) | (with_reducible refine PI.drew ?_) | (with_reducible refine PI.alloc ?_ _) | exact HP.out)))) : gp ≠ g); clear HP hbx hbox hgx; have HP := n0_; have HR := n1_; clear n0_ n1_) | ((with_reducible refine gate_callee (f := 37) rfl ?_); refine goesL_ (some 34) rfl rfl Try.func37 (by kernel_rfl) rfl #[.pointer (some ⟨g, 0, none⟩)] rfl (by (try simp only [List.map_toArray, List.map_cons, List.map_nil]); first | done | rfl | (simp only [List.length_drop, List.length_take]; rfl)) ?_; (with_reducible refine (policy_reader_word.calls g line false false wd s1 e1 false w _ ?side1 ?side2 A1.out).mono ?_); (case side1 => exact HR.out); (case side2 => exact (PI.bl (by repeat (first | (with_reducible exact HP.out) | (with_reducible refine PI.drewN ?_ _) | (with_reducible refine PI.drew ?_) | (with_reducible refine PI.alloc ?_ _) | exact HP.out)))); rintro e w7 ⟨rfl, hi, hb, hk⟩; refine ⟨_, rfl, ?_⟩; have n0_ := Aside0.mk hi; have n1_ := Aside0.mk (PI.keep (by repeat (first | (with_reducible exact HP.out) | (with_reducible refine PI.drewN ?_ _) | (with_reducible refine PI.drew ?_) | (with_reducible refine PI.alloc ?_ _) | exact HP.out)) hk HR.out.1 hb); clear HR HP hi hb hk; have HR := n0_; have HP := n1_; clear n0_ n1_; have hng1 := NRG.out; have hng2 := NRG.out.symm; have hng3 := NPG.out; have hng4 := NPG.out.symm; have hc0 : w7.cell? ⟨g, 0, none⟩ = some (.string s1) := P.cellS65_0 HR.out.1; have hc1 : w7.cell? ⟨g, 1, none⟩ = some (.bool e1) := P.cellS65_1 HR.out.1; have hc2 : w7.cell? ⟨g, 2, none⟩ = some (.bool false) := P.cellS65_2 HR.out.1; have hf2 : w7.frozen? ⟨g, 2, none⟩ = false := blk_frozen HR.out.1 2; have hcz0 : w7.cell? ⟨gr, 0, none⟩ = some (.slice none 0 0) := (blk_cell HP.out.rr 0).trans rfl; have hcz1 : w7.cell? ⟨gr, 1, none⟩ = some (.int .u32 0) := (blk_cell HP.out.rr 1).trans rfl; have hfz0 : w7.frozen? ⟨gr, 0, none⟩ = false := blk_frozen HP.out.rr 0; have hfz1 : w7.frozen? ⟨gr, 1, none⟩ = false := blk_frozen HP.out.rr 1; have HP9 := Aside0.mk (PI.setRd HP.out HR.out.1 HR.out.2 2 (.bool true))))
              refine bodyPost_ret (results_ctt rfl _ _ gr 25 #[.slice none 0 0, .int .u32 0] (0, 0) _ rfl (err_row HP9.out.rr _ _) Try.underlying25 rfl (by kernel_rfl)) rfl ?_
              exact ⟨_, rfl, Kd.S_nil _ _ _ _ _, below_set (below_set HP9.out.bl HP9.out.ger) HP9.out.ger⟩
            · have hE1b := hE1.trans (decide_eq_false hon)
              by_cases hdf : w0 = [100, 101, 102, 97, 117, 108, 116]
              · have hE2b := hE2.trans (decide_eq_true hdf)
                clear hE1 hE2
                go_wp2_with (first | ((with_reducible refine gate_dst (N := 32) rfl ?_); (try (refine gate_guard (by rfl) ?_; dsimp only)); refine box_event ?hg (N := 32) ?hd (cs := #[.string line, .bool false, .bool false]) (t := 65) ?hr ?_; (case hd => rfl); (case hg => rfl); (case hr => first | (go_simp; done) | (go_simp; rfl)); intro g hgx w6 hbox hbx; have n0_ := Aside0.mk (PI.below (by repeat (first | (with_reducible exact HP.out) | (with_reducible refine PI.drewN ?_ _) | (with_reducible refine PI.drew ?_) | (with_reducible refine PI.alloc ?_ _) | exact HP.out)) hbx); have n1_ := Aside0.mk (⟨hbox, by rw [hgx]; exact (PI.bl (by repeat (first | (with_reducible exact HP.out) | (with_reducible refine PI.drewN ?_ _) | (with_reducible refine PI.drew ?_) | (with_reducible refine PI.alloc ?_ _) | exact HP.out))).size⟩ : P.IsS65 w w6 g line false false); have NRG := Aside0.mk (by rw [hgx]; exact Nat.ne_of_lt (blk_lt (PI.rr (by repeat (first | (with_reducible exact HP.out) | (with_reducible refine PI.drewN ?_ _) | (with_reducible refine PI.drew ?_) | (with_reducible refine PI.alloc ?_ _) | exact HP.out)))) : gr ≠ g); have NPG := Aside0.mk (by rw [hgx]; exact Nat.ne_of_lt (blk_lt (PI.pr (by repeat (first | (with_reducible exact HP.out) | (with_reducible refine PI.drewN ?_ _) | (with_reducible refine PI.drew ?_) | (with_reducible refine PI.alloc ?_ _) | exact HP.out)))) : gp ≠ g); clear HP hbx hbox hgx; have HP := n0_; have HR := n1_; clear n0_ n1_) | ((with_reducible refine gate_callee (f := 37) rfl ?_); refine goesL_ (some 34) rfl rfl Try.func37 (by kernel_rfl) rfl #[.pointer (some ⟨g, 0, none⟩)] rfl (by (try simp only [List.map_toArray, List.map_cons, List.map_nil]); first | done | rfl | (simp only [List.length_drop, List.length_take]; rfl)) ?_; (with_reducible refine (policy_reader_word.calls g line false false wd s1 e1 false w _ ?side1 ?side2 A1.out).mono ?_); (case side1 => exact HR.out); (case side2 => exact (PI.bl (by repeat (first | (with_reducible exact HP.out) | (with_reducible refine PI.drewN ?_ _) | (with_reducible refine PI.drew ?_) | (with_reducible refine PI.alloc ?_ _) | exact HP.out)))); rintro e w7 ⟨rfl, hi, hb, hk⟩; refine ⟨_, rfl, ?_⟩; have n0_ := Aside0.mk hi; have n1_ := Aside0.mk (PI.keep (by repeat (first | (with_reducible exact HP.out) | (with_reducible refine PI.drewN ?_ _) | (with_reducible refine PI.drew ?_) | (with_reducible refine PI.alloc ?_ _) | exact HP.out)) hk HR.out.1 hb); clear HR HP hi hb hk; have HR := n0_; have HP := n1_; clear n0_ n1_; have hng1 := NRG.out; have hng2 := NRG.out.symm; have hng3 := NPG.out; have hng4 := NPG.out.symm; have hc0 : w7.cell? ⟨g, 0, none⟩ = some (.string s1) := P.cellS65_0 HR.out.1; have hc1 : w7.cell? ⟨g, 1, none⟩ = some (.bool e1) := P.cellS65_1 HR.out.1; have hc2 : w7.cell? ⟨g, 2, none⟩ = some (.bool false) := P.cellS65_2 HR.out.1; have hf2 : w7.frozen? ⟨g, 2, none⟩ = false := blk_frozen HR.out.1 2; have hcz0 : w7.cell? ⟨gr, 0, none⟩ = some (.slice none 0 0) := (blk_cell HP.out.rr 0).trans rfl; have hcz1 : w7.cell? ⟨gr, 1, none⟩ = some (.int .u32 0) := (blk_cell HP.out.rr 1).trans rfl; have hfz0 : w7.frozen? ⟨gr, 0, none⟩ = false := blk_frozen HP.out.rr 0; have hfz1 : w7.frozen? ⟨gr, 1, none⟩ = false := blk_frozen HP.out.rr 1; have HP9 := Aside0.mk (PI.setRd HP.out HR.out.1 HR.out.2 2 (.bool true))))
                refine bodyPost_ret (results_ctt rfl _ _ gr 25 #[.slice none 0 0, .int .u32 0] (0, 0) _ rfl (err_row HP9.out.rr _ _) Try.underlying25 rfl (by kernel_rfl)) rfl ?_
                exact ⟨_, rfl, Kd.S_nil _ _ _ _ _, below_set (below_set HP9.out.bl HP9.out.ger) HP9.out.ger⟩
              · have hE2b := hE2.trans (decide_eq_false hdf)
                clear hE1 hE2
                go_wp2_with (first | ((with_reducible refine gate_dst (N := 32) rfl ?_); (try (refine gate_guard (by rfl) ?_; dsimp only)); refine box_event ?hg (N := 32) ?hd (cs := #[.string line, .bool false, .bool false]) (t := 65) ?hr ?_; (case hd => rfl); (case hg => rfl); (case hr => first | (go_simp; done) | (go_simp; rfl)); intro g hgx w6 hbox hbx; have n0_ := Aside0.mk (PI.below (by repeat (first | (with_reducible exact HP.out) | (with_reducible refine PI.drewN ?_ _) | (with_reducible refine PI.drew ?_) | (with_reducible refine PI.alloc ?_ _) | exact HP.out)) hbx); have n1_ := Aside0.mk (⟨hbox, by rw [hgx]; exact (PI.bl (by repeat (first | (with_reducible exact HP.out) | (with_reducible refine PI.drewN ?_ _) | (with_reducible refine PI.drew ?_) | (with_reducible refine PI.alloc ?_ _) | exact HP.out))).size⟩ : P.IsS65 w w6 g line false false); have NRG := Aside0.mk (by rw [hgx]; exact Nat.ne_of_lt (blk_lt (PI.rr (by repeat (first | (with_reducible exact HP.out) | (with_reducible refine PI.drewN ?_ _) | (with_reducible refine PI.drew ?_) | (with_reducible refine PI.alloc ?_ _) | exact HP.out)))) : gr ≠ g); have NPG := Aside0.mk (by rw [hgx]; exact Nat.ne_of_lt (blk_lt (PI.pr (by repeat (first | (with_reducible exact HP.out) | (with_reducible refine PI.drewN ?_ _) | (with_reducible refine PI.drew ?_) | (with_reducible refine PI.alloc ?_ _) | exact HP.out)))) : gp ≠ g); clear HP hbx hbox hgx; have HP := n0_; have HR := n1_; clear n0_ n1_) | ((with_reducible refine gate_callee (f := 37) rfl ?_); refine goesL_ (some 34) rfl rfl Try.func37 (by kernel_rfl) rfl #[.pointer (some ⟨g, 0, none⟩)] rfl (by (try simp only [List.map_toArray, List.map_cons, List.map_nil]); first | done | rfl | (simp only [List.length_drop, List.length_take]; rfl)) ?_; (with_reducible refine (policy_reader_word.calls g line false false wd s1 e1 false w _ ?side1 ?side2 A1.out).mono ?_); (case side1 => exact HR.out); (case side2 => exact (PI.bl (by repeat (first | (with_reducible exact HP.out) | (with_reducible refine PI.drewN ?_ _) | (with_reducible refine PI.drew ?_) | (with_reducible refine PI.alloc ?_ _) | exact HP.out)))); rintro e w7 ⟨rfl, hi, hb, hk⟩; refine ⟨_, rfl, ?_⟩; have n0_ := Aside0.mk hi; have n1_ := Aside0.mk (PI.keep (by repeat (first | (with_reducible exact HP.out) | (with_reducible refine PI.drewN ?_ _) | (with_reducible refine PI.drew ?_) | (with_reducible refine PI.alloc ?_ _) | exact HP.out)) hk HR.out.1 hb); clear HR HP hi hb hk; have HR := n0_; have HP := n1_; clear n0_ n1_; have hng1 := NRG.out; have hng2 := NRG.out.symm; have hng3 := NPG.out; have hng4 := NPG.out.symm; have hc0 : w7.cell? ⟨g, 0, none⟩ = some (.string s1) := P.cellS65_0 HR.out.1; have hc1 : w7.cell? ⟨g, 1, none⟩ = some (.bool e1) := P.cellS65_1 HR.out.1; have hc2 : w7.cell? ⟨g, 2, none⟩ = some (.bool false) := P.cellS65_2 HR.out.1; have hf2 : w7.frozen? ⟨g, 2, none⟩ = false := blk_frozen HR.out.1 2; have hcz0 : w7.cell? ⟨gr, 0, none⟩ = some (.slice none 0 0) := (blk_cell HP.out.rr 0).trans rfl; have hcz1 : w7.cell? ⟨gr, 1, none⟩ = some (.int .u32 0) := (blk_cell HP.out.rr 1).trans rfl; have hfz0 : w7.frozen? ⟨gr, 0, none⟩ = false := blk_frozen HP.out.rr 0; have hfz1 : w7.frozen? ⟨gr, 1, none⟩ = false := blk_frozen HP.out.rr 1; have HP9 := Aside0.mk (PI.setRd HP.out HR.out.1 HR.out.2 2 (.bool true))))
                refine bodyPost_ret (results_ctt rfl _ _ gr 25 #[.slice none 0 0, .int .u32 0] (0, 0) _ rfl (err_row HP9.out.rr _ _) Try.underlying25 rfl (by kernel_rfl)) rfl ?_
                exact ⟨_, rfl, Kd.S_nil _ _ _ _ _, below_set (below_set HP9.out.bl HP9.out.ger) HP9.out.ger⟩
          | false =>
            have hst := HST.out
            rw [if_neg (by decide)] at hst
            clear HST
            by_cases hon : w0 = [111, 110]
            · have hE1b := hE1.trans (decide_eq_true hon)
              have hE2b := hE2.trans (decide_eq_false (by rw [hon]; decide))
              clear hE1 hE2
              rw [show lineW w0 ws = (ruleV ws).map Sum.inl by unfold lineW; rw [if_pos hon]] at hst
              obtain ⟨Ao, co, rfl⟩ := Kd.S_slice HP.out.sl
              obtain ⟨k, x0, x1, x2, x3, s2, e2, b2, A20, hrule⟩ := rest_ev s1 e1 ws HQ1.out HY1.out
              have A2 := Aside0.mk A20
              clear A20
              obtain ⟨L2, hL2⟩ : ∃ y, y = L ++ [(⟨x0, x1, x2, x3⟩ : P.S40)] := ⟨_, rfl⟩
              have HL2 := Aside0.mk hL2
              cases b2 with
              | true =>
                have hrv : ruleV ws = none := by
                  cases h : ruleV ws with
                  | none => rfl
                  | some x => rw [h] at hrule; simp at hrule
                rw [hrv] at hst
                subst hst
                clear hrule hrv hL2
                go_wp2_with (first | ((with_reducible refine gate_dst (N := 32) rfl ?_); (try (refine gate_guard (by rfl) ?_; dsimp only)); refine box_event ?hg (N := 32) ?hd (cs := #[.string line, .bool false, .bool false]) (t := 65) ?hr ?_; (case hd => rfl); (case hg => rfl); (case hr => first | (go_simp; done) | (go_simp; rfl)); intro g hgx w6 hbox hbx; have n0_ := Aside0.mk (PI.below (by repeat (first | (with_reducible exact HP.out) | (with_reducible refine PI.drewN ?_ _) | (with_reducible refine PI.drew ?_) | (with_reducible refine PI.alloc ?_ _) | exact HP.out)) hbx); have n1_ := Aside0.mk (⟨hbox, by rw [hgx]; exact (PI.bl (by repeat (first | (with_reducible exact HP.out) | (with_reducible refine PI.drewN ?_ _) | (with_reducible refine PI.drew ?_) | (with_reducible refine PI.alloc ?_ _) | exact HP.out))).size⟩ : P.IsS65 w w6 g line false false); have NRG := Aside0.mk (by rw [hgx]; exact Nat.ne_of_lt (blk_lt (PI.rr (by repeat (first | (with_reducible exact HP.out) | (with_reducible refine PI.drewN ?_ _) | (with_reducible refine PI.drew ?_) | (with_reducible refine PI.alloc ?_ _) | exact HP.out)))) : gr ≠ g); have NPG := Aside0.mk (by rw [hgx]; exact Nat.ne_of_lt (blk_lt (PI.pr (by repeat (first | (with_reducible exact HP.out) | (with_reducible refine PI.drewN ?_ _) | (with_reducible refine PI.drew ?_) | (with_reducible refine PI.alloc ?_ _) | exact HP.out)))) : gp ≠ g); clear HP hbx hbox hgx; have HP := n0_; have HR := n1_; clear n0_ n1_) | ((with_reducible refine gate_callee (f := 37) rfl ?_); refine goesL_ (some 34) rfl rfl Try.func37 (by kernel_rfl) rfl #[.pointer (some ⟨g, 0, none⟩)] rfl (by (try simp only [List.map_toArray, List.map_cons, List.map_nil]); first | done | rfl | (simp only [List.length_drop, List.length_take]; rfl)) ?_; (with_reducible refine (policy_reader_word.calls g line false false wd s1 e1 false w _ ?side1 ?side2 A1.out).mono ?_); (case side1 => exact HR.out); (case side2 => exact (PI.bl (by repeat (first | (with_reducible exact HP.out) | (with_reducible refine PI.drewN ?_ _) | (with_reducible refine PI.drew ?_) | (with_reducible refine PI.alloc ?_ _) | exact HP.out)))); rintro e w7 ⟨rfl, hi, hb, hk⟩; refine ⟨_, rfl, ?_⟩; have n0_ := Aside0.mk hi; have n1_ := Aside0.mk (PI.keep (by repeat (first | (with_reducible exact HP.out) | (with_reducible refine PI.drewN ?_ _) | (with_reducible refine PI.drew ?_) | (with_reducible refine PI.alloc ?_ _) | exact HP.out)) hk HR.out.1 hb); clear HR HP hi hb hk; have HR := n0_; have HP := n1_; clear n0_ n1_) | ((with_reducible refine gate_callee (f := 38) rfl ?_); refine goesL_ (some 46) rfl rfl Try.func38 (by kernel_rfl) rfl #[.pointer (some ⟨g, 0, none⟩)] rfl (by (try simp only [List.map_toArray, List.map_cons, List.map_nil]); first | done | rfl | (simp only [List.length_drop, List.length_take]; rfl)) ?_; (with_reducible refine (P.policy_reader_rest.calls k g s1 e1 false x0 x1 x2 x3 s2 e2 true w _ ?side1 ?side2 A2.out).mono ?_); (case side1 => exact HR.out); (case side2 => exact (PI.bl (by repeat (first | (with_reducible exact HP.out) | (with_reducible refine PI.drewN ?_ _) | (with_reducible refine PI.drew ?_) | (with_reducible refine PI.alloc ?_ _) | exact HP.out)))); rintro e w8 ⟨v2, rfl, hq, hi, hb, hk⟩; refine ⟨_, rfl, ?_⟩; obtain ⟨Ax, cx, ex⟩ := Kd.R_slice hq; subst ex; have n0_ := Aside0.mk hi; have n1_ := Aside0.mk (PI.keep (by repeat (first | (with_reducible exact HP.out) | (with_reducible refine PI.drewN ?_ _) | (with_reducible refine PI.drew ?_) | (with_reducible refine PI.alloc ?_ _) | exact HP.out)) hk HR.out.1 hb); have n2_ : Aside0 (Kd.S P.k40 40 w8 w.heap.size (fun k_ => some k_ ≠ (.slice Ax x2.length cx : Value).ownBlock) (.slice Ao L.length co) L) := ⟨Kd.S_mono (Kd.S_told (Kd.S_oldK (Kd.S_types (PI.sl (by repeat (first | (with_reducible exact HP.out) | (with_reducible refine PI.drewN ?_ _) | (with_reducible refine PI.drew ?_) | (with_reducible refine PI.alloc ?_ _) | exact HP.out))) HR.out.1 (by decide)) hk) (Kd.R_base hq)) (fun _ h_ => h_.1.2)⟩; have n3_ : Aside0 (Kd.R P.k61 61 w8 w.heap.size (fun _ => True) (.slice Ax x2.length cx) x2) := ⟨Kd.R_lower hq (PI.bl (by repeat (first | (with_reducible exact HP.out) | (with_reducible refine PI.drewN ?_ _) | (with_reducible refine PI.drew ?_) | (with_reducible refine PI.alloc ?_ _) | exact HP.out))).size⟩; clear HR HP hi hb hk hq; have HR := n0_; have HP := n1_; have HS := n2_; have HQ := n3_; clear n0_ n1_ n2_ n3_) | ((with_reducible refine gate_dst (N := 12) rfl ?_); (try (refine gate_guard (by rfl) ?_; dsimp only)); refine box_event ?hg (N := 12) ?hd (cs := #[.int .u32 0, .int .u32 0, .slice none 0 0, .int .u32 0]) (t := 40) ?hr ?_; (case hd => rfl); (case hg => rfl); (case hr => first | (go_simp; done) | (go_simp; rfl)); intro gx hgx w9 hbox hbx; have HX : Aside0 (Below w8.heap.size w8 w9) := ⟨hbx⟩; have HGX : Aside0 (w8.heap.size ≤ gx) := ⟨by rw [hgx]; exact Nat.le_refl _⟩; have BKX := Aside0.mk hbox; clear hbx hbox hgx; have hcx0 : w9.cell? ⟨gx, 0, none⟩ = some (.int .u32 0) := (blk_cell BKX.out 0).trans rfl; have hfx0 := blk_frozen BKX.out 0; have hcx1 : w9.cell? ⟨gx, 1, none⟩ = some (.int .u32 0) := (blk_cell BKX.out 1).trans rfl; have hfx1 := blk_frozen BKX.out 1; have hcx2 : w9.cell? ⟨gx, 2, none⟩ = some (.slice none 0 0) := (blk_cell BKX.out 2).trans rfl; have hfx2 := blk_frozen BKX.out 2; have hcx3 : w9.cell? ⟨gx, 3, none⟩ = some (.int .u32 0) := (blk_cell BKX.out 3).trans rfl; have hfx3 := blk_frozen BKX.out 3) | ((with_reducible refine gate_store (t := 40) (p := 12) rfl ?_); refine store_event (t := 40) (p := 12) (v := ?vo_) (w1 := ((((w9.setCell ⟨gx, 0, none⟩ (.int .u32 x0)).setCell ⟨gx, 1, none⟩ (.int .u32 x1)).setCell ⟨gx, 2, none⟩ (.slice Ax x2.length cx)).setCell ⟨gx, 3, none⟩ (.int .u32 x3))) ?hg ?ho ?hn ?hr ?_; (case ho => rfl); (case hg => rfl); (case hn => rfl); (case hr => first | (go_simp; done) | (go_simp; rfl)); intro w10 hw; have n0_ : Aside0 (Below w8.heap.size w8 w10) := ⟨by rw [hw]; exact below_set (below_set (below_set (below_set HX.out HGX.out) HGX.out) HGX.out) HGX.out⟩; have n1_ : Aside0 (w10.heap[gx]? = some (.cells #[.int .u32 x0, .int .u32 x1, .slice Ax x2.length cx, .int .u32 x3] 40 (0, 0))) := ⟨by rw [hw]; exact blk_put (cs := #[.int .u32 x0, .int .u32 x1, .slice Ax x2.length cx, .int .u32 0]) (blk_put (cs := #[.int .u32 x0, .int .u32 x1, .slice none 0 0, .int .u32 0]) (blk_put (cs := #[.int .u32 x0, .int .u32 0, .slice none 0 0, .int .u32 0]) (blk_put (cs := #[.int .u32 0, .int .u32 0, .slice none 0 0, .int .u32 0]) BKX.out 0 _ rfl) 1 _ rfl) 2 _ rfl) 3 _ rfl⟩; have NGX : Aside0 (gx ≠ g) := ⟨fun e_ => by have := P.IsS65.lt HR.out; have := HGX.out; omega⟩; have NPX : Aside0 (gx ≠ gp) := ⟨fun e_ => by have := blk_lt HP.out.pr; have := HGX.out; omega⟩; have NRX : Aside0 (gx ≠ gr) := ⟨fun e_ => by have := blk_lt HP.out.rr; have := HGX.out; omega⟩; have n2_ := Aside0.mk (PI.below HP.out n0_.out); have n3_ := Aside0.mk (P.IsS65.below HR.out n0_.out); have n4_ := Aside0.mk (Kd.S_below HS.out n0_.out); have n5_ := Aside0.mk (Kd.R_below HQ.out n0_.out); clear hw HX HGX BKX HP HR HS HQ n0_; have BKX := n1_; have HP := n2_; have HR := n3_; have HS := n4_; have HQ := n5_; clear n1_ n2_ n3_ n4_ n5_; clear hcx0 hcx1 hcx2 hcx3 hfx0 hfx1 hfx2 hfx3; have hng1 := NRG.out; have hng2 := NRG.out.symm; have hng3 := NPG.out; have hng4 := NPG.out.symm; have hnx1 := NGX.out; have hnx2 := NGX.out.symm; have hnx3 := NPX.out; have hnx4 := NPX.out.symm; have hnx5 := NRX.out; have hnx6 := NRX.out.symm; have hrp := (PI.ne HP.out); have hrp2 := (PI.ne HP.out).symm; have hc0 : w10.cell? ⟨g, 0, none⟩ = some (.string s2) := P.cellS65_0 HR.out.1; have hc1 : w10.cell? ⟨g, 1, none⟩ = some (.bool e2) := P.cellS65_1 HR.out.1; have hc2 : w10.cell? ⟨g, 2, none⟩ = some (.bool true) := P.cellS65_2 HR.out.1; have hf2 : w10.frozen? ⟨g, 2, none⟩ = false := blk_frozen HR.out.1 2; have hcz0 : w10.cell? ⟨gr, 0, none⟩ = some (.slice none 0 0) := (blk_cell HP.out.rr 0).trans rfl; have hcz1 : w10.cell? ⟨gr, 1, none⟩ = some (.int .u32 0) := (blk_cell HP.out.rr 1).trans rfl; have hfz0 : w10.frozen? ⟨gr, 0, none⟩ = false := blk_frozen HP.out.rr 0; have hfz1 : w10.frozen? ⟨gr, 1, none⟩ = false := blk_frozen HP.out.rr 1; have hcp0 : w10.cell? ⟨gp, 0, none⟩ = some (.slice Ao L.length co) := (blk_cell HP.out.pr 0).trans rfl; have hfp0 : w10.frozen? ⟨gp, 0, none⟩ = false := blk_frozen HP.out.pr 0; have hcx0 : w10.cell? ⟨gx, 0, none⟩ = some (.int .u32 x0) := (blk_cell BKX.out 0).trans rfl; have hcx1 : w10.cell? ⟨gx, 1, none⟩ = some (.int .u32 x1) := (blk_cell BKX.out 1).trans rfl; have hcx2 : w10.cell? ⟨gx, 2, none⟩ = some (.slice Ax x2.length cx) := (blk_cell BKX.out 2).trans rfl; have hcx3 : w10.cell? ⟨gx, 3, none⟩ = some (.int .u32 x3) := (blk_cell BKX.out 3).trans rfl) | ((with_reducible refine gate_builtin (b := .append) (xs := #[.tmp 61, .tmp 63]) rfl ?_); at_builtin; refine Kd.S_append P.k40 (w0 := w) w.heap.size rfl (.tmp 61) (.tmp 63) 22 40 (.agg #[(.int .u32 0), (.int .u32 0), (.slice none 0 0), (.int .u32 0)]) 40 rfl Try.underlying22 P.info40 rfl (by decide) (by omega) (.slice Ao L.length co) L (⟨x0, x1, x2, x3⟩ : P.S40) [.int .u32 x0, .int .u32 x1, .slice Ax x2.length cx, .int .u32 x3] (fun _ => True) (fun k_ => some k_ = (.slice Ax x2.length cx : Value).ownBlock) rfl rfl ?aP (fun k_ hk_ => ⟨trivial, ((Kd.R_apart' HQ.out (Kd.S_typed HS.out) (by decide)).1 k_ hk_.symm).2⟩) (fun _ _ => trivial) ?aO ?aB ?aS ?aL ?_; (case aP => exact P.k40_mkM _ _ _ (⟨x0, x1, x2, x3⟩ : P.S40) (Kd.R_tight rfl HQ.out)); (case aB => exact (PI.bl (by repeat (first | (with_reducible exact HP.out) | (with_reducible refine PI.drewN ?_ _) | (with_reducible refine PI.drew ?_) | (with_reducible refine PI.alloc ?_ _) | exact HP.out)))); (case aO => exact Kd.S_mono HS.out (fun k_ hk_ => ⟨trivial, fun e_ => hk_ e_⟩)); (case aS => exact (PI.bl (by repeat (first | (with_reducible exact HP.out) | (with_reducible refine PI.drewN ?_ _) | (with_reducible refine PI.drew ?_) | (with_reducible refine PI.alloc ?_ _) | exact HP.out))).size); (case aL => omega); intro v3 w11 ho hb hg hat; rw [← HL2.out] at ho; obtain ⟨A3, c3, e3⟩ := Kd.S_slice ho; subst e3; have HP12 := Aside0.mk (PI.setS HP.out hg ho hb); have n0_ := Aside0.mk (P.IsS65.grown HR.out hg (P.IsS65.own_neS HR.out HS.out (by decide))); have n1_ := Aside0.mk (blk_grown HP.out.pr hg (Kd.S_ne HP.out.sl HP.out.pr (by decide))); have n2_ := Aside0.mk (blk_grown HP.out.rr hg (Kd.S_ne HP.out.sl HP.out.rr (by decide))); clear HR HP HS HQ ho hb hg hat hc0 hc1 hc2 hf2 hcz0 hcz1 hfz0 hfz1 hcp0 hfp0 hcx0 hcx1 hcx2 hcx3; have HR := n0_; clear n0_; have hc0 : w11.cell? ⟨g, 0, none⟩ = some (.string s2) := P.cellS65_0 HR.out.1; have hc1 : w11.cell? ⟨g, 1, none⟩ = some (.bool e2) := P.cellS65_1 HR.out.1; have hc2 : w11.cell? ⟨g, 2, none⟩ = some (.bool true) := P.cellS65_2 HR.out.1; have hf2 : w11.frozen? ⟨g, 2, none⟩ = false := blk_frozen HR.out.1 2; have hcp0 : w11.cell? ⟨gp, 0, none⟩ = some (.slice Ao L.length co) := (blk_cell n1_.out 0).trans rfl; have hfp0 : w11.frozen? ⟨gp, 0, none⟩ = false := blk_frozen n1_.out 0; have hcz0 : w11.cell? ⟨gr, 0, none⟩ = some (.slice none 0 0) := (blk_cell n2_.out 0).trans rfl; have hcz1 : w11.cell? ⟨gr, 1, none⟩ = some (.int .u32 0) := (blk_cell n2_.out 1).trans rfl; have hfz0 : w11.frozen? ⟨gr, 0, none⟩ = false := blk_frozen n2_.out 0; have hfz1 : w11.frozen? ⟨gr, 1, none⟩ = false := blk_frozen n2_.out 1; clear n1_ n2_))
                all_goals (refine bodyPost_ret (results_ctt rfl _ _ gr 25 #[.slice none 0 0, .int .u32 0] (0, 0) _ rfl (err_row HP12.out.rr _ _) Try.underlying25 rfl (by kernel_rfl)) rfl ?_; exact ⟨_, rfl, Kd.S_nil _ _ _ _ _, below_set (below_set HP12.out.bl HP12.out.ger) HP12.out.ger⟩)
              | false =>
                have hrv : ruleV ws = some (⟨x0, x1, x2, x3⟩ : P.S40) := by
                  cases h : ruleV ws with
                  | none => rw [h] at hrule; simp at hrule
                  | some x => rw [h] at hrule; exact congrArg some hrule.2.symm
                rw [hrv] at hst
                simp only [Option.map_some] at hst
                clear hrule hrv
                by_cases h64 : L.length = 64
                · rw [if_pos h64] at hst
                  subst hst
                  clear hL2
                  have h64a : ((L.length : Int) == 64) = true := by rw [h64]; rfl
                  have h64b : decide ((L.length : Int) = 64) = true := by rw [h64]; rfl
                  have h64c : (L.length == 64) = true := by rw [h64]; rfl
                  clear h64
                  go_wp2_with (first | ((with_reducible refine gate_dst (N := 32) rfl ?_); (try (refine gate_guard (by rfl) ?_; dsimp only)); refine box_event ?hg (N := 32) ?hd (cs := #[.string line, .bool false, .bool false]) (t := 65) ?hr ?_; (case hd => rfl); (case hg => rfl); (case hr => first | (go_simp; done) | (go_simp; rfl)); intro g hgx w6 hbox hbx; have n0_ := Aside0.mk (PI.below (by repeat (first | (with_reducible exact HP.out) | (with_reducible refine PI.drewN ?_ _) | (with_reducible refine PI.drew ?_) | (with_reducible refine PI.alloc ?_ _) | exact HP.out)) hbx); have n1_ := Aside0.mk (⟨hbox, by rw [hgx]; exact (PI.bl (by repeat (first | (with_reducible exact HP.out) | (with_reducible refine PI.drewN ?_ _) | (with_reducible refine PI.drew ?_) | (with_reducible refine PI.alloc ?_ _) | exact HP.out))).size⟩ : P.IsS65 w w6 g line false false); have NRG := Aside0.mk (by rw [hgx]; exact Nat.ne_of_lt (blk_lt (PI.rr (by repeat (first | (with_reducible exact HP.out) | (with_reducible refine PI.drewN ?_ _) | (with_reducible refine PI.drew ?_) | (with_reducible refine PI.alloc ?_ _) | exact HP.out)))) : gr ≠ g); have NPG := Aside0.mk (by rw [hgx]; exact Nat.ne_of_lt (blk_lt (PI.pr (by repeat (first | (with_reducible exact HP.out) | (with_reducible refine PI.drewN ?_ _) | (with_reducible refine PI.drew ?_) | (with_reducible refine PI.alloc ?_ _) | exact HP.out)))) : gp ≠ g); clear HP hbx hbox hgx; have HP := n0_; have HR := n1_; clear n0_ n1_) | ((with_reducible refine gate_callee (f := 37) rfl ?_); refine goesL_ (some 34) rfl rfl Try.func37 (by kernel_rfl) rfl #[.pointer (some ⟨g, 0, none⟩)] rfl (by (try simp only [List.map_toArray, List.map_cons, List.map_nil]); first | done | rfl | (simp only [List.length_drop, List.length_take]; rfl)) ?_; (with_reducible refine (policy_reader_word.calls g line false false wd s1 e1 false w _ ?side1 ?side2 A1.out).mono ?_); (case side1 => exact HR.out); (case side2 => exact (PI.bl (by repeat (first | (with_reducible exact HP.out) | (with_reducible refine PI.drewN ?_ _) | (with_reducible refine PI.drew ?_) | (with_reducible refine PI.alloc ?_ _) | exact HP.out)))); rintro e w7 ⟨rfl, hi, hb, hk⟩; refine ⟨_, rfl, ?_⟩; have n0_ := Aside0.mk hi; have n1_ := Aside0.mk (PI.keep (by repeat (first | (with_reducible exact HP.out) | (with_reducible refine PI.drewN ?_ _) | (with_reducible refine PI.drew ?_) | (with_reducible refine PI.alloc ?_ _) | exact HP.out)) hk HR.out.1 hb); clear HR HP hi hb hk; have HR := n0_; have HP := n1_; clear n0_ n1_) | ((with_reducible refine gate_callee (f := 38) rfl ?_); refine goesL_ (some 46) rfl rfl Try.func38 (by kernel_rfl) rfl #[.pointer (some ⟨g, 0, none⟩)] rfl (by (try simp only [List.map_toArray, List.map_cons, List.map_nil]); first | done | rfl | (simp only [List.length_drop, List.length_take]; rfl)) ?_; (with_reducible refine (P.policy_reader_rest.calls k g s1 e1 false x0 x1 x2 x3 s2 e2 false w _ ?side1 ?side2 A2.out).mono ?_); (case side1 => exact HR.out); (case side2 => exact (PI.bl (by repeat (first | (with_reducible exact HP.out) | (with_reducible refine PI.drewN ?_ _) | (with_reducible refine PI.drew ?_) | (with_reducible refine PI.alloc ?_ _) | exact HP.out)))); rintro e w8 ⟨v2, rfl, hq, hi, hb, hk⟩; refine ⟨_, rfl, ?_⟩; obtain ⟨Ax, cx, ex⟩ := Kd.R_slice hq; subst ex; have n0_ := Aside0.mk hi; have n1_ := Aside0.mk (PI.keep (by repeat (first | (with_reducible exact HP.out) | (with_reducible refine PI.drewN ?_ _) | (with_reducible refine PI.drew ?_) | (with_reducible refine PI.alloc ?_ _) | exact HP.out)) hk HR.out.1 hb); have n2_ : Aside0 (Kd.S P.k40 40 w8 w.heap.size (fun k_ => some k_ ≠ (.slice Ax x2.length cx : Value).ownBlock) (.slice Ao L.length co) L) := ⟨Kd.S_mono (Kd.S_told (Kd.S_oldK (Kd.S_types (PI.sl (by repeat (first | (with_reducible exact HP.out) | (with_reducible refine PI.drewN ?_ _) | (with_reducible refine PI.drew ?_) | (with_reducible refine PI.alloc ?_ _) | exact HP.out))) HR.out.1 (by decide)) hk) (Kd.R_base hq)) (fun _ h_ => h_.1.2)⟩; have n3_ : Aside0 (Kd.R P.k61 61 w8 w.heap.size (fun _ => True) (.slice Ax x2.length cx) x2) := ⟨Kd.R_lower hq (PI.bl (by repeat (first | (with_reducible exact HP.out) | (with_reducible refine PI.drewN ?_ _) | (with_reducible refine PI.drew ?_) | (with_reducible refine PI.alloc ?_ _) | exact HP.out))).size⟩; clear HR HP hi hb hk hq; have HR := n0_; have HP := n1_; have HS := n2_; have HQ := n3_; clear n0_ n1_ n2_ n3_) | ((with_reducible refine gate_dst (N := 12) rfl ?_); (try (refine gate_guard (by rfl) ?_; dsimp only)); refine box_event ?hg (N := 12) ?hd (cs := #[.int .u32 0, .int .u32 0, .slice none 0 0, .int .u32 0]) (t := 40) ?hr ?_; (case hd => rfl); (case hg => rfl); (case hr => first | (go_simp; done) | (go_simp; rfl)); intro gx hgx w9 hbox hbx; have HX : Aside0 (Below w8.heap.size w8 w9) := ⟨hbx⟩; have HGX : Aside0 (w8.heap.size ≤ gx) := ⟨by rw [hgx]; exact Nat.le_refl _⟩; have BKX := Aside0.mk hbox; clear hbx hbox hgx; have hcx0 : w9.cell? ⟨gx, 0, none⟩ = some (.int .u32 0) := (blk_cell BKX.out 0).trans rfl; have hfx0 := blk_frozen BKX.out 0; have hcx1 : w9.cell? ⟨gx, 1, none⟩ = some (.int .u32 0) := (blk_cell BKX.out 1).trans rfl; have hfx1 := blk_frozen BKX.out 1; have hcx2 : w9.cell? ⟨gx, 2, none⟩ = some (.slice none 0 0) := (blk_cell BKX.out 2).trans rfl; have hfx2 := blk_frozen BKX.out 2; have hcx3 : w9.cell? ⟨gx, 3, none⟩ = some (.int .u32 0) := (blk_cell BKX.out 3).trans rfl; have hfx3 := blk_frozen BKX.out 3) | ((with_reducible refine gate_store (t := 40) (p := 12) rfl ?_); refine store_event (t := 40) (p := 12) (v := ?vo_) (w1 := ((((w9.setCell ⟨gx, 0, none⟩ (.int .u32 x0)).setCell ⟨gx, 1, none⟩ (.int .u32 x1)).setCell ⟨gx, 2, none⟩ (.slice Ax x2.length cx)).setCell ⟨gx, 3, none⟩ (.int .u32 x3))) ?hg ?ho ?hn ?hr ?_; (case ho => rfl); (case hg => rfl); (case hn => rfl); (case hr => first | (go_simp; done) | (go_simp; rfl)); intro w10 hw; have n0_ : Aside0 (Below w8.heap.size w8 w10) := ⟨by rw [hw]; exact below_set (below_set (below_set (below_set HX.out HGX.out) HGX.out) HGX.out) HGX.out⟩; have n1_ : Aside0 (w10.heap[gx]? = some (.cells #[.int .u32 x0, .int .u32 x1, .slice Ax x2.length cx, .int .u32 x3] 40 (0, 0))) := ⟨by rw [hw]; exact blk_put (cs := #[.int .u32 x0, .int .u32 x1, .slice Ax x2.length cx, .int .u32 0]) (blk_put (cs := #[.int .u32 x0, .int .u32 x1, .slice none 0 0, .int .u32 0]) (blk_put (cs := #[.int .u32 x0, .int .u32 0, .slice none 0 0, .int .u32 0]) (blk_put (cs := #[.int .u32 0, .int .u32 0, .slice none 0 0, .int .u32 0]) BKX.out 0 _ rfl) 1 _ rfl) 2 _ rfl) 3 _ rfl⟩; have NGX : Aside0 (gx ≠ g) := ⟨fun e_ => by have := P.IsS65.lt HR.out; have := HGX.out; omega⟩; have NPX : Aside0 (gx ≠ gp) := ⟨fun e_ => by have := blk_lt HP.out.pr; have := HGX.out; omega⟩; have NRX : Aside0 (gx ≠ gr) := ⟨fun e_ => by have := blk_lt HP.out.rr; have := HGX.out; omega⟩; have n2_ := Aside0.mk (PI.below HP.out n0_.out); have n3_ := Aside0.mk (P.IsS65.below HR.out n0_.out); have n4_ := Aside0.mk (Kd.S_below HS.out n0_.out); have n5_ := Aside0.mk (Kd.R_below HQ.out n0_.out); clear hw HX HGX BKX HP HR HS HQ n0_; have BKX := n1_; have HP := n2_; have HR := n3_; have HS := n4_; have HQ := n5_; clear n1_ n2_ n3_ n4_ n5_; clear hcx0 hcx1 hcx2 hcx3 hfx0 hfx1 hfx2 hfx3; have hng1 := NRG.out; have hng2 := NRG.out.symm; have hng3 := NPG.out; have hng4 := NPG.out.symm; have hnx1 := NGX.out; have hnx2 := NGX.out.symm; have hnx3 := NPX.out; have hnx4 := NPX.out.symm; have hnx5 := NRX.out; have hnx6 := NRX.out.symm; have hrp := (PI.ne HP.out); have hrp2 := (PI.ne HP.out).symm; have hc0 : w10.cell? ⟨g, 0, none⟩ = some (.string s2) := P.cellS65_0 HR.out.1; have hc1 : w10.cell? ⟨g, 1, none⟩ = some (.bool e2) := P.cellS65_1 HR.out.1; have hc2 : w10.cell? ⟨g, 2, none⟩ = some (.bool false) := P.cellS65_2 HR.out.1; have hf2 : w10.frozen? ⟨g, 2, none⟩ = false := blk_frozen HR.out.1 2; have hcz0 : w10.cell? ⟨gr, 0, none⟩ = some (.slice none 0 0) := (blk_cell HP.out.rr 0).trans rfl; have hcz1 : w10.cell? ⟨gr, 1, none⟩ = some (.int .u32 0) := (blk_cell HP.out.rr 1).trans rfl; have hfz0 : w10.frozen? ⟨gr, 0, none⟩ = false := blk_frozen HP.out.rr 0; have hfz1 : w10.frozen? ⟨gr, 1, none⟩ = false := blk_frozen HP.out.rr 1; have hcp0 : w10.cell? ⟨gp, 0, none⟩ = some (.slice Ao L.length co) := (blk_cell HP.out.pr 0).trans rfl; have hfp0 : w10.frozen? ⟨gp, 0, none⟩ = false := blk_frozen HP.out.pr 0; have hcx0 : w10.cell? ⟨gx, 0, none⟩ = some (.int .u32 x0) := (blk_cell BKX.out 0).trans rfl; have hcx1 : w10.cell? ⟨gx, 1, none⟩ = some (.int .u32 x1) := (blk_cell BKX.out 1).trans rfl; have hcx2 : w10.cell? ⟨gx, 2, none⟩ = some (.slice Ax x2.length cx) := (blk_cell BKX.out 2).trans rfl; have hcx3 : w10.cell? ⟨gx, 3, none⟩ = some (.int .u32 x3) := (blk_cell BKX.out 3).trans rfl) | ((with_reducible refine gate_builtin (b := .append) (xs := #[.tmp 61, .tmp 63]) rfl ?_); at_builtin; refine Kd.S_append P.k40 (w0 := w) w.heap.size rfl (.tmp 61) (.tmp 63) 22 40 (.agg #[(.int .u32 0), (.int .u32 0), (.slice none 0 0), (.int .u32 0)]) 40 rfl Try.underlying22 P.info40 rfl (by decide) (by omega) (.slice Ao L.length co) L (⟨x0, x1, x2, x3⟩ : P.S40) [.int .u32 x0, .int .u32 x1, .slice Ax x2.length cx, .int .u32 x3] (fun _ => True) (fun k_ => some k_ = (.slice Ax x2.length cx : Value).ownBlock) rfl rfl ?aP (fun k_ hk_ => ⟨trivial, ((Kd.R_apart' HQ.out (Kd.S_typed HS.out) (by decide)).1 k_ hk_.symm).2⟩) (fun _ _ => trivial) ?aO ?aB ?aS ?aL ?_; (case aP => exact P.k40_mkM _ _ _ (⟨x0, x1, x2, x3⟩ : P.S40) (Kd.R_tight rfl HQ.out)); (case aB => exact (PI.bl (by repeat (first | (with_reducible exact HP.out) | (with_reducible refine PI.drewN ?_ _) | (with_reducible refine PI.drew ?_) | (with_reducible refine PI.alloc ?_ _) | exact HP.out)))); (case aO => exact Kd.S_mono HS.out (fun k_ hk_ => ⟨trivial, fun e_ => hk_ e_⟩)); (case aS => exact (PI.bl (by repeat (first | (with_reducible exact HP.out) | (with_reducible refine PI.drewN ?_ _) | (with_reducible refine PI.drew ?_) | (with_reducible refine PI.alloc ?_ _) | exact HP.out))).size); (case aL => omega); intro v3 w11 ho hb hg hat; rw [← HL2.out] at ho; obtain ⟨A3, c3, e3⟩ := Kd.S_slice ho; subst e3; have HP12 := Aside0.mk (PI.setS HP.out hg ho hb); have n0_ := Aside0.mk (P.IsS65.grown HR.out hg (P.IsS65.own_neS HR.out HS.out (by decide))); have n1_ := Aside0.mk (blk_grown HP.out.pr hg (Kd.S_ne HP.out.sl HP.out.pr (by decide))); have n2_ := Aside0.mk (blk_grown HP.out.rr hg (Kd.S_ne HP.out.sl HP.out.rr (by decide))); clear HR HP HS HQ ho hb hg hat hc0 hc1 hc2 hf2 hcz0 hcz1 hfz0 hfz1 hcp0 hfp0 hcx0 hcx1 hcx2 hcx3; have HR := n0_; clear n0_; have hc0 : w11.cell? ⟨g, 0, none⟩ = some (.string s2) := P.cellS65_0 HR.out.1; have hc1 : w11.cell? ⟨g, 1, none⟩ = some (.bool e2) := P.cellS65_1 HR.out.1; have hc2 : w11.cell? ⟨g, 2, none⟩ = some (.bool false) := P.cellS65_2 HR.out.1; have hf2 : w11.frozen? ⟨g, 2, none⟩ = false := blk_frozen HR.out.1 2; have hcp0 : w11.cell? ⟨gp, 0, none⟩ = some (.slice Ao L.length co) := (blk_cell n1_.out 0).trans rfl; have hfp0 : w11.frozen? ⟨gp, 0, none⟩ = false := blk_frozen n1_.out 0; have hcz0 : w11.cell? ⟨gr, 0, none⟩ = some (.slice none 0 0) := (blk_cell n2_.out 0).trans rfl; have hcz1 : w11.cell? ⟨gr, 1, none⟩ = some (.int .u32 0) := (blk_cell n2_.out 1).trans rfl; have hfz0 : w11.frozen? ⟨gr, 0, none⟩ = false := blk_frozen n2_.out 0; have hfz1 : w11.frozen? ⟨gr, 1, none⟩ = false := blk_frozen n2_.out 1; clear n1_ n2_))
                  refine bodyPost_ret (results_ctt rfl _ _ gr 25 #[.slice none 0 0, .int .u32 0] (0, 0) _ rfl (err_row HP.out.rr _ _) Try.underlying25 rfl (by kernel_rfl)) rfl ?_
                  exact ⟨_, rfl, Kd.S_nil _ _ _ _ _, below_set (below_set HP.out.bl HP.out.ger) HP.out.ger⟩
                · rw [if_neg h64, ← hL2] at hst
                  have HST := Aside0.mk hst
                  have HLE := Aside0.mk (show L2.length ≤ 64 by rw [hL2]; simp; omega)
                  clear hst hL2
                  have h64a : ((L.length : Int) == 64) = false := by simp; omega
                  have h64b : decide ((L.length : Int) = 64) = false := decide_eq_false (by omega)
                  have h64c : (L.length == 64) = false := by simpa using h64
                  go_wp2_with (first | ((with_reducible refine gate_dst (N := 32) rfl ?_); (try (refine gate_guard (by rfl) ?_; dsimp only)); refine box_event ?hg (N := 32) ?hd (cs := #[.string line, .bool false, .bool false]) (t := 65) ?hr ?_; (case hd => rfl); (case hg => rfl); (case hr => first | (go_simp; done) | (go_simp; rfl)); intro g hgx w6 hbox hbx; have n0_ := Aside0.mk (PI.below (by repeat (first | (with_reducible exact HP.out) | (with_reducible refine PI.drewN ?_ _) | (with_reducible refine PI.drew ?_) | (with_reducible refine PI.alloc ?_ _) | exact HP.out)) hbx); have n1_ := Aside0.mk (⟨hbox, by rw [hgx]; exact (PI.bl (by repeat (first | (with_reducible exact HP.out) | (with_reducible refine PI.drewN ?_ _) | (with_reducible refine PI.drew ?_) | (with_reducible refine PI.alloc ?_ _) | exact HP.out))).size⟩ : P.IsS65 w w6 g line false false); have NRG := Aside0.mk (by rw [hgx]; exact Nat.ne_of_lt (blk_lt (PI.rr (by repeat (first | (with_reducible exact HP.out) | (with_reducible refine PI.drewN ?_ _) | (with_reducible refine PI.drew ?_) | (with_reducible refine PI.alloc ?_ _) | exact HP.out)))) : gr ≠ g); have NPG := Aside0.mk (by rw [hgx]; exact Nat.ne_of_lt (blk_lt (PI.pr (by repeat (first | (with_reducible exact HP.out) | (with_reducible refine PI.drewN ?_ _) | (with_reducible refine PI.drew ?_) | (with_reducible refine PI.alloc ?_ _) | exact HP.out)))) : gp ≠ g); clear HP hbx hbox hgx; have HP := n0_; have HR := n1_; clear n0_ n1_) | ((with_reducible refine gate_callee (f := 37) rfl ?_); refine goesL_ (some 34) rfl rfl Try.func37 (by kernel_rfl) rfl #[.pointer (some ⟨g, 0, none⟩)] rfl (by (try simp only [List.map_toArray, List.map_cons, List.map_nil]); first | done | rfl | (simp only [List.length_drop, List.length_take]; rfl)) ?_; (with_reducible refine (policy_reader_word.calls g line false false wd s1 e1 false w _ ?side1 ?side2 A1.out).mono ?_); (case side1 => exact HR.out); (case side2 => exact (PI.bl (by repeat (first | (with_reducible exact HP.out) | (with_reducible refine PI.drewN ?_ _) | (with_reducible refine PI.drew ?_) | (with_reducible refine PI.alloc ?_ _) | exact HP.out)))); rintro e w7 ⟨rfl, hi, hb, hk⟩; refine ⟨_, rfl, ?_⟩; have n0_ := Aside0.mk hi; have n1_ := Aside0.mk (PI.keep (by repeat (first | (with_reducible exact HP.out) | (with_reducible refine PI.drewN ?_ _) | (with_reducible refine PI.drew ?_) | (with_reducible refine PI.alloc ?_ _) | exact HP.out)) hk HR.out.1 hb); clear HR HP hi hb hk; have HR := n0_; have HP := n1_; clear n0_ n1_) | ((with_reducible refine gate_callee (f := 38) rfl ?_); refine goesL_ (some 46) rfl rfl Try.func38 (by kernel_rfl) rfl #[.pointer (some ⟨g, 0, none⟩)] rfl (by (try simp only [List.map_toArray, List.map_cons, List.map_nil]); first | done | rfl | (simp only [List.length_drop, List.length_take]; rfl)) ?_; (with_reducible refine (P.policy_reader_rest.calls k g s1 e1 false x0 x1 x2 x3 s2 e2 false w _ ?side1 ?side2 A2.out).mono ?_); (case side1 => exact HR.out); (case side2 => exact (PI.bl (by repeat (first | (with_reducible exact HP.out) | (with_reducible refine PI.drewN ?_ _) | (with_reducible refine PI.drew ?_) | (with_reducible refine PI.alloc ?_ _) | exact HP.out)))); rintro e w8 ⟨v2, rfl, hq, hi, hb, hk⟩; refine ⟨_, rfl, ?_⟩; obtain ⟨Ax, cx, ex⟩ := Kd.R_slice hq; subst ex; have n0_ := Aside0.mk hi; have n1_ := Aside0.mk (PI.keep (by repeat (first | (with_reducible exact HP.out) | (with_reducible refine PI.drewN ?_ _) | (with_reducible refine PI.drew ?_) | (with_reducible refine PI.alloc ?_ _) | exact HP.out)) hk HR.out.1 hb); have n2_ : Aside0 (Kd.S P.k40 40 w8 w.heap.size (fun k_ => some k_ ≠ (.slice Ax x2.length cx : Value).ownBlock) (.slice Ao L.length co) L) := ⟨Kd.S_mono (Kd.S_told (Kd.S_oldK (Kd.S_types (PI.sl (by repeat (first | (with_reducible exact HP.out) | (with_reducible refine PI.drewN ?_ _) | (with_reducible refine PI.drew ?_) | (with_reducible refine PI.alloc ?_ _) | exact HP.out))) HR.out.1 (by decide)) hk) (Kd.R_base hq)) (fun _ h_ => h_.1.2)⟩; have n3_ : Aside0 (Kd.R P.k61 61 w8 w.heap.size (fun _ => True) (.slice Ax x2.length cx) x2) := ⟨Kd.R_lower hq (PI.bl (by repeat (first | (with_reducible exact HP.out) | (with_reducible refine PI.drewN ?_ _) | (with_reducible refine PI.drew ?_) | (with_reducible refine PI.alloc ?_ _) | exact HP.out))).size⟩; clear HR HP hi hb hk hq; have HR := n0_; have HP := n1_; have HS := n2_; have HQ := n3_; clear n0_ n1_ n2_ n3_) | ((with_reducible refine gate_dst (N := 12) rfl ?_); (try (refine gate_guard (by rfl) ?_; dsimp only)); refine box_event ?hg (N := 12) ?hd (cs := #[.int .u32 0, .int .u32 0, .slice none 0 0, .int .u32 0]) (t := 40) ?hr ?_; (case hd => rfl); (case hg => rfl); (case hr => first | (go_simp; done) | (go_simp; rfl)); intro gx hgx w9 hbox hbx; have HX : Aside0 (Below w8.heap.size w8 w9) := ⟨hbx⟩; have HGX : Aside0 (w8.heap.size ≤ gx) := ⟨by rw [hgx]; exact Nat.le_refl _⟩; have BKX := Aside0.mk hbox; clear hbx hbox hgx; have hcx0 : w9.cell? ⟨gx, 0, none⟩ = some (.int .u32 0) := (blk_cell BKX.out 0).trans rfl; have hfx0 := blk_frozen BKX.out 0; have hcx1 : w9.cell? ⟨gx, 1, none⟩ = some (.int .u32 0) := (blk_cell BKX.out 1).trans rfl; have hfx1 := blk_frozen BKX.out 1; have hcx2 : w9.cell? ⟨gx, 2, none⟩ = some (.slice none 0 0) := (blk_cell BKX.out 2).trans rfl; have hfx2 := blk_frozen BKX.out 2; have hcx3 : w9.cell? ⟨gx, 3, none⟩ = some (.int .u32 0) := (blk_cell BKX.out 3).trans rfl; have hfx3 := blk_frozen BKX.out 3) | ((with_reducible refine gate_store (t := 40) (p := 12) rfl ?_); refine store_event (t := 40) (p := 12) (v := ?vo_) (w1 := ((((w9.setCell ⟨gx, 0, none⟩ (.int .u32 x0)).setCell ⟨gx, 1, none⟩ (.int .u32 x1)).setCell ⟨gx, 2, none⟩ (.slice Ax x2.length cx)).setCell ⟨gx, 3, none⟩ (.int .u32 x3))) ?hg ?ho ?hn ?hr ?_; (case ho => rfl); (case hg => rfl); (case hn => rfl); (case hr => first | (go_simp; done) | (go_simp; rfl)); intro w10 hw; have n0_ : Aside0 (Below w8.heap.size w8 w10) := ⟨by rw [hw]; exact below_set (below_set (below_set (below_set HX.out HGX.out) HGX.out) HGX.out) HGX.out⟩; have n1_ : Aside0 (w10.heap[gx]? = some (.cells #[.int .u32 x0, .int .u32 x1, .slice Ax x2.length cx, .int .u32 x3] 40 (0, 0))) := ⟨by rw [hw]; exact blk_put (cs := #[.int .u32 x0, .int .u32 x1, .slice Ax x2.length cx, .int .u32 0]) (blk_put (cs := #[.int .u32 x0, .int .u32 x1, .slice none 0 0, .int .u32 0]) (blk_put (cs := #[.int .u32 x0, .int .u32 0, .slice none 0 0, .int .u32 0]) (blk_put (cs := #[.int .u32 0, .int .u32 0, .slice none 0 0, .int .u32 0]) BKX.out 0 _ rfl) 1 _ rfl) 2 _ rfl) 3 _ rfl⟩; have NGX : Aside0 (gx ≠ g) := ⟨fun e_ => by have := P.IsS65.lt HR.out; have := HGX.out; omega⟩; have NPX : Aside0 (gx ≠ gp) := ⟨fun e_ => by have := blk_lt HP.out.pr; have := HGX.out; omega⟩; have NRX : Aside0 (gx ≠ gr) := ⟨fun e_ => by have := blk_lt HP.out.rr; have := HGX.out; omega⟩; have n2_ := Aside0.mk (PI.below HP.out n0_.out); have n3_ := Aside0.mk (P.IsS65.below HR.out n0_.out); have n4_ := Aside0.mk (Kd.S_below HS.out n0_.out); have n5_ := Aside0.mk (Kd.R_below HQ.out n0_.out); clear hw HX HGX BKX HP HR HS HQ n0_; have BKX := n1_; have HP := n2_; have HR := n3_; have HS := n4_; have HQ := n5_; clear n1_ n2_ n3_ n4_ n5_; clear hcx0 hcx1 hcx2 hcx3 hfx0 hfx1 hfx2 hfx3; have hng1 := NRG.out; have hng2 := NRG.out.symm; have hng3 := NPG.out; have hng4 := NPG.out.symm; have hnx1 := NGX.out; have hnx2 := NGX.out.symm; have hnx3 := NPX.out; have hnx4 := NPX.out.symm; have hnx5 := NRX.out; have hnx6 := NRX.out.symm; have hrp := (PI.ne HP.out); have hrp2 := (PI.ne HP.out).symm; have hc0 : w10.cell? ⟨g, 0, none⟩ = some (.string s2) := P.cellS65_0 HR.out.1; have hc1 : w10.cell? ⟨g, 1, none⟩ = some (.bool e2) := P.cellS65_1 HR.out.1; have hc2 : w10.cell? ⟨g, 2, none⟩ = some (.bool false) := P.cellS65_2 HR.out.1; have hf2 : w10.frozen? ⟨g, 2, none⟩ = false := blk_frozen HR.out.1 2; have hcz0 : w10.cell? ⟨gr, 0, none⟩ = some (.slice none 0 0) := (blk_cell HP.out.rr 0).trans rfl; have hcz1 : w10.cell? ⟨gr, 1, none⟩ = some (.int .u32 0) := (blk_cell HP.out.rr 1).trans rfl; have hfz0 : w10.frozen? ⟨gr, 0, none⟩ = false := blk_frozen HP.out.rr 0; have hfz1 : w10.frozen? ⟨gr, 1, none⟩ = false := blk_frozen HP.out.rr 1; have hcp0 : w10.cell? ⟨gp, 0, none⟩ = some (.slice Ao L.length co) := (blk_cell HP.out.pr 0).trans rfl; have hfp0 : w10.frozen? ⟨gp, 0, none⟩ = false := blk_frozen HP.out.pr 0; have hcx0 : w10.cell? ⟨gx, 0, none⟩ = some (.int .u32 x0) := (blk_cell BKX.out 0).trans rfl; have hcx1 : w10.cell? ⟨gx, 1, none⟩ = some (.int .u32 x1) := (blk_cell BKX.out 1).trans rfl; have hcx2 : w10.cell? ⟨gx, 2, none⟩ = some (.slice Ax x2.length cx) := (blk_cell BKX.out 2).trans rfl; have hcx3 : w10.cell? ⟨gx, 3, none⟩ = some (.int .u32 x3) := (blk_cell BKX.out 3).trans rfl) | ((with_reducible refine gate_builtin (b := .append) (xs := #[.tmp 61, .tmp 63]) rfl ?_); at_builtin; refine Kd.S_append P.k40 (w0 := w) w.heap.size rfl (.tmp 61) (.tmp 63) 22 40 (.agg #[(.int .u32 0), (.int .u32 0), (.slice none 0 0), (.int .u32 0)]) 40 rfl Try.underlying22 P.info40 rfl (by decide) (by omega) (.slice Ao L.length co) L (⟨x0, x1, x2, x3⟩ : P.S40) [.int .u32 x0, .int .u32 x1, .slice Ax x2.length cx, .int .u32 x3] (fun _ => True) (fun k_ => some k_ = (.slice Ax x2.length cx : Value).ownBlock) rfl rfl ?aP (fun k_ hk_ => ⟨trivial, ((Kd.R_apart' HQ.out (Kd.S_typed HS.out) (by decide)).1 k_ hk_.symm).2⟩) (fun _ _ => trivial) ?aO ?aB ?aS ?aL ?_; (case aP => exact P.k40_mkM _ _ _ (⟨x0, x1, x2, x3⟩ : P.S40) (Kd.R_tight rfl HQ.out)); (case aB => exact (PI.bl (by repeat (first | (with_reducible exact HP.out) | (with_reducible refine PI.drewN ?_ _) | (with_reducible refine PI.drew ?_) | (with_reducible refine PI.alloc ?_ _) | exact HP.out)))); (case aO => exact Kd.S_mono HS.out (fun k_ hk_ => ⟨trivial, fun e_ => hk_ e_⟩)); (case aS => exact (PI.bl (by repeat (first | (with_reducible exact HP.out) | (with_reducible refine PI.drewN ?_ _) | (with_reducible refine PI.drew ?_) | (with_reducible refine PI.alloc ?_ _) | exact HP.out))).size); (case aL => omega); intro v3 w11 ho hb hg hat; rw [← HL2.out] at ho; obtain ⟨A3, c3, e3⟩ := Kd.S_slice ho; subst e3; have HP12 := Aside0.mk (PI.setS HP.out hg ho hb); have n0_ := Aside0.mk (P.IsS65.grown HR.out hg (P.IsS65.own_neS HR.out HS.out (by decide))); have n1_ := Aside0.mk (blk_grown HP.out.pr hg (Kd.S_ne HP.out.sl HP.out.pr (by decide))); have n2_ := Aside0.mk (blk_grown HP.out.rr hg (Kd.S_ne HP.out.sl HP.out.rr (by decide))); clear HR HP HS HQ ho hb hg hat hc0 hc1 hc2 hf2 hcz0 hcz1 hfz0 hfz1 hcp0 hfp0 hcx0 hcx1 hcx2 hcx3; have HR := n0_; clear n0_; have hc0 : w11.cell? ⟨g, 0, none⟩ = some (.string s2) := P.cellS65_0 HR.out.1; have hc1 : w11.cell? ⟨g, 1, none⟩ = some (.bool e2) := P.cellS65_1 HR.out.1; have hc2 : w11.cell? ⟨g, 2, none⟩ = some (.bool false) := P.cellS65_2 HR.out.1; have hf2 : w11.frozen? ⟨g, 2, none⟩ = false := blk_frozen HR.out.1 2; have hcp0 : w11.cell? ⟨gp, 0, none⟩ = some (.slice Ao L.length co) := (blk_cell n1_.out 0).trans rfl; have hfp0 : w11.frozen? ⟨gp, 0, none⟩ = false := blk_frozen n1_.out 0; have hcz0 : w11.cell? ⟨gr, 0, none⟩ = some (.slice none 0 0) := (blk_cell n2_.out 0).trans rfl; have hcz1 : w11.cell? ⟨gr, 1, none⟩ = some (.int .u32 0) := (blk_cell n2_.out 1).trans rfl; have hfz0 : w11.frozen? ⟨gr, 0, none⟩ = false := blk_frozen n2_.out 0; have hfz1 : w11.frozen? ⟨gr, 1, none⟩ = false := blk_frozen n2_.out 1; clear n1_ n2_))
                  go_roundw
                  case rel => exact ⟨pos + 1, pos + 1, false, _, L2, df, rfl, rfl, HP12, Nat.le_refl _, by omega, HLE.out, ⟨fun j hj h1 h2 => by omega⟩, HST⟩
                  case measure => rw [HPOS.out, HP12.out.pos_]; omega
            · have hE1b := hE1.trans (decide_eq_false hon)
              by_cases hdf : w0 = [100, 101, 102, 97, 117, 108, 116]
              · have hE2b := hE2.trans (decide_eq_true hdf)
                clear hE1 hE2
                rw [show lineW w0 ws = (dfltV ws).map Sum.inr by unfold lineW; rw [if_neg hon, if_pos hdf]] at hst
                obtain ⟨w2, s2, e2, b2, A20, z2, y2, q2, d2, g2⟩ := word_ev s1 e1 false ws HQ1.out HY1.out
                obtain ⟨v, ev, hv⟩ : ∃ v ev, readAct w2 = (v, ev) := ⟨_, _, rfl⟩
                obtain ⟨b3, hb3⟩ : ∃ b3, (b2 || (ev != 0)) = b3 := ⟨_, rfl⟩
                have A2 := Aside0.mk A20
                have A3 := Aside0.mk (show names_ReadAction.f w2 = some (v, ev) by unfold names_ReadAction.f; rw [hv])
                have A4 := Aside0.mk (show P.policy_reader_must.f s2 e2 b2 ev = some (s2, e2, b3) by rw [must_ev, hb3])
                have key : (b3 = false ∧ e2 = true ∧ dfltV ws = some v) ∨ ((b3 = true ∨ e2 = false) ∧ dfltV ws = none) := by
                  rcases ws with _ | ⟨a, _ | ⟨b, r⟩⟩
                  · exact .inr ⟨.inl (by rw [← hb3, g2]; rfl), rfl⟩
                  · have i1 : w2 = ofBytes a := ba_eq (by rw [d2, data_of]; rfl)
                    have i2 := q2.end_iff.2 rfl
                    have i3 : b2 = false := by rw [g2]; rfl
                    rw [i1] at hv
                    rw [i3] at hb3
                    by_cases h0 : ev = 0
                    · exact .inl ⟨by rw [← hb3, h0]; rfl, i2, by simp only [dfltV, hv, h0, if_true]⟩
                    · exact .inr ⟨.inl (by rw [← hb3]; simpa using h0), by simp only [dfltV, hv, h0, if_false]⟩
                  · refine .inr ⟨.inr ?_, rfl⟩
                    cases e2 with
                    | false => rfl
                    | true => have := q2.end_iff.1 rfl; simp at this
                clear A20 z2 y2 q2 d2 g2 hv hb3
                rcases key with ⟨rfl, rfl, hk0⟩ | ⟨hk1, hk0⟩
                · rw [hk0] at hst
                  have HST := Aside0.mk (show plines s.size (spl 10 (s.data.toList.drop (pos + 1))) (pos + 1) true L v = res from hst)
                  clear hst hk0
                  go_wp2_with (first | ((with_reducible refine gate_dst (N := 32) rfl ?_); (try (refine gate_guard (by rfl) ?_; dsimp only)); refine box_event ?hg (N := 32) ?hd (cs := #[.string line, .bool false, .bool false]) (t := 65) ?hr ?_; (case hd => rfl); (case hg => rfl); (case hr => first | (go_simp; done) | (go_simp; rfl)); intro g hgx w6 hbox hbx; have n0_ := Aside0.mk (PI.below (by repeat (first | (with_reducible exact HP.out) | (with_reducible refine PI.drewN ?_ _) | (with_reducible refine PI.drew ?_) | (with_reducible refine PI.alloc ?_ _) | exact HP.out)) hbx); have n1_ := Aside0.mk (⟨hbox, by rw [hgx]; exact (PI.bl (by repeat (first | (with_reducible exact HP.out) | (with_reducible refine PI.drewN ?_ _) | (with_reducible refine PI.drew ?_) | (with_reducible refine PI.alloc ?_ _) | exact HP.out))).size⟩ : P.IsS65 w w6 g line false false); have NRG := Aside0.mk (by rw [hgx]; exact Nat.ne_of_lt (blk_lt (PI.rr (by repeat (first | (with_reducible exact HP.out) | (with_reducible refine PI.drewN ?_ _) | (with_reducible refine PI.drew ?_) | (with_reducible refine PI.alloc ?_ _) | exact HP.out)))) : gr ≠ g); have NPG := Aside0.mk (by rw [hgx]; exact Nat.ne_of_lt (blk_lt (PI.pr (by repeat (first | (with_reducible exact HP.out) | (with_reducible refine PI.drewN ?_ _) | (with_reducible refine PI.drew ?_) | (with_reducible refine PI.alloc ?_ _) | exact HP.out)))) : gp ≠ g); clear HP hbx hbox hgx; have HP := n0_; have HR := n1_; clear n0_ n1_) | ((with_reducible refine gate_callee (f := 37) rfl ?_); refine goesL_ (some 34) rfl rfl Try.func37 (by kernel_rfl) rfl #[.pointer (some ⟨g, 0, none⟩)] rfl (by (try simp only [List.map_toArray, List.map_cons, List.map_nil]); first | done | rfl | (simp only [List.length_drop, List.length_take]; rfl)) ?_; (with_reducible refine (policy_reader_word.calls g line false false wd s1 e1 false w _ ?side1 ?side2 A1.out).mono ?_); (case side1 => exact HR.out); (case side2 => exact (PI.bl (by repeat (first | (with_reducible exact HP.out) | (with_reducible refine PI.drewN ?_ _) | (with_reducible refine PI.drew ?_) | (with_reducible refine PI.alloc ?_ _) | exact HP.out)))); rintro e w7 ⟨rfl, hi, hb, hk⟩; refine ⟨_, rfl, ?_⟩; have n0_ := Aside0.mk hi; have n1_ := Aside0.mk (PI.keep (by repeat (first | (with_reducible exact HP.out) | (with_reducible refine PI.drewN ?_ _) | (with_reducible refine PI.drew ?_) | (with_reducible refine PI.alloc ?_ _) | exact HP.out)) hk HR.out.1 hb); clear HR HP hi hb hk; have HR := n0_; have HP := n1_; clear n0_ n1_) | ((with_reducible refine gate_callee (f := 37) rfl ?_); refine goesL_ (some 75) rfl rfl Try.func37 (by kernel_rfl) rfl #[.pointer (some ⟨g, 0, none⟩)] rfl (by (try simp only [List.map_toArray, List.map_cons, List.map_nil]); first | done | rfl | (simp only [List.length_drop, List.length_take]; rfl)) ?_; (with_reducible refine (policy_reader_word.calls g s1 e1 false w2 s2 true b2 w _ ?side1 ?side2 A2.out).mono ?_); (case side1 => exact HR.out); (case side2 => exact (PI.bl (by repeat (first | (with_reducible exact HP.out) | (with_reducible refine PI.drewN ?_ _) | (with_reducible refine PI.drew ?_) | (with_reducible refine PI.alloc ?_ _) | exact HP.out)))); rintro e w8 ⟨rfl, hi, hb, hk⟩; refine ⟨_, rfl, ?_⟩; have n0_ := Aside0.mk hi; have n1_ := Aside0.mk (PI.keep (by repeat (first | (with_reducible exact HP.out) | (with_reducible refine PI.drewN ?_ _) | (with_reducible refine PI.drew ?_) | (with_reducible refine PI.alloc ?_ _) | exact HP.out)) hk HR.out.1 hb); clear HR HP hi hb hk; have HR := n0_; have HP := n1_; clear n0_ n1_) | ((with_reducible refine gate_callee (f := 39) rfl ?_); refine goesL_ (some 76) rfl rfl Try.func39 (by kernel_rfl) rfl #[.string w2] rfl (by (try simp only [List.map_toArray, List.map_cons, List.map_nil]); first | done | rfl | (simp only [List.length_drop, List.length_take]; rfl)) ?_; (with_reducible refine (names_ReadAction.calls w2 v ev _ A3.out).mono ?_); rintro e w9 ⟨rfl, hb⟩; refine ⟨_, rfl, ?_⟩; have n0_ := Aside0.mk (PI.below (by repeat (first | (with_reducible exact HP.out) | (with_reducible refine PI.drewN ?_ _) | (with_reducible refine PI.drew ?_) | (with_reducible refine PI.alloc ?_ _) | exact HP.out)) hb); have n1_ := Aside0.mk (P.IsS65.below HR.out hb); clear HR HP hb; have HP := n0_; have HR := n1_; clear n0_ n1_) | ((with_reducible refine gate_callee (f := 40) rfl ?_); refine goesL_ (some 81) rfl rfl Try.func40 (by kernel_rfl) rfl #[.pointer (some ⟨g, 0, none⟩), .int .i64 ev] rfl (by (try simp only [List.map_toArray, List.map_cons, List.map_nil]); first | done | rfl | (simp only [List.length_drop, List.length_take]; rfl)) ?_; (with_reducible refine (P.policy_reader_must.calls g s2 true b2 ev s2 true false w _ ?side1 ?side2 A4.out).mono ?_); (case side1 => exact HR.out); (case side2 => exact (PI.bl (by repeat (first | (with_reducible exact HP.out) | (with_reducible refine PI.drewN ?_ _) | (with_reducible refine PI.drew ?_) | (with_reducible refine PI.alloc ?_ _) | exact HP.out)))); rintro e w10 ⟨rfl, hi, hb, hk⟩; refine ⟨_, rfl, ?_⟩; have n0_ := Aside0.mk hi; have n1_ := Aside0.mk (PI.keep (by repeat (first | (with_reducible exact HP.out) | (with_reducible refine PI.drewN ?_ _) | (with_reducible refine PI.drew ?_) | (with_reducible refine PI.alloc ?_ _) | exact HP.out)) hk HR.out.1 hb); clear HR HP hi hb hk; have HR := n0_; have HP := n1_; clear n0_ n1_; have hng1 := NRG.out; have hng2 := NRG.out.symm; have hng3 := NPG.out; have hng4 := NPG.out.symm; have hc0 : w10.cell? ⟨g, 0, none⟩ = some (.string s2) := P.cellS65_0 HR.out.1; have hc1 : w10.cell? ⟨g, 1, none⟩ = some (.bool true) := P.cellS65_1 HR.out.1; have hc2 : w10.cell? ⟨g, 2, none⟩ = some (.bool false) := P.cellS65_2 HR.out.1; have hf2 : w10.frozen? ⟨g, 2, none⟩ = false := blk_frozen HR.out.1 2; have hcz0 : w10.cell? ⟨gr, 0, none⟩ = some (.slice none 0 0) := (blk_cell HP.out.rr 0).trans rfl; have hcz1 : w10.cell? ⟨gr, 1, none⟩ = some (.int .u32 0) := (blk_cell HP.out.rr 1).trans rfl; have hfz0 : w10.frozen? ⟨gr, 0, none⟩ = false := blk_frozen HP.out.rr 0; have hfz1 : w10.frozen? ⟨gr, 1, none⟩ = false := blk_frozen HP.out.rr 1; have hrp := (PI.ne HP.out); have hrp2 := (PI.ne HP.out).symm; have hcp1 : w10.cell? ⟨gp, 1, none⟩ = some (.int .u32 df) := (blk_cell HP.out.pr 1).trans rfl; have hfp1 : w10.frozen? ⟨gp, 1, none⟩ = false := blk_frozen HP.out.pr 1; have HP11 := Aside0.mk (PI.setP HP.out v); have HR11 := Aside0.mk (P.IsS65.far (p := ⟨gp, 1, none⟩) HR.out hng4 (.int .u32 v)); have HP12 := fun x => Aside0.mk (PI.setRd HP11.out HR11.out.1 HR11.out.2 2 (.bool x))))
                  go_roundw
                  case rel => exact ⟨pos + 1, pos + 1, true, _, L, v, rfl, rfl, HP12 false, Nat.le_refl _, by omega, hL, ⟨fun j hj h1 h2 => by omega⟩, HST⟩
                  case measure => rw [HPOS.out, (HP12 false).out.pos_]; omega
                · rw [hk0] at hst
                  subst hst
                  clear hk0
                  cases b3 with
                  | true =>
                    cases e2 with
                    | true =>
                      go_wp2_with (first | ((with_reducible refine gate_dst (N := 32) rfl ?_); (try (refine gate_guard (by rfl) ?_; dsimp only)); refine box_event ?hg (N := 32) ?hd (cs := #[.string line, .bool false, .bool false]) (t := 65) ?hr ?_; (case hd => rfl); (case hg => rfl); (case hr => first | (go_simp; done) | (go_simp; rfl)); intro g hgx w6 hbox hbx; have n0_ := Aside0.mk (PI.below (by repeat (first | (with_reducible exact HP.out) | (with_reducible refine PI.drewN ?_ _) | (with_reducible refine PI.drew ?_) | (with_reducible refine PI.alloc ?_ _) | exact HP.out)) hbx); have n1_ := Aside0.mk (⟨hbox, by rw [hgx]; exact (PI.bl (by repeat (first | (with_reducible exact HP.out) | (with_reducible refine PI.drewN ?_ _) | (with_reducible refine PI.drew ?_) | (with_reducible refine PI.alloc ?_ _) | exact HP.out))).size⟩ : P.IsS65 w w6 g line false false); have NRG := Aside0.mk (by rw [hgx]; exact Nat.ne_of_lt (blk_lt (PI.rr (by repeat (first | (with_reducible exact HP.out) | (with_reducible refine PI.drewN ?_ _) | (with_reducible refine PI.drew ?_) | (with_reducible refine PI.alloc ?_ _) | exact HP.out)))) : gr ≠ g); have NPG := Aside0.mk (by rw [hgx]; exact Nat.ne_of_lt (blk_lt (PI.pr (by repeat (first | (with_reducible exact HP.out) | (with_reducible refine PI.drewN ?_ _) | (with_reducible refine PI.drew ?_) | (with_reducible refine PI.alloc ?_ _) | exact HP.out)))) : gp ≠ g); clear HP hbx hbox hgx; have HP := n0_; have HR := n1_; clear n0_ n1_) | ((with_reducible refine gate_callee (f := 37) rfl ?_); refine goesL_ (some 34) rfl rfl Try.func37 (by kernel_rfl) rfl #[.pointer (some ⟨g, 0, none⟩)] rfl (by (try simp only [List.map_toArray, List.map_cons, List.map_nil]); first | done | rfl | (simp only [List.length_drop, List.length_take]; rfl)) ?_; (with_reducible refine (policy_reader_word.calls g line false false wd s1 e1 false w _ ?side1 ?side2 A1.out).mono ?_); (case side1 => exact HR.out); (case side2 => exact (PI.bl (by repeat (first | (with_reducible exact HP.out) | (with_reducible refine PI.drewN ?_ _) | (with_reducible refine PI.drew ?_) | (with_reducible refine PI.alloc ?_ _) | exact HP.out)))); rintro e w7 ⟨rfl, hi, hb, hk⟩; refine ⟨_, rfl, ?_⟩; have n0_ := Aside0.mk hi; have n1_ := Aside0.mk (PI.keep (by repeat (first | (with_reducible exact HP.out) | (with_reducible refine PI.drewN ?_ _) | (with_reducible refine PI.drew ?_) | (with_reducible refine PI.alloc ?_ _) | exact HP.out)) hk HR.out.1 hb); clear HR HP hi hb hk; have HR := n0_; have HP := n1_; clear n0_ n1_) | ((with_reducible refine gate_callee (f := 37) rfl ?_); refine goesL_ (some 75) rfl rfl Try.func37 (by kernel_rfl) rfl #[.pointer (some ⟨g, 0, none⟩)] rfl (by (try simp only [List.map_toArray, List.map_cons, List.map_nil]); first | done | rfl | (simp only [List.length_drop, List.length_take]; rfl)) ?_; (with_reducible refine (policy_reader_word.calls g s1 e1 false w2 s2 true b2 w _ ?side1 ?side2 A2.out).mono ?_); (case side1 => exact HR.out); (case side2 => exact (PI.bl (by repeat (first | (with_reducible exact HP.out) | (with_reducible refine PI.drewN ?_ _) | (with_reducible refine PI.drew ?_) | (with_reducible refine PI.alloc ?_ _) | exact HP.out)))); rintro e w8 ⟨rfl, hi, hb, hk⟩; refine ⟨_, rfl, ?_⟩; have n0_ := Aside0.mk hi; have n1_ := Aside0.mk (PI.keep (by repeat (first | (with_reducible exact HP.out) | (with_reducible refine PI.drewN ?_ _) | (with_reducible refine PI.drew ?_) | (with_reducible refine PI.alloc ?_ _) | exact HP.out)) hk HR.out.1 hb); clear HR HP hi hb hk; have HR := n0_; have HP := n1_; clear n0_ n1_) | ((with_reducible refine gate_callee (f := 39) rfl ?_); refine goesL_ (some 76) rfl rfl Try.func39 (by kernel_rfl) rfl #[.string w2] rfl (by (try simp only [List.map_toArray, List.map_cons, List.map_nil]); first | done | rfl | (simp only [List.length_drop, List.length_take]; rfl)) ?_; (with_reducible refine (names_ReadAction.calls w2 v ev _ A3.out).mono ?_); rintro e w9 ⟨rfl, hb⟩; refine ⟨_, rfl, ?_⟩; have n0_ := Aside0.mk (PI.below (by repeat (first | (with_reducible exact HP.out) | (with_reducible refine PI.drewN ?_ _) | (with_reducible refine PI.drew ?_) | (with_reducible refine PI.alloc ?_ _) | exact HP.out)) hb); have n1_ := Aside0.mk (P.IsS65.below HR.out hb); clear HR HP hb; have HP := n0_; have HR := n1_; clear n0_ n1_) | ((with_reducible refine gate_callee (f := 40) rfl ?_); refine goesL_ (some 81) rfl rfl Try.func40 (by kernel_rfl) rfl #[.pointer (some ⟨g, 0, none⟩), .int .i64 ev] rfl (by (try simp only [List.map_toArray, List.map_cons, List.map_nil]); first | done | rfl | (simp only [List.length_drop, List.length_take]; rfl)) ?_; (with_reducible refine (P.policy_reader_must.calls g s2 true b2 ev s2 true true w _ ?side1 ?side2 A4.out).mono ?_); (case side1 => exact HR.out); (case side2 => exact (PI.bl (by repeat (first | (with_reducible exact HP.out) | (with_reducible refine PI.drewN ?_ _) | (with_reducible refine PI.drew ?_) | (with_reducible refine PI.alloc ?_ _) | exact HP.out)))); rintro e w10 ⟨rfl, hi, hb, hk⟩; refine ⟨_, rfl, ?_⟩; have n0_ := Aside0.mk hi; have n1_ := Aside0.mk (PI.keep (by repeat (first | (with_reducible exact HP.out) | (with_reducible refine PI.drewN ?_ _) | (with_reducible refine PI.drew ?_) | (with_reducible refine PI.alloc ?_ _) | exact HP.out)) hk HR.out.1 hb); clear HR HP hi hb hk; have HR := n0_; have HP := n1_; clear n0_ n1_; have hng1 := NRG.out; have hng2 := NRG.out.symm; have hng3 := NPG.out; have hng4 := NPG.out.symm; have hc0 : w10.cell? ⟨g, 0, none⟩ = some (.string s2) := P.cellS65_0 HR.out.1; have hc1 : w10.cell? ⟨g, 1, none⟩ = some (.bool true) := P.cellS65_1 HR.out.1; have hc2 : w10.cell? ⟨g, 2, none⟩ = some (.bool true) := P.cellS65_2 HR.out.1; have hf2 : w10.frozen? ⟨g, 2, none⟩ = false := blk_frozen HR.out.1 2; have hcz0 : w10.cell? ⟨gr, 0, none⟩ = some (.slice none 0 0) := (blk_cell HP.out.rr 0).trans rfl; have hcz1 : w10.cell? ⟨gr, 1, none⟩ = some (.int .u32 0) := (blk_cell HP.out.rr 1).trans rfl; have hfz0 : w10.frozen? ⟨gr, 0, none⟩ = false := blk_frozen HP.out.rr 0; have hfz1 : w10.frozen? ⟨gr, 1, none⟩ = false := blk_frozen HP.out.rr 1; have hrp := (PI.ne HP.out); have hrp2 := (PI.ne HP.out).symm; have hcp1 : w10.cell? ⟨gp, 1, none⟩ = some (.int .u32 df) := (blk_cell HP.out.pr 1).trans rfl; have hfp1 : w10.frozen? ⟨gp, 1, none⟩ = false := blk_frozen HP.out.pr 1; have HP11 := Aside0.mk (PI.setP HP.out v); have HR11 := Aside0.mk (P.IsS65.far (p := ⟨gp, 1, none⟩) HR.out hng4 (.int .u32 v)); have HP12 := fun x => Aside0.mk (PI.setRd HP11.out HR11.out.1 HR11.out.2 2 (.bool x))))
                      refine bodyPost_ret (results_ctt rfl _ _ gr 25 #[.slice none 0 0, .int .u32 0] (0, 0) _ rfl (err_row (HP12 true).out.rr _ _) Try.underlying25 rfl (by kernel_rfl)) rfl ?_
                      exact ⟨_, rfl, Kd.S_nil _ _ _ _ _, below_set (below_set (HP12 true).out.bl (HP12 true).out.ger) (HP12 true).out.ger⟩
                    | false =>
                      go_wp2_with (first | ((with_reducible refine gate_dst (N := 32) rfl ?_); (try (refine gate_guard (by rfl) ?_; dsimp only)); refine box_event ?hg (N := 32) ?hd (cs := #[.string line, .bool false, .bool false]) (t := 65) ?hr ?_; (case hd => rfl); (case hg => rfl); (case hr => first | (go_simp; done) | (go_simp; rfl)); intro g hgx w6 hbox hbx; have n0_ := Aside0.mk (PI.below (by repeat (first | (with_reducible exact HP.out) | (with_reducible refine PI.drewN ?_ _) | (with_reducible refine PI.drew ?_) | (with_reducible refine PI.alloc ?_ _) | exact HP.out)) hbx); have n1_ := Aside0.mk (⟨hbox, by rw [hgx]; exact (PI.bl (by repeat (first | (with_reducible exact HP.out) | (with_reducible refine PI.drewN ?_ _) | (with_reducible refine PI.drew ?_) | (with_reducible refine PI.alloc ?_ _) | exact HP.out))).size⟩ : P.IsS65 w w6 g line false false); have NRG := Aside0.mk (by rw [hgx]; exact Nat.ne_of_lt (blk_lt (PI.rr (by repeat (first | (with_reducible exact HP.out) | (with_reducible refine PI.drewN ?_ _) | (with_reducible refine PI.drew ?_) | (with_reducible refine PI.alloc ?_ _) | exact HP.out)))) : gr ≠ g); have NPG := Aside0.mk (by rw [hgx]; exact Nat.ne_of_lt (blk_lt (PI.pr (by repeat (first | (with_reducible exact HP.out) | (with_reducible refine PI.drewN ?_ _) | (with_reducible refine PI.drew ?_) | (with_reducible refine PI.alloc ?_ _) | exact HP.out)))) : gp ≠ g); clear HP hbx hbox hgx; have HP := n0_; have HR := n1_; clear n0_ n1_) | ((with_reducible refine gate_callee (f := 37) rfl ?_); refine goesL_ (some 34) rfl rfl Try.func37 (by kernel_rfl) rfl #[.pointer (some ⟨g, 0, none⟩)] rfl (by (try simp only [List.map_toArray, List.map_cons, List.map_nil]); first | done | rfl | (simp only [List.length_drop, List.length_take]; rfl)) ?_; (with_reducible refine (policy_reader_word.calls g line false false wd s1 e1 false w _ ?side1 ?side2 A1.out).mono ?_); (case side1 => exact HR.out); (case side2 => exact (PI.bl (by repeat (first | (with_reducible exact HP.out) | (with_reducible refine PI.drewN ?_ _) | (with_reducible refine PI.drew ?_) | (with_reducible refine PI.alloc ?_ _) | exact HP.out)))); rintro e w7 ⟨rfl, hi, hb, hk⟩; refine ⟨_, rfl, ?_⟩; have n0_ := Aside0.mk hi; have n1_ := Aside0.mk (PI.keep (by repeat (first | (with_reducible exact HP.out) | (with_reducible refine PI.drewN ?_ _) | (with_reducible refine PI.drew ?_) | (with_reducible refine PI.alloc ?_ _) | exact HP.out)) hk HR.out.1 hb); clear HR HP hi hb hk; have HR := n0_; have HP := n1_; clear n0_ n1_) | ((with_reducible refine gate_callee (f := 37) rfl ?_); refine goesL_ (some 75) rfl rfl Try.func37 (by kernel_rfl) rfl #[.pointer (some ⟨g, 0, none⟩)] rfl (by (try simp only [List.map_toArray, List.map_cons, List.map_nil]); first | done | rfl | (simp only [List.length_drop, List.length_take]; rfl)) ?_; (with_reducible refine (policy_reader_word.calls g s1 e1 false w2 s2 false b2 w _ ?side1 ?side2 A2.out).mono ?_); (case side1 => exact HR.out); (case side2 => exact (PI.bl (by repeat (first | (with_reducible exact HP.out) | (with_reducible refine PI.drewN ?_ _) | (with_reducible refine PI.drew ?_) | (with_reducible refine PI.alloc ?_ _) | exact HP.out)))); rintro e w8 ⟨rfl, hi, hb, hk⟩; refine ⟨_, rfl, ?_⟩; have n0_ := Aside0.mk hi; have n1_ := Aside0.mk (PI.keep (by repeat (first | (with_reducible exact HP.out) | (with_reducible refine PI.drewN ?_ _) | (with_reducible refine PI.drew ?_) | (with_reducible refine PI.alloc ?_ _) | exact HP.out)) hk HR.out.1 hb); clear HR HP hi hb hk; have HR := n0_; have HP := n1_; clear n0_ n1_) | ((with_reducible refine gate_callee (f := 39) rfl ?_); refine goesL_ (some 76) rfl rfl Try.func39 (by kernel_rfl) rfl #[.string w2] rfl (by (try simp only [List.map_toArray, List.map_cons, List.map_nil]); first | done | rfl | (simp only [List.length_drop, List.length_take]; rfl)) ?_; (with_reducible refine (names_ReadAction.calls w2 v ev _ A3.out).mono ?_); rintro e w9 ⟨rfl, hb⟩; refine ⟨_, rfl, ?_⟩; have n0_ := Aside0.mk (PI.below (by repeat (first | (with_reducible exact HP.out) | (with_reducible refine PI.drewN ?_ _) | (with_reducible refine PI.drew ?_) | (with_reducible refine PI.alloc ?_ _) | exact HP.out)) hb); have n1_ := Aside0.mk (P.IsS65.below HR.out hb); clear HR HP hb; have HP := n0_; have HR := n1_; clear n0_ n1_) | ((with_reducible refine gate_callee (f := 40) rfl ?_); refine goesL_ (some 81) rfl rfl Try.func40 (by kernel_rfl) rfl #[.pointer (some ⟨g, 0, none⟩), .int .i64 ev] rfl (by (try simp only [List.map_toArray, List.map_cons, List.map_nil]); first | done | rfl | (simp only [List.length_drop, List.length_take]; rfl)) ?_; (with_reducible refine (P.policy_reader_must.calls g s2 false b2 ev s2 false true w _ ?side1 ?side2 A4.out).mono ?_); (case side1 => exact HR.out); (case side2 => exact (PI.bl (by repeat (first | (with_reducible exact HP.out) | (with_reducible refine PI.drewN ?_ _) | (with_reducible refine PI.drew ?_) | (with_reducible refine PI.alloc ?_ _) | exact HP.out)))); rintro e w10 ⟨rfl, hi, hb, hk⟩; refine ⟨_, rfl, ?_⟩; have n0_ := Aside0.mk hi; have n1_ := Aside0.mk (PI.keep (by repeat (first | (with_reducible exact HP.out) | (with_reducible refine PI.drewN ?_ _) | (with_reducible refine PI.drew ?_) | (with_reducible refine PI.alloc ?_ _) | exact HP.out)) hk HR.out.1 hb); clear HR HP hi hb hk; have HR := n0_; have HP := n1_; clear n0_ n1_; have hng1 := NRG.out; have hng2 := NRG.out.symm; have hng3 := NPG.out; have hng4 := NPG.out.symm; have hc0 : w10.cell? ⟨g, 0, none⟩ = some (.string s2) := P.cellS65_0 HR.out.1; have hc1 : w10.cell? ⟨g, 1, none⟩ = some (.bool false) := P.cellS65_1 HR.out.1; have hc2 : w10.cell? ⟨g, 2, none⟩ = some (.bool true) := P.cellS65_2 HR.out.1; have hf2 : w10.frozen? ⟨g, 2, none⟩ = false := blk_frozen HR.out.1 2; have hcz0 : w10.cell? ⟨gr, 0, none⟩ = some (.slice none 0 0) := (blk_cell HP.out.rr 0).trans rfl; have hcz1 : w10.cell? ⟨gr, 1, none⟩ = some (.int .u32 0) := (blk_cell HP.out.rr 1).trans rfl; have hfz0 : w10.frozen? ⟨gr, 0, none⟩ = false := blk_frozen HP.out.rr 0; have hfz1 : w10.frozen? ⟨gr, 1, none⟩ = false := blk_frozen HP.out.rr 1; have hrp := (PI.ne HP.out); have hrp2 := (PI.ne HP.out).symm; have hcp1 : w10.cell? ⟨gp, 1, none⟩ = some (.int .u32 df) := (blk_cell HP.out.pr 1).trans rfl; have hfp1 : w10.frozen? ⟨gp, 1, none⟩ = false := blk_frozen HP.out.pr 1; have HP11 := Aside0.mk (PI.setP HP.out v); have HR11 := Aside0.mk (P.IsS65.far (p := ⟨gp, 1, none⟩) HR.out hng4 (.int .u32 v)); have HP12 := fun x => Aside0.mk (PI.setRd HP11.out HR11.out.1 HR11.out.2 2 (.bool x))))
                      refine bodyPost_ret (results_ctt rfl _ _ gr 25 #[.slice none 0 0, .int .u32 0] (0, 0) _ rfl (err_row (HP12 true).out.rr _ _) Try.underlying25 rfl (by kernel_rfl)) rfl ?_
                      exact ⟨_, rfl, Kd.S_nil _ _ _ _ _, below_set (below_set (HP12 true).out.bl (HP12 true).out.ger) (HP12 true).out.ger⟩
                  | false =>
                    obtain rfl : e2 = false := by rcases hk1 with h | h; cases h; exact h
                    go_wp2_with (first | ((with_reducible refine gate_dst (N := 32) rfl ?_); (try (refine gate_guard (by rfl) ?_; dsimp only)); refine box_event ?hg (N := 32) ?hd (cs := #[.string line, .bool false, .bool false]) (t := 65) ?hr ?_; (case hd => rfl); (case hg => rfl); (case hr => first | (go_simp; done) | (go_simp; rfl)); intro g hgx w6 hbox hbx; have n0_ := Aside0.mk (PI.below (by repeat (first | (with_reducible exact HP.out) | (with_reducible refine PI.drewN ?_ _) | (with_reducible refine PI.drew ?_) | (with_reducible refine PI.alloc ?_ _) | exact HP.out)) hbx); have n1_ := Aside0.mk (⟨hbox, by rw [hgx]; exact (PI.bl (by repeat (first | (with_reducible exact HP.out) | (with_reducible refine PI.drewN ?_ _) | (with_reducible refine PI.drew ?_) | (with_reducible refine PI.alloc ?_ _) | exact HP.out))).size⟩ : P.IsS65 w w6 g line false false); have NRG := Aside0.mk (by rw [hgx]; exact Nat.ne_of_lt (blk_lt (PI.rr (by repeat (first | (with_reducible exact HP.out) | (with_reducible refine PI.drewN ?_ _) | (with_reducible refine PI.drew ?_) | (with_reducible refine PI.alloc ?_ _) | exact HP.out)))) : gr ≠ g); have NPG := Aside0.mk (by rw [hgx]; exact Nat.ne_of_lt (blk_lt (PI.pr (by repeat (first | (with_reducible exact HP.out) | (with_reducible refine PI.drewN ?_ _) | (with_reducible refine PI.drew ?_) | (with_reducible refine PI.alloc ?_ _) | exact HP.out)))) : gp ≠ g); clear HP hbx hbox hgx; have HP := n0_; have HR := n1_; clear n0_ n1_) | ((with_reducible refine gate_callee (f := 37) rfl ?_); refine goesL_ (some 34) rfl rfl Try.func37 (by kernel_rfl) rfl #[.pointer (some ⟨g, 0, none⟩)] rfl (by (try simp only [List.map_toArray, List.map_cons, List.map_nil]); first | done | rfl | (simp only [List.length_drop, List.length_take]; rfl)) ?_; (with_reducible refine (policy_reader_word.calls g line false false wd s1 e1 false w _ ?side1 ?side2 A1.out).mono ?_); (case side1 => exact HR.out); (case side2 => exact (PI.bl (by repeat (first | (with_reducible exact HP.out) | (with_reducible refine PI.drewN ?_ _) | (with_reducible refine PI.drew ?_) | (with_reducible refine PI.alloc ?_ _) | exact HP.out)))); rintro e w7 ⟨rfl, hi, hb, hk⟩; refine ⟨_, rfl, ?_⟩; have n0_ := Aside0.mk hi; have n1_ := Aside0.mk (PI.keep (by repeat (first | (with_reducible exact HP.out) | (with_reducible refine PI.drewN ?_ _) | (with_reducible refine PI.drew ?_) | (with_reducible refine PI.alloc ?_ _) | exact HP.out)) hk HR.out.1 hb); clear HR HP hi hb hk; have HR := n0_; have HP := n1_; clear n0_ n1_) | ((with_reducible refine gate_callee (f := 37) rfl ?_); refine goesL_ (some 75) rfl rfl Try.func37 (by kernel_rfl) rfl #[.pointer (some ⟨g, 0, none⟩)] rfl (by (try simp only [List.map_toArray, List.map_cons, List.map_nil]); first | done | rfl | (simp only [List.length_drop, List.length_take]; rfl)) ?_; (with_reducible refine (policy_reader_word.calls g s1 e1 false w2 s2 false b2 w _ ?side1 ?side2 A2.out).mono ?_); (case side1 => exact HR.out); (case side2 => exact (PI.bl (by repeat (first | (with_reducible exact HP.out) | (with_reducible refine PI.drewN ?_ _) | (with_reducible refine PI.drew ?_) | (with_reducible refine PI.alloc ?_ _) | exact HP.out)))); rintro e w8 ⟨rfl, hi, hb, hk⟩; refine ⟨_, rfl, ?_⟩; have n0_ := Aside0.mk hi; have n1_ := Aside0.mk (PI.keep (by repeat (first | (with_reducible exact HP.out) | (with_reducible refine PI.drewN ?_ _) | (with_reducible refine PI.drew ?_) | (with_reducible refine PI.alloc ?_ _) | exact HP.out)) hk HR.out.1 hb); clear HR HP hi hb hk; have HR := n0_; have HP := n1_; clear n0_ n1_) | ((with_reducible refine gate_callee (f := 39) rfl ?_); refine goesL_ (some 76) rfl rfl Try.func39 (by kernel_rfl) rfl #[.string w2] rfl (by (try simp only [List.map_toArray, List.map_cons, List.map_nil]); first | done | rfl | (simp only [List.length_drop, List.length_take]; rfl)) ?_; (with_reducible refine (names_ReadAction.calls w2 v ev _ A3.out).mono ?_); rintro e w9 ⟨rfl, hb⟩; refine ⟨_, rfl, ?_⟩; have n0_ := Aside0.mk (PI.below (by repeat (first | (with_reducible exact HP.out) | (with_reducible refine PI.drewN ?_ _) | (with_reducible refine PI.drew ?_) | (with_reducible refine PI.alloc ?_ _) | exact HP.out)) hb); have n1_ := Aside0.mk (P.IsS65.below HR.out hb); clear HR HP hb; have HP := n0_; have HR := n1_; clear n0_ n1_) | ((with_reducible refine gate_callee (f := 40) rfl ?_); refine goesL_ (some 81) rfl rfl Try.func40 (by kernel_rfl) rfl #[.pointer (some ⟨g, 0, none⟩), .int .i64 ev] rfl (by (try simp only [List.map_toArray, List.map_cons, List.map_nil]); first | done | rfl | (simp only [List.length_drop, List.length_take]; rfl)) ?_; (with_reducible refine (P.policy_reader_must.calls g s2 false b2 ev s2 false false w _ ?side1 ?side2 A4.out).mono ?_); (case side1 => exact HR.out); (case side2 => exact (PI.bl (by repeat (first | (with_reducible exact HP.out) | (with_reducible refine PI.drewN ?_ _) | (with_reducible refine PI.drew ?_) | (with_reducible refine PI.alloc ?_ _) | exact HP.out)))); rintro e w10 ⟨rfl, hi, hb, hk⟩; refine ⟨_, rfl, ?_⟩; have n0_ := Aside0.mk hi; have n1_ := Aside0.mk (PI.keep (by repeat (first | (with_reducible exact HP.out) | (with_reducible refine PI.drewN ?_ _) | (with_reducible refine PI.drew ?_) | (with_reducible refine PI.alloc ?_ _) | exact HP.out)) hk HR.out.1 hb); clear HR HP hi hb hk; have HR := n0_; have HP := n1_; clear n0_ n1_; have hng1 := NRG.out; have hng2 := NRG.out.symm; have hng3 := NPG.out; have hng4 := NPG.out.symm; have hc0 : w10.cell? ⟨g, 0, none⟩ = some (.string s2) := P.cellS65_0 HR.out.1; have hc1 : w10.cell? ⟨g, 1, none⟩ = some (.bool false) := P.cellS65_1 HR.out.1; have hc2 : w10.cell? ⟨g, 2, none⟩ = some (.bool false) := P.cellS65_2 HR.out.1; have hf2 : w10.frozen? ⟨g, 2, none⟩ = false := blk_frozen HR.out.1 2; have hcz0 : w10.cell? ⟨gr, 0, none⟩ = some (.slice none 0 0) := (blk_cell HP.out.rr 0).trans rfl; have hcz1 : w10.cell? ⟨gr, 1, none⟩ = some (.int .u32 0) := (blk_cell HP.out.rr 1).trans rfl; have hfz0 : w10.frozen? ⟨gr, 0, none⟩ = false := blk_frozen HP.out.rr 0; have hfz1 : w10.frozen? ⟨gr, 1, none⟩ = false := blk_frozen HP.out.rr 1; have hrp := (PI.ne HP.out); have hrp2 := (PI.ne HP.out).symm; have hcp1 : w10.cell? ⟨gp, 1, none⟩ = some (.int .u32 df) := (blk_cell HP.out.pr 1).trans rfl; have hfp1 : w10.frozen? ⟨gp, 1, none⟩ = false := blk_frozen HP.out.pr 1; have HP11 := Aside0.mk (PI.setP HP.out v); have HR11 := Aside0.mk (P.IsS65.far (p := ⟨gp, 1, none⟩) HR.out hng4 (.int .u32 v)); have HP12 := fun x => Aside0.mk (PI.setRd HP11.out HR11.out.1 HR11.out.2 2 (.bool x))))
                    refine bodyPost_ret (results_ctt rfl _ _ gr 25 #[.slice none 0 0, .int .u32 0] (0, 0) _ rfl (err_row (HP12 true).out.rr _ _) Try.underlying25 rfl (by kernel_rfl)) rfl ?_
                    exact ⟨_, rfl, Kd.S_nil _ _ _ _ _, below_set (below_set (HP12 true).out.bl (HP12 true).out.ger) (HP12 true).out.ger⟩
              · have hE2b := hE2.trans (decide_eq_false hdf)
                clear hE1 hE2
                rw [show lineW w0 ws = none by unfold lineW; rw [if_neg hon, if_neg hdf]] at hst
                subst hst
                go_wp2_with (first | ((with_reducible refine gate_dst (N := 32) rfl ?_); (try (refine gate_guard (by rfl) ?_; dsimp only)); refine box_event ?hg (N := 32) ?hd (cs := #[.string line, .bool false, .bool false]) (t := 65) ?hr ?_; (case hd => rfl); (case hg => rfl); (case hr => first | (go_simp; done) | (go_simp; rfl)); intro g hgx w6 hbox hbx; have n0_ := Aside0.mk (PI.below (by repeat (first | (with_reducible exact HP.out) | (with_reducible refine PI.drewN ?_ _) | (with_reducible refine PI.drew ?_) | (with_reducible refine PI.alloc ?_ _) | exact HP.out)) hbx); have n1_ := Aside0.mk (⟨hbox, by rw [hgx]; exact (PI.bl (by repeat (first | (with_reducible exact HP.out) | (with_reducible refine PI.drewN ?_ _) | (with_reducible refine PI.drew ?_) | (with_reducible refine PI.alloc ?_ _) | exact HP.out))).size⟩ : P.IsS65 w w6 g line false false); have NRG := Aside0.mk (by rw [hgx]; exact Nat.ne_of_lt (blk_lt (PI.rr (by repeat (first | (with_reducible exact HP.out) | (with_reducible refine PI.drewN ?_ _) | (with_reducible refine PI.drew ?_) | (with_reducible refine PI.alloc ?_ _) | exact HP.out)))) : gr ≠ g); have NPG := Aside0.mk (by rw [hgx]; exact Nat.ne_of_lt (blk_lt (PI.pr (by repeat (first | (with_reducible exact HP.out) | (with_reducible refine PI.drewN ?_ _) | (with_reducible refine PI.drew ?_) | (with_reducible refine PI.alloc ?_ _) | exact HP.out)))) : gp ≠ g); clear HP hbx hbox hgx; have HP := n0_; have HR := n1_; clear n0_ n1_) | ((with_reducible refine gate_callee (f := 37) rfl ?_); refine goesL_ (some 34) rfl rfl Try.func37 (by kernel_rfl) rfl #[.pointer (some ⟨g, 0, none⟩)] rfl (by (try simp only [List.map_toArray, List.map_cons, List.map_nil]); first | done | rfl | (simp only [List.length_drop, List.length_take]; rfl)) ?_; (with_reducible refine (policy_reader_word.calls g line false false wd s1 e1 false w _ ?side1 ?side2 A1.out).mono ?_); (case side1 => exact HR.out); (case side2 => exact (PI.bl (by repeat (first | (with_reducible exact HP.out) | (with_reducible refine PI.drewN ?_ _) | (with_reducible refine PI.drew ?_) | (with_reducible refine PI.alloc ?_ _) | exact HP.out)))); rintro e w7 ⟨rfl, hi, hb, hk⟩; refine ⟨_, rfl, ?_⟩; have n0_ := Aside0.mk hi; have n1_ := Aside0.mk (PI.keep (by repeat (first | (with_reducible exact HP.out) | (with_reducible refine PI.drewN ?_ _) | (with_reducible refine PI.drew ?_) | (with_reducible refine PI.alloc ?_ _) | exact HP.out)) hk HR.out.1 hb); clear HR HP hi hb hk; have HR := n0_; have HP := n1_; clear n0_ n1_; have hng1 := NRG.out; have hng2 := NRG.out.symm; have hng3 := NPG.out; have hng4 := NPG.out.symm; have hc0 : w7.cell? ⟨g, 0, none⟩ = some (.string s1) := P.cellS65_0 HR.out.1; have hc1 : w7.cell? ⟨g, 1, none⟩ = some (.bool e1) := P.cellS65_1 HR.out.1; have hc2 : w7.cell? ⟨g, 2, none⟩ = some (.bool false) := P.cellS65_2 HR.out.1; have hf2 : w7.frozen? ⟨g, 2, none⟩ = false := blk_frozen HR.out.1 2; have hcz0 : w7.cell? ⟨gr, 0, none⟩ = some (.slice none 0 0) := (blk_cell HP.out.rr 0).trans rfl; have hcz1 : w7.cell? ⟨gr, 1, none⟩ = some (.int .u32 0) := (blk_cell HP.out.rr 1).trans rfl; have hfz0 : w7.frozen? ⟨gr, 0, none⟩ = false := blk_frozen HP.out.rr 0; have hfz1 : w7.frozen? ⟨gr, 1, none⟩ = false := blk_frozen HP.out.rr 1; have HP9 := Aside0.mk (PI.setRd HP.out HR.out.1 HR.out.2 2 (.bool true))))
                refine bodyPost_ret (results_ctt rfl _ _ gr 25 #[.slice none 0 0, .int .u32 0] (0, 0) _ rfl (err_row HP9.out.rr _ _) Try.underlying25 rfl (by kernel_rfl)) rfl ?_
                exact ⟨_, rfl, Kd.S_nil _ _ _ _ _, below_set (below_set HP9.out.bl HP9.out.ger) HP9.out.ger⟩
        · have h10' : ((c : Int) == 10) = false := by simp; omega
          have h10n : ((c : Int) != 10) = true := by simp; omega
          go_wp2_with fail
          go_roundw
          case rel => exact ⟨pos + 1, at_, done, slv, L, df, rfl, rfl, HP5, by omega, by omega, hL, ⟨fun j hj h1 h2 => by
            by_cases e : j = pos
            · subst e; rw [HC.out]; exact h10
            · exact HBF.out j hj h1 (by omega)⟩, HRES⟩
          case measure => rw [HPOS.out, HP5.out.pos_]; omega
      · obtain ⟨w5, hw5⟩ : ∃ w5, setIter wr gi s (pos + (Utf8.decode s pos).2) = w5 := ⟨_, rfl⟩
        have hnx : ∀ ty, (Instr.next (.pointer (some ⟨gi, 0, none⟩)) true ty).run Try.prog wr = .ok (.tuple #[.bool true, .int .i64 pos, .int .i32 (Utf8.decode s pos).1]) w5 := fun ty => by
          rw [next_at wr gi s pos ty HP.out.it hlt, hw5]
        have HP5 := Aside0.mk (hw5 ▸ HP.out.next (pos + (Utf8.decode s pos).2))
        have hb := decode_high s pos hlt (by omega)
        have HS := Lib.hid (decode_span s pos hlt (by omega))
        clear ha hw5 HP
        generalize (Utf8.decode s pos).1 = c at *
        generalize (Utf8.decode s pos).2 = p2 at *
        have h10' : ((c : Int) == 10) = false := by simp; omega
        have h10n : ((c : Int) != 10) = true := by simp; omega
        go_wp2_with fail
        go_roundw
        case rel => exact ⟨pos + p2, at_, done, slv, L, df, rfl, rfl, HP5, by omega, HS.out.2.1, hL, ⟨fun j hj h1 h2 => by
          by_cases e : j < pos
          · exact HBF.out j hj h1 e
          · have := HS.out.2.2 j hj (by omega) h2; omega⟩, HRES⟩
        case measure => rw [HPOS.out, HP5.out.pos_]; have := HS.out.2.1; have := HS.out.1; omega
    · have hnx : ∀ ty, (Instr.next (.pointer (some ⟨gi, 0, none⟩)) true ty).run Try.prog wr = .ok (.tuple #[.bool false]) wr := fun ty => next_at_end wr gi s pos ty HP.out.it hlt
      have HLN := Lib.hid (spl_last s at_ (fun j hj h1 h2 => HBF.out j hj h1 (by omega)))
      have hdl : (s.data.toList.drop at_).length = s.size - at_ := by simp
      by_cases hat : at_ < s.size
      · have hres : res = ([], 0, (at_ : Int), 2) := by
          have h := HRES.out
          rw [HLN.out, plines, if_pos rfl, if_pos (by intro e; rw [e] at hdl; simp at hdl; omega)] at h
          exact h.symm
        subst hres
        have hd1 : decide ((at_ : Int) < (s.size : Int)) = true := decide_eq_true (by omega)
        have hd2 : decide (at_ < s.size) = true := decide_eq_true (by omega)
        clear HLN hdl
        have hcz0 : wr.cell? ⟨gr, 0, none⟩ = some (.slice none 0 0) := (blk_cell HP.out.rr 0).trans rfl
        have hcz1 : wr.cell? ⟨gr, 1, none⟩ = some (.int .u32 0) := (blk_cell HP.out.rr 1).trans rfl
        have hfz0 : wr.frozen? ⟨gr, 0, none⟩ = false := blk_frozen HP.out.rr 0
        have hfz1 : wr.frozen? ⟨gr, 1, none⟩ = false := blk_frozen HP.out.rr 1
        go_wp2
        refine bodyPost_ret (results_ctt rfl _ _ gr 25 #[.slice none 0 0, .int .u32 0] (0, 0) _ rfl (err_row HP.out.rr _ _) Try.underlying25 rfl (by kernel_rfl)) rfl ?_
        exact ⟨_, rfl, Kd.S_nil _ _ _ _ _, below_set (below_set HP.out.bl HP.out.ger) HP.out.ger⟩
      · have hnil : s.data.toList.drop at_ = [] := List.eq_nil_of_length_eq_zero (by omega)
        have hd1 : decide ((at_ : Int) < (s.size : Int)) = false := decide_eq_false (by omega)
        have hd2 : decide (at_ < s.size) = false := decide_eq_false (by omega)
        have hres : res = if done = true then (L, df, 0, 0) else ([], 0, (s.size : Int), 5) := by
          have h := HRES.out
          rw [HLN.out, plines, if_pos rfl, if_neg (by rw [hnil]; simp)] at h
          exact h.symm
        clear HLN hdl hnil
        cases done with
        | false =>
          replace hres : res = ([], 0, (s.size : Int), 5) := by simpa using hres
          subst hres
          have hcz0 : wr.cell? ⟨gr, 0, none⟩ = some (.slice none 0 0) := (blk_cell HP.out.rr 0).trans rfl
          have hcz1 : wr.cell? ⟨gr, 1, none⟩ = some (.int .u32 0) := (blk_cell HP.out.rr 1).trans rfl
          have hfz0 : wr.frozen? ⟨gr, 0, none⟩ = false := blk_frozen HP.out.rr 0
          have hfz1 : wr.frozen? ⟨gr, 1, none⟩ = false := blk_frozen HP.out.rr 1
          go_wp2
          refine bodyPost_ret (results_ctt rfl _ _ gr 25 #[.slice none 0 0, .int .u32 0] (0, 0) _ rfl (err_row HP.out.rr _ _) Try.underlying25 rfl (by kernel_rfl)) rfl ?_
          exact ⟨_, rfl, Kd.S_nil _ _ _ _ _, below_set (below_set HP.out.bl HP.out.ger) HP.out.ger⟩
        | true =>
          replace hres : res = (L, df, 0, 0) := by simpa using hres
          subst hres
          obtain ⟨Ao, co, rfl⟩ := Kd.S_slice HP.out.sl
          have hcz0 : wr.cell? ⟨gr, 0, none⟩ = some (.slice none 0 0) := (blk_cell HP.out.rr 0).trans rfl
          have hcz1 : wr.cell? ⟨gr, 1, none⟩ = some (.int .u32 0) := (blk_cell HP.out.rr 1).trans rfl
          have hfz0 : wr.frozen? ⟨gr, 0, none⟩ = false := blk_frozen HP.out.rr 0
          have hfz1 : wr.frozen? ⟨gr, 1, none⟩ = false := blk_frozen HP.out.rr 1
          have hcp0 : wr.cell? ⟨gp, 0, none⟩ = some (.slice Ao L.length co) := (blk_cell HP.out.pr 0).trans rfl
          have hcp1 : wr.cell? ⟨gp, 1, none⟩ = some (.int .u32 df) := (blk_cell HP.out.pr 1).trans rfl
          go_wp2
          refine bodyPost_ret (results_ctt rfl _ _ gr 25 #[.slice Ao L.length co, .int .u32 df] (0, 0) _ rfl (err_row HP.out.rr _ _) Try.underlying25 rfl (by kernel_rfl)) rfl ?_
          exact ⟨_, rfl, Kd.S_set (Kd.S_set HP.out.sl HP.out.rr (by decide) 0 _) (blk_put (cs := #[.slice none 0 0, .int .u32 0]) HP.out.rr 0 _ rfl) (by decide) 1 _, below_set (below_set HP.out.bl HP.out.ger) HP.out.ger⟩
theorem policyParse_walk (s : ByteArray) (hs : s.size ≤ 140737488351232) (w : World) :
    Calls Try.prog 20 #[.string s] w (PEnd w (parseV s.data.toList)) := by
  unfold parseV
  rw [← size_list]
  by_cases hb : 20000 < s.size
  · rw [if_pos hb]; exact policyParse_big s hb hs w
  · rw [if_neg hb]; exact policyParse_go s (by omega) _ rfl w
def policy_Parse.f (a0 : ByteArray) : Option (List P.S40 × Int × Int × Int) := if a0.size ≤ 140737488351232 then some (parseV a0.data.toList) else none
theorem policy_Parse.calls (a0 : ByteArray) (r1 : List P.S40) (r2 : Int) (r3 : Int) (r4 : Int) (w : World) (h : policy_Parse.f a0 = some (r1, r2, r3, r4)) :
    Calls Try.prog 20 #[.string a0] w fun e w' => ∃ v : Value, e = .returned (.tuple #[.agg #[v, .int .u32 r2], .int .i64 r3, .int .i64 r4]) ∧ Kd.S P.k40 40 w' w.heap.size (fun _ => True) v r1 ∧ Below w.heap.size w w' := by
  unfold policy_Parse.f at h
  split at h
  · rename_i hs
    have hw := Option.some.inj h
    have := policyParse_walk a0 hs w
    rw [hw] at this
    exact this
  · simp at h
end Go.Proofs.Ytekpbgmmogpbdaa.H
namespace Go.Proofs.Ytekpbgmmogpbdaa.P
open Go.RowKit Go.Proofs.Ytekpbgmmogpbdaa.H Go.Proofs.YtekpbgmmogpbdaaW.PrintWords Go.Proofs.YtekpbgmmogpbdaaW.PrintLast Go.Proofs.YtekpbgmmogpbdaaW.PrintMore
attribute [local go_sem] max2_int min2_int max_two min_two max_three min_three max_four min_four
set_option linter.unusedVariables false
set_option linter.unusedSimpArgs false
def hurdleref01_digits.f : Nat → Int → Option (ByteArray)
  | 0, _ => none
  | k + 1, a0 => (some (([(IntKind.u64.wrap (48 + (Int.tmod a0 16))) % 256] : List Int) : List Int)).bind fun y230 => (if (Int.tmod a0 16) > 9 then ((some (([(IntKind.u64.wrap (87 + (Int.tmod a0 16))) % 256] : List Int) : List Int)).bind fun y233 => (if a0 < 16 then (some (strOfNums y233)) else ((hurdleref01_digits.f k (IntKind.u64.wrap (Int.tdiv a0 16))).bind fun t236 => (if t236.size + (strOfNums y233).size ≤ 9223372036854775807 then (some (t236 ++ (strOfNums y233))) else (none))))) else (if a0 < 16 then (some (strOfNums y230)) else ((hurdleref01_digits.f k (IntKind.u64.wrap (Int.tdiv a0 16))).bind fun t237 => (if t237.size + (strOfNums y230).size ≤ 9223372036854775807 then (some (t237 ++ (strOfNums y230))) else (none)))))
set_option maxHeartbeats 8000000 in
set_option maxRecDepth 100000 in
theorem hurdleref01_digits.calls (k : Nat) : ∀ (a0 : Int) (r : ByteArray) (w : World) (h : hurdleref01_digits.f k a0 = some r),
    Calls Try.prog 71 #[.int .u64 a0] w fun e w' => e = .returned (.string r) ∧ Below w.heap.size w w' := by
  induction k using Nat.strongRecOn with
  | _ k ih =>
  intro a0 r w h
  cases k with
  | zero => exact absurd h (by simp [hurdleref01_digits.f])
  | succ k =>
  simp only [hurdleref01_digits.f] at h
  have HB := Aside0.mk (Below.refl w.heap.size w)
  have H : ((some (([(IntKind.u64.wrap (48 + (Int.tmod a0 16))) % 256] : List Int) : List Int)).bind fun y230 => (if (Int.tmod a0 16) > 9 then ((some (([(IntKind.u64.wrap (87 + (Int.tmod a0 16))) % 256] : List Int) : List Int)).bind fun y233 => (if a0 < 16 then (some (strOfNums y233)) else ((hurdleref01_digits.f k (IntKind.u64.wrap (Int.tdiv a0 16))).bind fun t236 => (if t236.size + (strOfNums y233).size ≤ 9223372036854775807 then (some (t236 ++ (strOfNums y233))) else (none))))) else (if a0 < 16 then (some (strOfNums y230)) else ((hurdleref01_digits.f k (IntKind.u64.wrap (Int.tdiv a0 16))).bind fun t237 => (if t237.size + (strOfNums y230).size ≤ 9223372036854775807 then (some (t237 ++ (strOfNums y230))) else (none)))))) = some r := h
  clear h
  obtain ⟨y230, hy230⟩ : ∃ y_ : List Int, y_ = (([(IntKind.u64.wrap (48 + (Int.tmod a0 16))) % 256] : List Int)) := ⟨_, rfl⟩
  replace H : (if (Int.tmod a0 16) > 9 then ((some (([(IntKind.u64.wrap (87 + (Int.tmod a0 16))) % 256] : List Int) : List Int)).bind fun y233 => (if a0 < 16 then (some (strOfNums y233)) else ((hurdleref01_digits.f k (IntKind.u64.wrap (Int.tdiv a0 16))).bind fun t236 => (if t236.size + (strOfNums y233).size ≤ 9223372036854775807 then (some (t236 ++ (strOfNums y233))) else (none))))) else (if a0 < 16 then (some (strOfNums y230)) else ((hurdleref01_digits.f k (IntKind.u64.wrap (Int.tdiv a0 16))).bind fun t237 => (if t237.size + (strOfNums y230).size ≤ 9223372036854775807 then (some (t237 ++ (strOfNums y230))) else (none))))) = some r := by first | (rw [hy230]; with_reducible exact H) | (have H2_ := (Option.bind_some _ _).symm.trans H; rw [hy230]; with_reducible exact H2_) | (have H2_ := (Option.bind_some _ _).symm.trans H; with_reducible exact H2_) | with_reducible exact H | (rw [hy230]; exact H) | exact H
  have Ny230 := Aside0.mk hy230
  clear hy230
  by_cases c2 : (Int.tmod a0 16) > 9
  · rw [if_pos c2] at H
    have c2b0 : decide (9 < (Int.tmod a0 16)) = true := decide_eq_true c2
    clear c2
    obtain ⟨y233, hy233⟩ : ∃ y_ : List Int, y_ = (([(IntKind.u64.wrap (87 + (Int.tmod a0 16))) % 256] : List Int)) := ⟨_, rfl⟩
    replace H : (if a0 < 16 then (some (strOfNums y233)) else ((hurdleref01_digits.f k (IntKind.u64.wrap (Int.tdiv a0 16))).bind fun t236 => (if t236.size + (strOfNums y233).size ≤ 9223372036854775807 then (some (t236 ++ (strOfNums y233))) else (none)))) = some r := by first | (rw [hy233]; with_reducible exact H) | (have H2_ := (Option.bind_some _ _).symm.trans H; rw [hy233]; with_reducible exact H2_) | (have H2_ := (Option.bind_some _ _).symm.trans H; with_reducible exact H2_) | with_reducible exact H | (rw [hy233]; exact H) | exact H
    have Ny233 := Aside0.mk hy233
    clear hy233
    by_cases c3 : a0 < 16
    · rw [if_pos c3] at H
      have c3b0 : decide (a0 < 16) = true := decide_eq_true c3
      clear c3
      obtain rfl := Option.some.inj H
      go_enter Try.func71, Try.ntmps71
      go_wp2_with (first | ((with_reducible refine gate_dst (N := 10) rfl ?_); refine Kd.R_lit (Kd.int .u8) _ 5 ?hg (N := 10) ?hd (xs := ([(IntKind.u64.wrap (48 + (Int.tmod a0 16))) % 256] : List Int)) (inner := [.int .u8 ((IntKind.u64.wrap (48 + (Int.tmod a0 16))) % 256)]) (ok := fun _ => True) (okp := fun _ => True) ?hr ?hp (fun _ hk => hk) trivial (Below.refl _ _) (Nat.le_refl _) (by simp) ?_; (case hd => rfl); (case hg => rfl); (case hr => first | (go_simp; done) | (go_simp; rfl)); (case hp => exact (Reps.one (show Kd.M (Kd.int .u8) _ _ _ ((IntKind.u64.wrap (48 + (Int.tmod a0 16))) % 256) [.int .u8 ((IntKind.u64.wrap (48 + (Int.tmod a0 16))) % 256)] from rfl) (Reps.none _ _))); intro v231 w4 ho5 hb hg_ hnew_; clear hg_ hnew_; (first | rw [← Ny230.out] at ho5 | (simp only [Int.reduceToNat] at ho5; rw [← Ny230.out] at ho5)); have n0_ := Aside0.mk (Kd.R_lower ho5 (below_size (by repeat (first | (with_reducible first | exact HB.out | apply below_alloc | apply pw_below_drewN | apply below_drew1) | exact HB.out)))); have n1_ := Aside0.mk (below_step (by repeat (first | (with_reducible first | exact HB.out | apply below_alloc | apply pw_below_drewN | apply below_drew1) | exact HB.out)) hb); clear HB; have HO232 := n0_; have HB := n1_; clear n0_ n1_; clear hb ho5; have hcv6 := own_string (P := Try.prog) Try.underlying101 Try.underlying5 Try.underlying9 (Kd.own_of_R HO232.out)) | ((with_reducible refine gate_dst (N := 17) rfl ?_); refine Kd.R_lit (Kd.int .u8) _ 5 ?hg (N := 17) ?hd (xs := ([(IntKind.u64.wrap (87 + (Int.tmod a0 16))) % 256] : List Int)) (inner := [.int .u8 ((IntKind.u64.wrap (87 + (Int.tmod a0 16))) % 256)]) (ok := fun _ => True) (okp := fun _ => True) ?hr ?hp (fun _ hk => hk) trivial (Below.refl _ _) (Nat.le_refl _) (by simp) ?_; (case hd => rfl); (case hg => rfl); (case hr => first | (go_simp; done) | (go_simp; rfl)); (case hp => exact (Reps.one (show Kd.M (Kd.int .u8) _ _ _ ((IntKind.u64.wrap (87 + (Int.tmod a0 16))) % 256) [.int .u8 ((IntKind.u64.wrap (87 + (Int.tmod a0 16))) % 256)] from rfl) (Reps.none _ _))); intro v234 w7 ho8 hb hg_ hnew_; clear hg_ hnew_; (first | rw [← Ny233.out] at ho8 | (simp only [Int.reduceToNat] at ho8; rw [← Ny233.out] at ho8)); have n0_ := Aside0.mk (Kd.R_elder' (by (with_reducible repeat (first | apply Kd.R_alloc | apply Kd.R_drewN | apply Kd.R_drew)); exact HO232.out) (Kd.R_base ho8) hb); have n1_ := Aside0.mk (Kd.R_lower (Kd.R_new' ho8 (Kd.R_lt (by (with_reducible repeat (first | apply Kd.R_alloc | apply Kd.R_drewN | apply Kd.R_drew)); exact HO232.out))) (below_size (by repeat (first | (with_reducible first | exact HB.out | apply below_alloc | apply pw_below_drewN | apply below_drew1) | exact HB.out)))); have n2_ := Aside0.mk (below_step (by repeat (first | (with_reducible first | exact HB.out | apply below_alloc | apply pw_below_drewN | apply below_drew1) | exact HB.out)) hb); clear HO232; clear HB; have HO232 := n0_; have HO235 := n1_; have HB := n2_; clear n0_ n1_ n2_; clear hb ho8; have hcv9 := own_string (P := Try.prog) Try.underlying101 Try.underlying5 Try.underlying9 (Kd.own_of_R HO235.out)))
      go_ret
      exact ⟨by first | rfl | (simp [errW_none, errW_some] <;> rfl) | (simp [*, errW_none, errW_some] <;> rfl), by repeat (first | (with_reducible first | exact HB.out | apply below_alloc | apply pw_below_drewN | apply below_drew1) | exact HB.out)⟩
    · rw [if_neg c3] at H
      have c3b0 : decide (a0 < 16) = false := decide_eq_false c3
      clear c3
      replace H := Option.bind_eq_some_iff.mp H
      obtain ⟨t236, A100, H⟩ := H
      replace H : (if t236.size + (strOfNums y233).size ≤ 9223372036854775807 then (some (t236 ++ (strOfNums y233))) else (none)) = some r := H
      have A10 := Aside0.mk A100
      clear A100
      by_cases c11 : t236.size + (strOfNums y233).size ≤ 9223372036854775807
      · rw [if_pos c11] at H
        have c11b0 := eq_true c11
        have c11b1 : decide (t236.size + (strOfNums y233).size ≤ 9223372036854775807) = true := decide_eq_true c11
        try have c11b2 : (9223372036854775807 < t236.size + (strOfNums y233).size) = False := eq_false (Nat.not_lt.2 c11)
        obtain rfl := Option.some.inj H
        go_enter Try.func71, Try.ntmps71
        go_wp2_with (first | ((with_reducible refine gate_dst (N := 10) rfl ?_); refine Kd.R_lit (Kd.int .u8) _ 5 ?hg (N := 10) ?hd (xs := ([(IntKind.u64.wrap (48 + (Int.tmod a0 16))) % 256] : List Int)) (inner := [.int .u8 ((IntKind.u64.wrap (48 + (Int.tmod a0 16))) % 256)]) (ok := fun _ => True) (okp := fun _ => True) ?hr ?hp (fun _ hk => hk) trivial (Below.refl _ _) (Nat.le_refl _) (by simp) ?_; (case hd => rfl); (case hg => rfl); (case hr => first | (go_simp; done) | (go_simp; rfl)); (case hp => exact (Reps.one (show Kd.M (Kd.int .u8) _ _ _ ((IntKind.u64.wrap (48 + (Int.tmod a0 16))) % 256) [.int .u8 ((IntKind.u64.wrap (48 + (Int.tmod a0 16))) % 256)] from rfl) (Reps.none _ _))); intro v231 w12 ho13 hb hg_ hnew_; clear hg_ hnew_; (first | rw [← Ny230.out] at ho13 | (simp only [Int.reduceToNat] at ho13; rw [← Ny230.out] at ho13)); have n0_ := Aside0.mk (Kd.R_lower ho13 (below_size (by repeat (first | (with_reducible first | exact HB.out | apply below_alloc | apply pw_below_drewN | apply below_drew1) | exact HB.out)))); have n1_ := Aside0.mk (below_step (by repeat (first | (with_reducible first | exact HB.out | apply below_alloc | apply pw_below_drewN | apply below_drew1) | exact HB.out)) hb); clear HB; have HO232 := n0_; have HB := n1_; clear n0_ n1_; clear hb ho13; have hcv14 := own_string (P := Try.prog) Try.underlying101 Try.underlying5 Try.underlying9 (Kd.own_of_R HO232.out)) | ((with_reducible refine gate_dst (N := 17) rfl ?_); refine Kd.R_lit (Kd.int .u8) _ 5 ?hg (N := 17) ?hd (xs := ([(IntKind.u64.wrap (87 + (Int.tmod a0 16))) % 256] : List Int)) (inner := [.int .u8 ((IntKind.u64.wrap (87 + (Int.tmod a0 16))) % 256)]) (ok := fun _ => True) (okp := fun _ => True) ?hr ?hp (fun _ hk => hk) trivial (Below.refl _ _) (Nat.le_refl _) (by simp) ?_; (case hd => rfl); (case hg => rfl); (case hr => first | (go_simp; done) | (go_simp; rfl)); (case hp => exact (Reps.one (show Kd.M (Kd.int .u8) _ _ _ ((IntKind.u64.wrap (87 + (Int.tmod a0 16))) % 256) [.int .u8 ((IntKind.u64.wrap (87 + (Int.tmod a0 16))) % 256)] from rfl) (Reps.none _ _))); intro v234 w15 ho16 hb hg_ hnew_; clear hg_ hnew_; (first | rw [← Ny233.out] at ho16 | (simp only [Int.reduceToNat] at ho16; rw [← Ny233.out] at ho16)); have n0_ := Aside0.mk (Kd.R_elder' (by (with_reducible repeat (first | apply Kd.R_alloc | apply Kd.R_drewN | apply Kd.R_drew)); exact HO232.out) (Kd.R_base ho16) hb); have n1_ := Aside0.mk (Kd.R_lower (Kd.R_new' ho16 (Kd.R_lt (by (with_reducible repeat (first | apply Kd.R_alloc | apply Kd.R_drewN | apply Kd.R_drew)); exact HO232.out))) (below_size (by repeat (first | (with_reducible first | exact HB.out | apply below_alloc | apply pw_below_drewN | apply below_drew1) | exact HB.out)))); have n2_ := Aside0.mk (below_step (by repeat (first | (with_reducible first | exact HB.out | apply below_alloc | apply pw_below_drewN | apply below_drew1) | exact HB.out)) hb); clear HO232; clear HB; have HO232 := n0_; have HO235 := n1_; have HB := n2_; clear n0_ n1_ n2_; clear hb ho16; have hcv17 := own_string (P := Try.prog) Try.underlying101 Try.underlying5 Try.underlying9 (Kd.own_of_R HO235.out)) | ((with_reducible refine gate_callee (f := 71) rfl ?_); refine goesL_ (some 24) rfl rfl Try.func71 (by kernel_rfl) rfl #[.int .u64 (IntKind.u64.wrap (Int.tdiv a0 16))] rfl (by (try simp only [List.map_toArray, List.map_cons, List.map_nil]); first | done | rfl | (simp only [List.length_drop, List.length_take]; rfl)) ?_; (with_reducible refine (ih k (by omega) (IntKind.u64.wrap (Int.tdiv a0 16)) t236 _ A10.out).mono ?_); rintro e w18 ⟨rfl, hb⟩; refine ⟨_, rfl, ?_⟩; have n0_ := Aside0.mk (Kd.R_below (by (with_reducible repeat (first | apply Kd.R_alloc | apply Kd.R_drewN | apply Kd.R_drew)); exact HO232.out) hb); have n1_ := Aside0.mk (Kd.R_below (by (with_reducible repeat (first | apply Kd.R_alloc | apply Kd.R_drewN | apply Kd.R_drew)); exact HO235.out) hb); have n2_ := Aside0.mk (below_step (by repeat (first | (with_reducible first | exact HB.out | apply below_alloc | apply pw_below_drewN | apply below_drew1) | exact HB.out)) hb); clear HO232; clear HO235; clear HB; have HO232 := n0_; have HO235 := n1_; have HB := n2_; clear n0_ n1_ n2_; (try clear hb); (try clear hb2); (try clear hk); (try clear hi)))
        go_ret
        exact ⟨by first | rfl | (simp [errW_none, errW_some] <;> rfl) | (simp [*, errW_none, errW_some] <;> rfl), by repeat (first | (with_reducible first | exact HB.out | apply below_alloc | apply pw_below_drewN | apply below_drew1) | exact HB.out)⟩
      · rw [if_neg c11] at H
        exact absurd H (by simp)
  · rw [if_neg c2] at H
    have c2b0 : decide (9 < (Int.tmod a0 16)) = false := decide_eq_false c2
    clear c2
    by_cases c19 : a0 < 16
    · rw [if_pos c19] at H
      have c19b0 : decide (a0 < 16) = true := decide_eq_true c19
      clear c19
      obtain rfl := Option.some.inj H
      go_enter Try.func71, Try.ntmps71
      go_wp2_with (first | ((with_reducible refine gate_dst (N := 10) rfl ?_); refine Kd.R_lit (Kd.int .u8) _ 5 ?hg (N := 10) ?hd (xs := ([(IntKind.u64.wrap (48 + (Int.tmod a0 16))) % 256] : List Int)) (inner := [.int .u8 ((IntKind.u64.wrap (48 + (Int.tmod a0 16))) % 256)]) (ok := fun _ => True) (okp := fun _ => True) ?hr ?hp (fun _ hk => hk) trivial (Below.refl _ _) (Nat.le_refl _) (by simp) ?_; (case hd => rfl); (case hg => rfl); (case hr => first | (go_simp; done) | (go_simp; rfl)); (case hp => exact (Reps.one (show Kd.M (Kd.int .u8) _ _ _ ((IntKind.u64.wrap (48 + (Int.tmod a0 16))) % 256) [.int .u8 ((IntKind.u64.wrap (48 + (Int.tmod a0 16))) % 256)] from rfl) (Reps.none _ _))); intro v231 w20 ho21 hb hg_ hnew_; clear hg_ hnew_; (first | rw [← Ny230.out] at ho21 | (simp only [Int.reduceToNat] at ho21; rw [← Ny230.out] at ho21)); have n0_ := Aside0.mk (Kd.R_lower ho21 (below_size (by repeat (first | (with_reducible first | exact HB.out | apply below_alloc | apply pw_below_drewN | apply below_drew1) | exact HB.out)))); have n1_ := Aside0.mk (below_step (by repeat (first | (with_reducible first | exact HB.out | apply below_alloc | apply pw_below_drewN | apply below_drew1) | exact HB.out)) hb); clear HB; have HO232 := n0_; have HB := n1_; clear n0_ n1_; clear hb ho21; have hcv22 := own_string (P := Try.prog) Try.underlying101 Try.underlying5 Try.underlying9 (Kd.own_of_R HO232.out)))
      go_ret
      exact ⟨by first | rfl | (simp [errW_none, errW_some] <;> rfl) | (simp [*, errW_none, errW_some] <;> rfl), by repeat (first | (with_reducible first | exact HB.out | apply below_alloc | apply pw_below_drewN | apply below_drew1) | exact HB.out)⟩
    · rw [if_neg c19] at H
      have c19b0 : decide (a0 < 16) = false := decide_eq_false c19
      clear c19
      replace H := Option.bind_eq_some_iff.mp H
      obtain ⟨t237, A230, H⟩ := H
      replace H : (if t237.size + (strOfNums y230).size ≤ 9223372036854775807 then (some (t237 ++ (strOfNums y230))) else (none)) = some r := H
      have A23 := Aside0.mk A230
      clear A230
      by_cases c24 : t237.size + (strOfNums y230).size ≤ 9223372036854775807
      · rw [if_pos c24] at H
        have c24b0 := eq_true c24
        have c24b1 : decide (t237.size + (strOfNums y230).size ≤ 9223372036854775807) = true := decide_eq_true c24
        try have c24b2 : (9223372036854775807 < t237.size + (strOfNums y230).size) = False := eq_false (Nat.not_lt.2 c24)
        obtain rfl := Option.some.inj H
        go_enter Try.func71, Try.ntmps71
        go_wp2_with (first | ((with_reducible refine gate_dst (N := 10) rfl ?_); refine Kd.R_lit (Kd.int .u8) _ 5 ?hg (N := 10) ?hd (xs := ([(IntKind.u64.wrap (48 + (Int.tmod a0 16))) % 256] : List Int)) (inner := [.int .u8 ((IntKind.u64.wrap (48 + (Int.tmod a0 16))) % 256)]) (ok := fun _ => True) (okp := fun _ => True) ?hr ?hp (fun _ hk => hk) trivial (Below.refl _ _) (Nat.le_refl _) (by simp) ?_; (case hd => rfl); (case hg => rfl); (case hr => first | (go_simp; done) | (go_simp; rfl)); (case hp => exact (Reps.one (show Kd.M (Kd.int .u8) _ _ _ ((IntKind.u64.wrap (48 + (Int.tmod a0 16))) % 256) [.int .u8 ((IntKind.u64.wrap (48 + (Int.tmod a0 16))) % 256)] from rfl) (Reps.none _ _))); intro v231 w25 ho26 hb hg_ hnew_; clear hg_ hnew_; (first | rw [← Ny230.out] at ho26 | (simp only [Int.reduceToNat] at ho26; rw [← Ny230.out] at ho26)); have n0_ := Aside0.mk (Kd.R_lower ho26 (below_size (by repeat (first | (with_reducible first | exact HB.out | apply below_alloc | apply pw_below_drewN | apply below_drew1) | exact HB.out)))); have n1_ := Aside0.mk (below_step (by repeat (first | (with_reducible first | exact HB.out | apply below_alloc | apply pw_below_drewN | apply below_drew1) | exact HB.out)) hb); clear HB; have HO232 := n0_; have HB := n1_; clear n0_ n1_; clear hb ho26; have hcv27 := own_string (P := Try.prog) Try.underlying101 Try.underlying5 Try.underlying9 (Kd.own_of_R HO232.out)) | ((with_reducible refine gate_callee (f := 71) rfl ?_); refine goesL_ (some 24) rfl rfl Try.func71 (by kernel_rfl) rfl #[.int .u64 (IntKind.u64.wrap (Int.tdiv a0 16))] rfl (by (try simp only [List.map_toArray, List.map_cons, List.map_nil]); first | done | rfl | (simp only [List.length_drop, List.length_take]; rfl)) ?_; (with_reducible refine (ih k (by omega) (IntKind.u64.wrap (Int.tdiv a0 16)) t237 _ A23.out).mono ?_); rintro e w28 ⟨rfl, hb⟩; refine ⟨_, rfl, ?_⟩; have n0_ := Aside0.mk (Kd.R_below (by (with_reducible repeat (first | apply Kd.R_alloc | apply Kd.R_drewN | apply Kd.R_drew)); exact HO232.out) hb); have n1_ := Aside0.mk (below_step (by repeat (first | (with_reducible first | exact HB.out | apply below_alloc | apply pw_below_drewN | apply below_drew1) | exact HB.out)) hb); clear HO232; clear HB; have HO232 := n0_; have HB := n1_; clear n0_ n1_; (try clear hb); (try clear hb2); (try clear hk); (try clear hi)))
        go_ret
        exact ⟨by first | rfl | (simp [errW_none, errW_some] <;> rfl) | (simp [*, errW_none, errW_some] <;> rfl), by repeat (first | (with_reducible first | exact HB.out | apply below_alloc | apply pw_below_drewN | apply below_drew1) | exact HB.out)⟩
      · rw [if_neg c24] at H
        exact absurd H (by simp)
def hurdleref09_Action.j0 : Nat → Int → Bool → Option (ByteArray)
  | 0, _, _ => none
  | k + 1, x0, x8 => if x8 = true then ((hurdleref01_Text.f ((x0 - 327680) % 4294967296)).bind fun t238 => (if 6 + t238.size ≤ 9223372036854775807 then (some ((⟨#[101, 114, 114, 111, 114, 58]⟩ : ByteArray) ++ t238)) else (none))) else (if x0 = 0 then (some (⟨#[107, 105, 108, 108]⟩ : ByteArray)) else (if x0 = 196608 then (some (⟨#[116, 114, 97, 112]⟩ : ByteArray)) else (if x0 = 2147221504 then (some (⟨#[108, 111, 103]⟩ : ByteArray)) else (if x0 = 2147418112 then (some (⟨#[97, 108, 108, 111, 119]⟩ : ByteArray)) else (some (⟨#[]⟩ : ByteArray))))))
def hurdleref09_Action.f (k : Nat) (a0 : Int) : Option (ByteArray) := if a0 ≥ 327680 then (hurdleref09_Action.j0 k a0 (decide (a0 ≤ 331775))) else (hurdleref09_Action.j0 k a0 false)
set_option maxHeartbeats 8000000 in
set_option maxRecDepth 100000 in
theorem hurdleref09_Action.calls (k : Nat) (a0 : Int) (r : ByteArray) (w : World) (h : hurdleref09_Action.f k a0 = some r) :
    Calls Try.prog 33 #[.int .u32 a0] w fun e w' => e = .returned (.string r) ∧ Below w.heap.size w w' := by
  have HB := Aside0.mk (Below.refl w.heap.size w)
  have H : (if a0 ≥ 327680 then (hurdleref09_Action.j0 k a0 (decide (a0 ≤ 331775))) else (hurdleref09_Action.j0 k a0 false)) = some r := h
  clear h
  have HC2 := Aside0.mk H
  clear H
  go_enter Try.func33, Try.ntmps33
  go_upto_region 1 with (fail)
  go_cut [8] (fun v8 wc => ∃ (kq : Nat) (x8_1 : Bool), v8 = .bool x8_1 ∧ Aside0 (hurdleref09_Action.j0 kq a0 x8_1 = some r) ∧ Aside0 (kq ≤ k) ∧ Aside0 (Below w.heap.size w wc))
  case first =>
    have H := HC2.out
    clear HC2
    by_cases c3 : a0 ≥ 327680
    · rw [if_pos c3] at H
      have c3b0 : decide (327680 ≤ a0) = true := decide_eq_true c3
      clear c3
      (first | rw [c3b0] | (simp only [i64_w, i32_w]; rw [c3b0]) | skip)
      have H' := Aside0.mk H
      clear H
      go_wp2
      go_meet
      case rel => exact ⟨_, (decide (a0 ≤ 331775)), (by first | rfl | (simp; done) | (simp [*]; done)), H', ⟨by first | omega | exact Nat.le_refl _⟩, ⟨by repeat (first | (with_reducible first | exact HB.out | apply below_alloc | apply pw_below_drewN | apply below_drew1) | exact HB.out)⟩⟩
    · rw [if_neg c3] at H
      have c3b0 : decide (327680 ≤ a0) = false := decide_eq_false c3
      clear c3
      (first | rw [c3b0] | (simp only [i64_w, i32_w]; rw [c3b0]) | skip)
      have H' := Aside0.mk H
      clear H
      go_wp2
      go_meet
      case rel => exact ⟨_, (false), (by first | rfl | (simp; done) | (simp [*]; done)), H', ⟨by first | omega | exact Nat.le_refl _⟩, ⟨by repeat (first | (with_reducible first | exact HB.out | apply below_alloc | apply pw_below_drewN | apply below_drew1) | exact HB.out)⟩⟩
  case rest =>
    clear HC2
    try clear p2
    try clear c3
    try clear c3b0
    obtain ⟨kq, x8_1, rfl, HA, HJ1, HB⟩ := hcut
    cases kq with
    | zero => exact absurd HA.out (by simp [hurdleref09_Action.j0])
    | succ kj1 =>
      have H := HA.out
      clear HA
      simp only [hurdleref09_Action.j0] at H
      by_cases c4 : x8_1 = true
      · subst c4
        have H1 : ((hurdleref01_Text.f ((a0 - 327680) % 4294967296)).bind fun t238 => (if 6 + t238.size ≤ 9223372036854775807 then (some ((⟨#[101, 114, 114, 111, 114, 58]⟩ : ByteArray) ++ t238)) else (none))) = some r := by rw [if_pos rfl] at H; exact H
        clear H
        have H := H1
        clear H1
        replace H := Option.bind_eq_some_iff.mp H
        obtain ⟨t238, A50, H⟩ := H
        replace H : (if 6 + t238.size ≤ 9223372036854775807 then (some ((⟨#[101, 114, 114, 111, 114, 58]⟩ : ByteArray) ++ t238)) else (none)) = some r := H
        have A5 := Aside0.mk A50
        clear A50
        by_cases c6 : 6 + t238.size ≤ 9223372036854775807
        · rw [if_pos c6] at H
          have c6b0 := eq_true c6
          have c6b1 : decide (6 + t238.size ≤ 9223372036854775807) = true := decide_eq_true c6
          try have c6b2 : (9223372036854775807 < 6 + t238.size) = False := eq_false (Nat.not_lt.2 c6)
          obtain rfl := Option.some.inj H
          go_wp2_with (first | ((with_reducible refine gate_callee (f := 54) rfl ?_); refine goesL_ (some 12) rfl rfl Try.func54 (by kernel_rfl) rfl #[.int .u64 ((a0 - 327680) % 4294967296)] rfl (by (try simp only [List.map_toArray, List.map_cons, List.map_nil]); first | done | rfl | (simp only [List.length_drop, List.length_take]; rfl)) ?_; (with_reducible refine (hurdleref01_Text.calls ((a0 - 327680) % 4294967296) t238 _ A5.out).mono ?_); rintro e w7 ⟨rfl, hb⟩; refine ⟨_, rfl, ?_⟩; have n0_ := Aside0.mk (below_step (by repeat (first | (with_reducible first | exact HB.out | apply below_alloc | apply pw_below_drewN | apply below_drew1) | exact HB.out)) hb); clear HB; have HB := n0_; clear n0_; (try clear hb); (try clear hb2); (try clear hk); (try clear hi)))
          go_ret
          exact ⟨by first | rfl | (simp [errW_none, errW_some] <;> rfl) | (simp [*, errW_none, errW_some] <;> rfl), by repeat (first | (with_reducible first | exact HB.out | apply below_alloc | apply pw_below_drewN | apply below_drew1) | exact HB.out)⟩
        · rw [if_neg c6] at H
          exact absurd H (by simp)
      · replace c4 := Bool.eq_false_iff.mpr c4
        subst c4
        have H1 : (if a0 = 0 then (some (⟨#[107, 105, 108, 108]⟩ : ByteArray)) else (if a0 = 196608 then (some (⟨#[116, 114, 97, 112]⟩ : ByteArray)) else (if a0 = 2147221504 then (some (⟨#[108, 111, 103]⟩ : ByteArray)) else (if a0 = 2147418112 then (some (⟨#[97, 108, 108, 111, 119]⟩ : ByteArray)) else (some (⟨#[]⟩ : ByteArray)))))) = some r := by rw [if_neg (show ¬ (false = true) by decide)] at H; exact H
        clear H
        have H := H1
        clear H1
        by_cases c8 : a0 = 0
        · rw [if_pos c8] at H
          have c8b0 : (a0 == 0) = true := beq_iff_eq.mpr c8
          have c8b1 : (a0 != 0) = false := bne_eq_false_iff_eq.mpr c8
          clear c8
          obtain rfl := Option.some.inj H
          go_wp2
          go_ret
          exact ⟨by first | rfl | (simp [errW_none, errW_some] <;> rfl) | (simp [*, errW_none, errW_some] <;> rfl), by repeat (first | (with_reducible first | exact HB.out | apply below_alloc | apply pw_below_drewN | apply below_drew1) | exact HB.out)⟩
        · rw [if_neg c8] at H
          have c8b0 : (a0 == 0) = false := beq_eq_false_iff_ne.mpr c8
          have c8b1 : (a0 != 0) = true := bne_iff_ne.mpr c8
          by_cases c9 : a0 = 196608
          · rw [if_pos c9] at H
            have c9b0 : (a0 == 196608) = true := beq_iff_eq.mpr c9
            have c9b1 : (a0 != 196608) = false := bne_eq_false_iff_eq.mpr c9
            clear c9
            obtain rfl := Option.some.inj H
            go_wp2
            go_ret
            exact ⟨by first | rfl | (simp [errW_none, errW_some] <;> rfl) | (simp [*, errW_none, errW_some] <;> rfl), by repeat (first | (with_reducible first | exact HB.out | apply below_alloc | apply pw_below_drewN | apply below_drew1) | exact HB.out)⟩
          · rw [if_neg c9] at H
            have c9b0 : (a0 == 196608) = false := beq_eq_false_iff_ne.mpr c9
            have c9b1 : (a0 != 196608) = true := bne_iff_ne.mpr c9
            by_cases c10 : a0 = 2147221504
            · rw [if_pos c10] at H
              have c10b0 : (a0 == 2147221504) = true := beq_iff_eq.mpr c10
              have c10b1 : (a0 != 2147221504) = false := bne_eq_false_iff_eq.mpr c10
              clear c10
              obtain rfl := Option.some.inj H
              go_wp2
              go_ret
              exact ⟨by first | rfl | (simp [errW_none, errW_some] <;> rfl) | (simp [*, errW_none, errW_some] <;> rfl), by repeat (first | (with_reducible first | exact HB.out | apply below_alloc | apply pw_below_drewN | apply below_drew1) | exact HB.out)⟩
            · rw [if_neg c10] at H
              have c10b0 : (a0 == 2147221504) = false := beq_eq_false_iff_ne.mpr c10
              have c10b1 : (a0 != 2147221504) = true := bne_iff_ne.mpr c10
              by_cases c11 : a0 = 2147418112
              · rw [if_pos c11] at H
                have c11b0 : (a0 == 2147418112) = true := beq_iff_eq.mpr c11
                have c11b1 : (a0 != 2147418112) = false := bne_eq_false_iff_eq.mpr c11
                clear c11
                obtain rfl := Option.some.inj H
                go_wp2
                go_ret
                exact ⟨by first | rfl | (simp [errW_none, errW_some] <;> rfl) | (simp [*, errW_none, errW_some] <;> rfl), by repeat (first | (with_reducible first | exact HB.out | apply below_alloc | apply pw_below_drewN | apply below_drew1) | exact HB.out)⟩
              · rw [if_neg c11] at H
                have c11b0 : (a0 == 2147418112) = false := beq_eq_false_iff_ne.mpr c11
                have c11b1 : (a0 != 2147418112) = true := bne_iff_ne.mpr c11
                obtain rfl := Option.some.inj H
                go_wp2
                go_ret
                exact ⟨by first | rfl | (simp [errW_none, errW_some] <;> rfl) | (simp [*, errW_none, errW_some] <;> rfl), by repeat (first | (with_reducible first | exact HB.out | apply below_alloc | apply pw_below_drewN | apply below_drew1) | exact HB.out)⟩
def hurdleref08_Right.f (a0_0 : Int) (a0_1 : Int) (a0_2 : Int) (a0_3 : Int) : Option (Bool) := if a0_0 ≥ 0 then (if a0_0 ≤ 5 then (if a0_1 ≥ 0 then (some (decide (a0_1 ≤ 5))) else (some false)) else (some false)) else (some false)
set_option maxHeartbeats 8000000 in
set_option maxRecDepth 100000 in
theorem hurdleref08_Right.calls (a0_0 : Int) (a0_1 : Int) (a0_2 : Int) (a0_3 : Int) (r : Bool) (w : World) (h : hurdleref08_Right.f a0_0 a0_1 a0_2 a0_3 = some r) :
    Calls Try.prog 34 #[.agg #[.int .i64 a0_0, .int .i64 a0_1, .int .u64 a0_2, .int .u64 a0_3]] w fun e w' => e = .returned (.bool r) ∧ Below w.heap.size w w' := by
  have hu61 := Try.underlying61
  have HB := Aside0.mk (Below.refl w.heap.size w)
  have H : (if a0_0 ≥ 0 then (if a0_0 ≤ 5 then (if a0_1 ≥ 0 then (some (decide (a0_1 ≤ 5))) else (some false)) else (some false)) else (some false)) = some r := h
  clear h
  by_cases c2 : a0_0 ≥ 0
  · rw [if_pos c2] at H
    have c2b0 : decide (0 ≤ a0_0) = true := decide_eq_true c2
    clear c2
    by_cases c3 : a0_0 ≤ 5
    · rw [if_pos c3] at H
      have c3b0 : decide (a0_0 ≤ 5) = true := decide_eq_true c3
      clear c3
      by_cases c4 : a0_1 ≥ 0
      · rw [if_pos c4] at H
        have c4b0 : decide (0 ≤ a0_1) = true := decide_eq_true c4
        clear c4
        obtain rfl := Option.some.inj H
        go_enter Try.func34, Try.ntmps34
        go_wp2_with (first | ((with_reducible refine gate_dst (N := 1) rfl ?_); refine box_event ?hg (N := 1) ?hd (cs := #[.int .i64 a0_0, .int .i64 a0_1, .int .u64 a0_2, .int .u64 a0_3]) (t := 61) ?hr ?_; (case hd => rfl); (case hg => rfl); (case hr => first | (go_simp; done) | (go_simp; rfl)); intro gb239 hg w5 hbox hb; have n0_ := Aside0.mk (below_step (by repeat (first | (with_reducible first | exact HB.out | apply below_alloc | apply pw_below_drewN | apply below_drew1) | exact HB.out)) hb); have n1_ := Aside0.mk (hbox); have n2_ := Aside0.mk ((by rw [hg]; exact (below_size (by repeat (first | (with_reducible first | exact HB.out | apply below_alloc | apply pw_below_drewN | apply below_drew1) | exact HB.out))) : w.heap.size ≤ gb239)); have n3_ := Aside0.mk ((by rw [hg]; exact (below_size (by repeat (first | (with_reducible first | exact HB.out | apply below_alloc | apply pw_below_drewN | apply below_drew1) | exact HB.out))) : w.heap.size ≤ gb239)); clear HB; have HB := n0_; have BK239 := n1_; have GW239 := n2_; have GE239 := n3_; clear n0_ n1_ n2_ n3_; clear hb hbox hg; have hcz6_0 : w5.cell? ⟨gb239, 0, none⟩ = some (.int .i64 a0_0) := (blk_cell BK239.out 0).trans rfl; have hcz6_1 : w5.cell? ⟨gb239, 1, none⟩ = some (.int .i64 a0_1) := (blk_cell BK239.out 1).trans rfl; have hcz6_2 : w5.cell? ⟨gb239, 2, none⟩ = some (.int .u64 a0_2) := (blk_cell BK239.out 2).trans rfl; have hcz6_3 : w5.cell? ⟨gb239, 3, none⟩ = some (.int .u64 a0_3) := (blk_cell BK239.out 3).trans rfl; have hfz6_0 := blk_frozen BK239.out 0; have hfz6_1 := blk_frozen BK239.out 1; have hfz6_2 := blk_frozen BK239.out 2; have hfz6_3 := blk_frozen BK239.out 3))
        go_ret
        exact ⟨by first | rfl | (simp [errW_none, errW_some] <;> rfl) | (simp [*, errW_none, errW_some] <;> rfl), by repeat (first | (with_reducible first | exact HB.out | apply below_alloc | apply pw_below_drewN | apply below_drew1 | refine below_set ?_ GE239.out) | exact HB.out)⟩
      · rw [if_neg c4] at H
        have c4b0 : decide (0 ≤ a0_1) = false := decide_eq_false c4
        clear c4
        obtain rfl := Option.some.inj H
        go_enter Try.func34, Try.ntmps34
        go_wp2_with (first | ((with_reducible refine gate_dst (N := 1) rfl ?_); refine box_event ?hg (N := 1) ?hd (cs := #[.int .i64 a0_0, .int .i64 a0_1, .int .u64 a0_2, .int .u64 a0_3]) (t := 61) ?hr ?_; (case hd => rfl); (case hg => rfl); (case hr => first | (go_simp; done) | (go_simp; rfl)); intro gb239 hg w7 hbox hb; have n0_ := Aside0.mk (below_step (by repeat (first | (with_reducible first | exact HB.out | apply below_alloc | apply pw_below_drewN | apply below_drew1) | exact HB.out)) hb); have n1_ := Aside0.mk (hbox); have n2_ := Aside0.mk ((by rw [hg]; exact (below_size (by repeat (first | (with_reducible first | exact HB.out | apply below_alloc | apply pw_below_drewN | apply below_drew1) | exact HB.out))) : w.heap.size ≤ gb239)); have n3_ := Aside0.mk ((by rw [hg]; exact (below_size (by repeat (first | (with_reducible first | exact HB.out | apply below_alloc | apply pw_below_drewN | apply below_drew1) | exact HB.out))) : w.heap.size ≤ gb239)); clear HB; have HB := n0_; have BK239 := n1_; have GW239 := n2_; have GE239 := n3_; clear n0_ n1_ n2_ n3_; clear hb hbox hg; have hcz8_0 : w7.cell? ⟨gb239, 0, none⟩ = some (.int .i64 a0_0) := (blk_cell BK239.out 0).trans rfl; have hcz8_1 : w7.cell? ⟨gb239, 1, none⟩ = some (.int .i64 a0_1) := (blk_cell BK239.out 1).trans rfl; have hcz8_2 : w7.cell? ⟨gb239, 2, none⟩ = some (.int .u64 a0_2) := (blk_cell BK239.out 2).trans rfl; have hcz8_3 : w7.cell? ⟨gb239, 3, none⟩ = some (.int .u64 a0_3) := (blk_cell BK239.out 3).trans rfl; have hfz8_0 := blk_frozen BK239.out 0; have hfz8_1 := blk_frozen BK239.out 1; have hfz8_2 := blk_frozen BK239.out 2; have hfz8_3 := blk_frozen BK239.out 3))
        go_ret
        exact ⟨by first | rfl | (simp [errW_none, errW_some] <;> rfl) | (simp [*, errW_none, errW_some] <;> rfl), by repeat (first | (with_reducible first | exact HB.out | apply below_alloc | apply pw_below_drewN | apply below_drew1 | refine below_set ?_ GE239.out) | exact HB.out)⟩
    · rw [if_neg c3] at H
      have c3b0 : decide (a0_0 ≤ 5) = false := decide_eq_false c3
      clear c3
      obtain rfl := Option.some.inj H
      go_enter Try.func34, Try.ntmps34
      go_wp2_with (first | ((with_reducible refine gate_dst (N := 1) rfl ?_); refine box_event ?hg (N := 1) ?hd (cs := #[.int .i64 a0_0, .int .i64 a0_1, .int .u64 a0_2, .int .u64 a0_3]) (t := 61) ?hr ?_; (case hd => rfl); (case hg => rfl); (case hr => first | (go_simp; done) | (go_simp; rfl)); intro gb239 hg w9 hbox hb; have n0_ := Aside0.mk (below_step (by repeat (first | (with_reducible first | exact HB.out | apply below_alloc | apply pw_below_drewN | apply below_drew1) | exact HB.out)) hb); have n1_ := Aside0.mk (hbox); have n2_ := Aside0.mk ((by rw [hg]; exact (below_size (by repeat (first | (with_reducible first | exact HB.out | apply below_alloc | apply pw_below_drewN | apply below_drew1) | exact HB.out))) : w.heap.size ≤ gb239)); have n3_ := Aside0.mk ((by rw [hg]; exact (below_size (by repeat (first | (with_reducible first | exact HB.out | apply below_alloc | apply pw_below_drewN | apply below_drew1) | exact HB.out))) : w.heap.size ≤ gb239)); clear HB; have HB := n0_; have BK239 := n1_; have GW239 := n2_; have GE239 := n3_; clear n0_ n1_ n2_ n3_; clear hb hbox hg; have hcz10_0 : w9.cell? ⟨gb239, 0, none⟩ = some (.int .i64 a0_0) := (blk_cell BK239.out 0).trans rfl; have hcz10_1 : w9.cell? ⟨gb239, 1, none⟩ = some (.int .i64 a0_1) := (blk_cell BK239.out 1).trans rfl; have hcz10_2 : w9.cell? ⟨gb239, 2, none⟩ = some (.int .u64 a0_2) := (blk_cell BK239.out 2).trans rfl; have hcz10_3 : w9.cell? ⟨gb239, 3, none⟩ = some (.int .u64 a0_3) := (blk_cell BK239.out 3).trans rfl; have hfz10_0 := blk_frozen BK239.out 0; have hfz10_1 := blk_frozen BK239.out 1; have hfz10_2 := blk_frozen BK239.out 2; have hfz10_3 := blk_frozen BK239.out 3))
      go_ret
      exact ⟨by first | rfl | (simp [errW_none, errW_some] <;> rfl) | (simp [*, errW_none, errW_some] <;> rfl), by repeat (first | (with_reducible first | exact HB.out | apply below_alloc | apply pw_below_drewN | apply below_drew1 | refine below_set ?_ GE239.out) | exact HB.out)⟩
  · rw [if_neg c2] at H
    have c2b0 : decide (0 ≤ a0_0) = false := decide_eq_false c2
    clear c2
    obtain rfl := Option.some.inj H
    go_enter Try.func34, Try.ntmps34
    go_wp2_with (first | ((with_reducible refine gate_dst (N := 1) rfl ?_); refine box_event ?hg (N := 1) ?hd (cs := #[.int .i64 a0_0, .int .i64 a0_1, .int .u64 a0_2, .int .u64 a0_3]) (t := 61) ?hr ?_; (case hd => rfl); (case hg => rfl); (case hr => first | (go_simp; done) | (go_simp; rfl)); intro gb239 hg w11 hbox hb; have n0_ := Aside0.mk (below_step (by repeat (first | (with_reducible first | exact HB.out | apply below_alloc | apply pw_below_drewN | apply below_drew1) | exact HB.out)) hb); have n1_ := Aside0.mk (hbox); have n2_ := Aside0.mk ((by rw [hg]; exact (below_size (by repeat (first | (with_reducible first | exact HB.out | apply below_alloc | apply pw_below_drewN | apply below_drew1) | exact HB.out))) : w.heap.size ≤ gb239)); have n3_ := Aside0.mk ((by rw [hg]; exact (below_size (by repeat (first | (with_reducible first | exact HB.out | apply below_alloc | apply pw_below_drewN | apply below_drew1) | exact HB.out))) : w.heap.size ≤ gb239)); clear HB; have HB := n0_; have BK239 := n1_; have GW239 := n2_; have GE239 := n3_; clear n0_ n1_ n2_ n3_; clear hb hbox hg; have hcz12_0 : w11.cell? ⟨gb239, 0, none⟩ = some (.int .i64 a0_0) := (blk_cell BK239.out 0).trans rfl; have hcz12_1 : w11.cell? ⟨gb239, 1, none⟩ = some (.int .i64 a0_1) := (blk_cell BK239.out 1).trans rfl; have hcz12_2 : w11.cell? ⟨gb239, 2, none⟩ = some (.int .u64 a0_2) := (blk_cell BK239.out 2).trans rfl; have hcz12_3 : w11.cell? ⟨gb239, 3, none⟩ = some (.int .u64 a0_3) := (blk_cell BK239.out 3).trans rfl; have hfz12_0 := blk_frozen BK239.out 0; have hfz12_1 := blk_frozen BK239.out 1; have hfz12_2 := blk_frozen BK239.out 2; have hfz12_3 := blk_frozen BK239.out 3))
    go_ret
    exact ⟨by first | rfl | (simp [errW_none, errW_some] <;> rfl) | (simp [*, errW_none, errW_some] <;> rfl), by repeat (first | (with_reducible first | exact HB.out | apply below_alloc | apply pw_below_drewN | apply below_drew1 | refine below_set ?_ GE239.out) | exact HB.out)⟩
end Go.Proofs.Ytekpbgmmogpbdaa.P
set_option linter.unusedVariables false
set_option linter.unusedSimpArgs false
set_option maxRecDepth 100000
namespace Go.Proofs.Ytekpbgmmogpbdaa.H
open Go.RowKit Go.Proofs.Ytekpbgmmogpbdaa.P Go.Proofs.YtekpbgmmogpbdaaW.PrintWords
def kn1 : List UInt8 := [111, 110, 32, 120, 54, 52, 32, 119, 114, 105, 116, 101, 32, 97, 108, 108, 111, 119, 32, 105, 102, 32, 97, 48, 32, 48, 120, 102, 102, 102, 102, 102, 102, 102, 102, 32, 101, 113, 32, 48, 120, 49, 10, 100, 101, 102, 97, 117, 108, 116, 32, 107, 105, 108, 108, 10]
def knL : List S40 := [⟨3221225534, 1, [⟨0, 0, 4294967295, 1⟩], 2147418112⟩]
set_option maxRecDepth 100000 in
theorem kn1_parse : parseV kn1 = (knL, 0, 0, 0) := by kernel_rfl
theorem parse_f (s : ByteArray) (h : s.size ≤ 140737488351232) : policy_Parse.f s = some (parseV s.data.toList) := by unfold policy_Parse.f; rw [if_pos h]
end Go.Proofs.Ytekpbgmmogpbdaa.H
set_option linter.unusedVariables false
set_option linter.unusedSimpArgs false
set_option maxRecDepth 100000
namespace Go.Proofs.Ytekpbgmmogpbdaa.H
open Go.RowKit Go.Proofs.Ytekpbgmmogpbdaa.P Go.Proofs.YtekpbgmmogpbdaaW.PrintWords Go.Proofs.YtekpbgmmogpbdaaW.PrintLast Go.Proofs.YtekpbgmmogpbdaaW.PrintMore
attribute [local go_sem] max2_int min2_int max_two min_two max_three min_three max_four min_four
theorem put9 (W : World) (g : Nat) (t : TypeId) (o0 o1 o2 o3 o4 o5 o6 o7 o8 v0 v1 v2 v3 v4 v5 v6 v7 v8 : Value) (h : W.heap[g]? = some (.cells #[o0, o1, o2, o3, o4, o5, o6, o7, o8] t (0, 0))) :
    (((((((((W.setCell ⟨g, 0, none⟩ v0).setCell ⟨g, 1, none⟩ v1).setCell ⟨g, 2, none⟩ v2).setCell ⟨g, 3, none⟩ v3).setCell ⟨g, 4, none⟩ v4).setCell ⟨g, 5, none⟩ v5).setCell ⟨g, 6, none⟩ v6).setCell ⟨g, 7, none⟩ v7).setCell ⟨g, 8, none⟩ v8).heap[g]? = some (.cells #[v0, v1, v2, v3, v4, v5, v6, v7, v8] t (0, 0)) ∧ (∀ k, k ≠ g → (((((((((W.setCell ⟨g, 0, none⟩ v0).setCell ⟨g, 1, none⟩ v1).setCell ⟨g, 2, none⟩ v2).setCell ⟨g, 3, none⟩ v3).setCell ⟨g, 4, none⟩ v4).setCell ⟨g, 5, none⟩ v5).setCell ⟨g, 6, none⟩ v6).setCell ⟨g, 7, none⟩ v7).setCell ⟨g, 8, none⟩ v8).heap[k]? = W.heap[k]?) ∧ ∀ (w : World), Below w.heap.size w W → w.heap.size ≤ g → Below w.heap.size w (((((((((W.setCell ⟨g, 0, none⟩ v0).setCell ⟨g, 1, none⟩ v1).setCell ⟨g, 2, none⟩ v2).setCell ⟨g, 3, none⟩ v3).setCell ⟨g, 4, none⟩ v4).setCell ⟨g, 5, none⟩ v5).setCell ⟨g, 6, none⟩ v6).setCell ⟨g, 7, none⟩ v7).setCell ⟨g, 8, none⟩ v8) := by
  have h0 := blk_put (cs := #[o0, o1, o2, o3, o4, o5, o6, o7, o8]) h 0 v0 rfl
  have h1 := blk_put (cs := #[v0, o1, o2, o3, o4, o5, o6, o7, o8]) h0 1 v1 rfl
  have h2 := blk_put (cs := #[v0, v1, o2, o3, o4, o5, o6, o7, o8]) h1 2 v2 rfl
  have h3 := blk_put (cs := #[v0, v1, v2, o3, o4, o5, o6, o7, o8]) h2 3 v3 rfl
  have h4 := blk_put (cs := #[v0, v1, v2, v3, o4, o5, o6, o7, o8]) h3 4 v4 rfl
  have h5 := blk_put (cs := #[v0, v1, v2, v3, v4, o5, o6, o7, o8]) h4 5 v5 rfl
  have h6 := blk_put (cs := #[v0, v1, v2, v3, v4, v5, o6, o7, o8]) h5 6 v6 rfl
  have h7 := blk_put (cs := #[v0, v1, v2, v3, v4, v5, v6, o7, o8]) h6 7 v7 rfl
  have h8 := blk_put (cs := #[v0, v1, v2, v3, v4, v5, v6, v7, o8]) h7 8 v8 rfl
  refine ⟨h8, fun k hk => ?_, fun w hb hg => ?_⟩
  · simp only [heap_setCell_other _ ⟨g, _, none⟩ k _ hk]
  · exact (below_set (below_set (below_set (below_set (below_set (below_set (below_set (below_set (below_set hb hg) hg) hg) hg) hg) hg) hg) hg) hg)
theorem kn_polOk : polOk knL 0 := (parse_only kn1_parse).2.2.1
theorem kn_polB : polB knL 0 = true := (polOk_iff (polOk_K kn_polOk)).2 kn_polOk
theorem kn_ags (x : Int) (h : 0 ≤ x ∧ x < 18446744073709551616) : IsDat 1 3221225534 0 [x, 0, 0, 0, 0, 0] := ⟨rfl, by decide, by decide, by decide, fun k => by
  match k with
  | 0 => exact h
  | 1 | 2 | 3 | 4 | 5 => exact ⟨Int.le_refl _, by show (0 : Int) < _; omega⟩
  | k + 6 => exact ⟨by simp, by simp⟩⟩
set_option maxRecDepth 100000 in
theorem kn_j1 : judgeR knL 0 1 3221225534 [1099511627777, 0, 0, 0, 0, 0] = (2147418112, 0) := by unfold judgeR; rw [if_pos kn_polB]; kernel_rfl
set_option maxRecDepth 100000 in
theorem kn_j2 : judgeR knL 0 1 3221225534 [2, 0, 0, 0, 0, 0] = (0, 0) := by unfold judgeR; rw [if_pos kn_polB]; kernel_rfl
set_option maxRecDepth 100000 in
theorem kn_f2 : firstR knL 0 1 3221225534 [2, 0, 0, 0, 0, 0] = (-1, 0) := by unfold firstR; rw [if_pos kn_polB]; kernel_rfl
set_option maxHeartbeats 8000000 in
theorem Knows11 : Gives Try.prog 23 #[] (.bool true) := by
  intro w
  have hcl : ∀ x ∈ knL, x.f2.length ≤ 1000 := by intro x hx; have := (kn_polOk.2.1 x hx).2.2.2.1; omega
  have HPA : Aside0 (∀ W : World, Calls Try.prog 20 #[.string (⟨#[111, 110, 32, 120, 54, 52, 32, 119, 114, 105, 116, 101, 32, 97, 108, 108, 111, 119, 32, 105, 102, 32, 97, 48, 32, 48, 120, 102, 102, 102, 102, 102, 102, 102, 102, 32, 101, 113, 32, 48, 120, 49, 10, 100, 101, 102, 97, 117, 108, 116, 32, 107, 105, 108, 108, 10]⟩ : ByteArray)] W fun e w' => ∃ v : Value, e = .returned (.tuple #[.agg #[v, .int .u32 0], .int .i64 0, .int .i64 0]) ∧ Kd.S k40 40 w' W.heap.size (fun _ => True) v knL ∧ Below W.heap.size W w') := ⟨fun W => policy_Parse.calls (⟨#[111, 110, 32, 120, 54, 52, 32, 119, 114, 105, 116, 101, 32, 97, 108, 108, 111, 119, 32, 105, 102, 32, 97, 48, 32, 48, 120, 102, 102, 102, 102, 102, 102, 102, 102, 32, 101, 113, 32, 48, 120, 49, 10, 100, 101, 102, 97, 117, 108, 116, 32, 107, 105, 108, 108, 10]⟩ : ByteArray) knL 0 0 0 W (by rw [parse_f _ (by decide), ← kn1_parse]; rfl)⟩
  have HJ1 : Aside0 (∀ (A : Option Addr) (c : Nat) (W : World), knL.length ≤ c → k40.C W A knL.length knL → Calls Try.prog 25 #[.agg #[.slice A knL.length c, .int .u32 0], .agg #[.int .u32 1, .int .u32 3221225534, .int .u64 0, .int .u64 1099511627777, .int .u64 0, .int .u64 0, .int .u64 0, .int .u64 0, .int .u64 0]] W fun e w' => e = .returned (.tuple #[.int .u32 2147418112, .int .i64 0]) ∧ Below W.heap.size W w') := ⟨fun A c W hc hC => by
    have := Judge_lit A c knL 0 1 3221225534 0 1099511627777 0 0 0 0 0 (kn_ags _ (by decide)) (polOk_K kn_polOk) (by decide) hcl hc W hC
    rw [kn_j1] at this; exact this⟩
  have HJ2 : Aside0 (∀ (A : Option Addr) (c : Nat) (W : World), knL.length ≤ c → k40.C W A knL.length knL → Calls Try.prog 25 #[.agg #[.slice A knL.length c, .int .u32 0], .agg #[.int .u32 1, .int .u32 3221225534, .int .u64 0, .int .u64 2, .int .u64 0, .int .u64 0, .int .u64 0, .int .u64 0, .int .u64 0]] W fun e w' => e = .returned (.tuple #[.int .u32 0, .int .i64 0]) ∧ Below W.heap.size W w') := ⟨fun A c W hc hC => by
    have := Judge_lit A c knL 0 1 3221225534 0 2 0 0 0 0 0 (kn_ags _ (by decide)) (polOk_K kn_polOk) (by decide) hcl hc W hC
    rw [kn_j2] at this; exact this⟩
  have HF2 : Aside0 (∀ (A : Option Addr) (c : Nat) (W : World), knL.length ≤ c → k40.C W A knL.length knL → Calls Try.prog 24 #[.agg #[.slice A knL.length c, .int .u32 0], .agg #[.int .u32 1, .int .u32 3221225534, .int .u64 0, .int .u64 2, .int .u64 0, .int .u64 0, .int .u64 0, .int .u64 0, .int .u64 0]] W fun e w' => e = .returned (.tuple #[.int .i64 (-1), .int .i64 0]) ∧ Below W.heap.size W w') := ⟨fun A c W hc hC => by
    have := First_lit A c knL 0 1 3221225534 0 2 0 0 0 0 0 (kn_ags _ (by decide)) (polOk_K kn_polOk) (by decide) hcl hc W hC
    rw [kn_f2] at this; exact this⟩
  clear hcl
  obtain ⟨L, hL⟩ : ∃ L, knL = L := ⟨_, rfl⟩
  rw [hL] at HPA HJ1 HJ2 HF2
  clear hL
  go_enter Try.func23, Try.ntmps23
  go_wp2_with (first | ((with_reducible refine gate_callee (f := 20) rfl ?_); refine goesL_ (some 12) rfl rfl Try.func20 (by kernel_rfl) rfl #[.string (⟨#[111, 110, 32, 120, 54, 52, 32, 119, 114, 105, 116, 101, 32, 97, 108, 108, 111, 119, 32, 105, 102, 32, 97, 48, 32, 48, 120, 102, 102, 102, 102, 102, 102, 102, 102, 32, 101, 113, 32, 48, 120, 49, 10, 100, 101, 102, 97, 117, 108, 116, 32, 107, 105, 108, 108, 10]⟩ : ByteArray)] rfl (by (try simp only [List.map_toArray, List.map_cons, List.map_nil]); first | done | rfl | (simp only [List.length_drop, List.length_take]; rfl)) ?_; (refine (HPA.out _).mono ?_); rintro e w1 ⟨v, rfl, ho, hb⟩; refine ⟨_, rfl, ?_⟩; obtain ⟨A, c, ev⟩ := Kd.S_slice ho; subst ev; have HB := Aside0.mk hb; have HS := Aside0.mk ho; clear ho hb) | ((with_reducible refine gate_dst (N := 1) rfl ?_); (try (refine gate_guard (by rfl) ?_; dsimp only)); refine box_event ?hg (N := 1) ?hd (cs := #[.slice none 0 0, .int .u32 0]) (t := 25) ?hr ?_; (case hd => rfl); (case hg => rfl); (case hr => first | (go_simp; done) | (go_simp; rfl)); intro gp hgx w2 hbox hbx; have n0_ := Aside0.mk (below_step HB.out hbx); have n1_ := Aside0.mk hbox; have n2_ := Aside0.mk (Kd.S_below HS.out hbx); have GEP : Aside0 (w.heap.size ≤ gp) := ⟨by rw [hgx]; exact (below_size HB.out)⟩; clear HB HS hbx hbox hgx; have HB := n0_; have BKP := n1_; have HS := n2_; clear n0_ n1_ n2_; have hx0 : w2.cell? ⟨gp, 0, none⟩ = some (.slice none 0 0) := (blk_cell BKP.out 0).trans rfl; have hx1 : w2.cell? ⟨gp, 1, none⟩ = some (.int .u32 0) := (blk_cell BKP.out 1).trans rfl; have hfx0 := blk_frozen BKP.out 0; have hfx1 := blk_frozen BKP.out 1) | ((with_reducible refine gate_store (t := 25) (p := 1) rfl ?_); refine store_event (t := 25) (p := 1) (v := ?vo_w3) (w1 := ((w2.setCell ⟨gp, 0, none⟩ (.slice A L.length c)).setCell ⟨gp, 1, none⟩ (.int .u32 0))) ?hg ?ho ?hn ?hr ?_; (case ho => rfl); (case hg => rfl); (case hn => rfl); (case hr => first | (go_simp; done) | (go_simp; rfl)); intro w3 hw; have n0_ : Aside0 (Below w.heap.size w w3) := ⟨by rw [hw]; exact (below_set (below_set HB.out GEP.out) GEP.out)⟩; have n1_ : Aside0 (w3.heap[gp]? = some (.cells #[.slice A L.length c, .int .u32 0] 25 (0, 0))) := ⟨by rw [hw]; exact (blk_put (cs := #[.slice A L.length c, .int .u32 0]) (blk_put (cs := #[.slice none 0 0, .int .u32 0]) BKP.out 0 _ rfl) 1 _ rfl)⟩; have n2_ : Aside0 (Kd.S k40 40 w3 w.heap.size (fun _ => True) (.slice A L.length c) L) := ⟨by rw [hw]; exact (Kd.S_set (Kd.S_set HS.out BKP.out (by decide) 0 (.slice A L.length c)) (blk_put (cs := #[.slice none 0 0, .int .u32 0]) BKP.out 0 _ rfl) (by decide) 1 (.int .u32 0))⟩; clear hw HB HS BKP; have HB := n0_; have BKP := n1_; have HS := n2_; clear n0_ n1_ n2_; clear hx0 hx1 hfx0 hfx1) | ((with_reducible refine gate_dst (N := 4) rfl ?_); (try (refine gate_guard (by rfl) ?_; dsimp only)); refine box_event ?hg (N := 4) ?hd (cs := #[.int .u32 0, .int .u32 0, .int .u64 0, .int .u64 0, .int .u64 0, .int .u64 0, .int .u64 0, .int .u64 0, .int .u64 0]) (t := 44) ?hr ?_; (case hd => rfl); (case hg => rfl); (case hr => first | (go_simp; done) | (go_simp; rfl)); intro gd hgx w4 hbox hbx; have n0_ := Aside0.mk (below_step HB.out hbx); have n1_ := Aside0.mk hbox; have n2_ := Aside0.mk (Kd.S_below HS.out hbx); have n3_ := Aside0.mk (blk_below BKP.out hbx); have GED : Aside0 (w.heap.size ≤ gd) := ⟨by rw [hgx]; exact (below_size HB.out)⟩; have NPD : Aside0 (gp ≠ gd) := ⟨by rw [hgx]; exact Nat.ne_of_lt (blk_lt BKP.out)⟩; clear HB HS BKP hbx hbox hgx; have HB := n0_; have BKD := n1_; have HS := n2_; have BKP := n3_; clear n0_ n1_ n2_ n3_; have hd0 : w4.cell? ⟨gd, 0, none⟩ = some (.int .u32 0) := (blk_cell BKD.out 0).trans rfl; have hd1 : w4.cell? ⟨gd, 1, none⟩ = some (.int .u32 0) := (blk_cell BKD.out 1).trans rfl; have hd2 : w4.cell? ⟨gd, 2, none⟩ = some (.int .u64 0) := (blk_cell BKD.out 2).trans rfl; have hd3 : w4.cell? ⟨gd, 3, none⟩ = some (.int .u64 0) := (blk_cell BKD.out 3).trans rfl; have hd4 : w4.cell? ⟨gd, 4, none⟩ = some (.int .u64 0) := (blk_cell BKD.out 4).trans rfl; have hd5 : w4.cell? ⟨gd, 5, none⟩ = some (.int .u64 0) := (blk_cell BKD.out 5).trans rfl; have hd6 : w4.cell? ⟨gd, 6, none⟩ = some (.int .u64 0) := (blk_cell BKD.out 6).trans rfl; have hd7 : w4.cell? ⟨gd, 7, none⟩ = some (.int .u64 0) := (blk_cell BKD.out 7).trans rfl; have hd8 : w4.cell? ⟨gd, 8, none⟩ = some (.int .u64 0) := (blk_cell BKD.out 8).trans rfl; have hfd0 := blk_frozen BKD.out 0; have hfd1 := blk_frozen BKD.out 1; have hfd2 := blk_frozen BKD.out 2; have hfd3 := blk_frozen BKD.out 3; have hfd4 := blk_frozen BKD.out 4; have hfd5 := blk_frozen BKD.out 5; have hfd6 := blk_frozen BKD.out 6; have hfd7 := blk_frozen BKD.out 7; have hfd8 := blk_frozen BKD.out 8) | ((with_reducible refine gate_store (t := 44) (p := 4) rfl ?_); refine store_event (t := 44) (p := 4) (v := ?vo_w5) (w1 := (((((((((w4.setCell ⟨gd, 0, none⟩ (.int .u32 1)).setCell ⟨gd, 1, none⟩ (.int .u32 3221225534)).setCell ⟨gd, 2, none⟩ (.int .u64 0)).setCell ⟨gd, 3, none⟩ (.int .u64 0)).setCell ⟨gd, 4, none⟩ (.int .u64 0)).setCell ⟨gd, 5, none⟩ (.int .u64 0)).setCell ⟨gd, 6, none⟩ (.int .u64 0)).setCell ⟨gd, 7, none⟩ (.int .u64 0)).setCell ⟨gd, 8, none⟩ (.int .u64 0))) ?hg ?ho ?hn ?hr ?_; (case ho => rfl); (case hg => rfl); (case hn => rfl); (case hr => first | (go_simp; done) | (go_simp; rfl)); intro w5 hw; obtain ⟨q1, q2, q3⟩ := put9 w4 gd 44 (.int .u32 0) (.int .u32 0) (.int .u64 0) (.int .u64 0) (.int .u64 0) (.int .u64 0) (.int .u64 0) (.int .u64 0) (.int .u64 0) (.int .u32 1) (.int .u32 3221225534) (.int .u64 0) (.int .u64 0) (.int .u64 0) (.int .u64 0) (.int .u64 0) (.int .u64 0) (.int .u64 0) BKD.out; rw [← hw] at q1 q2 q3; clear hw; have n0_ := Aside0.mk (q3 _ HB.out GED.out); have n1_ := Aside0.mk q1; have n2_ : Aside0 (Kd.S k40 40 w5 w.heap.size (fun _ => True) (.slice A L.length c) L) := ⟨Kd.S_mono (Kd.S_step (Kd.S_types HS.out BKD.out (by decide)) (fun k hk _ => q2 k hk.2)) (fun _ _ => trivial)⟩; have n3_ := Aside0.mk ((q2 gp NPD.out).trans BKP.out); clear HB HS BKD BKP q1 q2 q3; have HB := n0_; have BKD := n1_; have HS := n2_; have BKP := n3_; clear n0_ n1_ n2_ n3_; clear hd0 hd1 hd2 hd3 hd4 hd5 hd6 hd7 hd8 hfd0 hfd1 hfd2 hfd3 hfd4 hfd5 hfd6 hfd7 hfd8; have hd0 : w5.cell? ⟨gd, 0, none⟩ = some (.int .u32 1) := (blk_cell BKD.out 0).trans rfl; have hd1 : w5.cell? ⟨gd, 1, none⟩ = some (.int .u32 3221225534) := (blk_cell BKD.out 1).trans rfl; have hd2 : w5.cell? ⟨gd, 2, none⟩ = some (.int .u64 0) := (blk_cell BKD.out 2).trans rfl; have hd3 : w5.cell? ⟨gd, 3, none⟩ = some (.int .u64 0) := (blk_cell BKD.out 3).trans rfl; have hd4 : w5.cell? ⟨gd, 4, none⟩ = some (.int .u64 0) := (blk_cell BKD.out 4).trans rfl; have hd5 : w5.cell? ⟨gd, 5, none⟩ = some (.int .u64 0) := (blk_cell BKD.out 5).trans rfl; have hd6 : w5.cell? ⟨gd, 6, none⟩ = some (.int .u64 0) := (blk_cell BKD.out 6).trans rfl; have hd7 : w5.cell? ⟨gd, 7, none⟩ = some (.int .u64 0) := (blk_cell BKD.out 7).trans rfl; have hd8 : w5.cell? ⟨gd, 8, none⟩ = some (.int .u64 0) := (blk_cell BKD.out 8).trans rfl; have hfd3 : w5.frozen? ⟨gd, 3, none⟩ = false := blk_frozen BKD.out 3) | ((with_reducible refine gate_store (t := 41) (p := 18) rfl ?_); refine store_event (t := 41) (p := 18) (v := ?vo_w6) (w1 := w5.setCell ⟨gd, 3, none⟩ (.int .u64 1099511627777)) ?hg ?ho ?hn ?hr ?_; (case ho => rfl); (case hg => rfl); (case hn => rfl); (case hr => first | (go_simp; done) | (go_simp; rfl)); intro w6 hw; have n0_ : Aside0 (Below w.heap.size w w6) := ⟨by rw [hw]; exact below_set HB.out GED.out⟩; have n1_ : Aside0 (w6.heap[gd]? = some (.cells #[.int .u32 1, .int .u32 3221225534, .int .u64 0, .int .u64 1099511627777, .int .u64 0, .int .u64 0, .int .u64 0, .int .u64 0, .int .u64 0] 44 (0, 0))) := ⟨by rw [hw]; exact blk_put (cs := #[.int .u32 1, .int .u32 3221225534, .int .u64 0, .int .u64 0, .int .u64 0, .int .u64 0, .int .u64 0, .int .u64 0, .int .u64 0]) BKD.out 3 _ rfl⟩; have n2_ : Aside0 (Kd.S k40 40 w6 w.heap.size (fun _ => True) (.slice A L.length c) L) := ⟨by rw [hw]; exact Kd.S_set HS.out BKD.out (by decide) 3 _⟩; have n3_ : Aside0 (w6.heap[gp]? = some (.cells #[.slice A L.length c, .int .u32 0] 25 (0, 0))) := ⟨by rw [hw]; exact (blk_far BKP.out NPD.out _)⟩; clear BKP; have BKP := n3_; clear n3_; clear hw HB HS BKD hd0 hd1 hd2 hd3 hd4 hd5 hd6 hd7 hd8 hfd3; have HB := n0_; have BKD := n1_; have HS := n2_; clear n0_ n1_ n2_; (try clear hx0 hx1); have hd0 : w6.cell? ⟨gd, 0, none⟩ = some (.int .u32 1) := (blk_cell BKD.out 0).trans rfl; have hd1 : w6.cell? ⟨gd, 1, none⟩ = some (.int .u32 3221225534) := (blk_cell BKD.out 1).trans rfl; have hd2 : w6.cell? ⟨gd, 2, none⟩ = some (.int .u64 0) := (blk_cell BKD.out 2).trans rfl; have hd3 : w6.cell? ⟨gd, 3, none⟩ = some (.int .u64 1099511627777) := (blk_cell BKD.out 3).trans rfl; have hd4 : w6.cell? ⟨gd, 4, none⟩ = some (.int .u64 0) := (blk_cell BKD.out 4).trans rfl; have hd5 : w6.cell? ⟨gd, 5, none⟩ = some (.int .u64 0) := (blk_cell BKD.out 5).trans rfl; have hd6 : w6.cell? ⟨gd, 6, none⟩ = some (.int .u64 0) := (blk_cell BKD.out 6).trans rfl; have hd7 : w6.cell? ⟨gd, 7, none⟩ = some (.int .u64 0) := (blk_cell BKD.out 7).trans rfl; have hd8 : w6.cell? ⟨gd, 8, none⟩ = some (.int .u64 0) := (blk_cell BKD.out 8).trans rfl; have hx0 : w6.cell? ⟨gp, 0, none⟩ = some (.slice A L.length c) := (blk_cell BKP.out 0).trans rfl; have hx1 : w6.cell? ⟨gp, 1, none⟩ = some (.int .u32 0) := (blk_cell BKP.out 1).trans rfl; have hfd3 : w6.frozen? ⟨gd, 3, none⟩ = false := blk_frozen BKD.out 3) | ((with_reducible refine gate_callee (f := 25) rfl ?_); refine goesL_ (some 22) rfl rfl Try.func25 (by kernel_rfl) rfl #[.agg #[.slice A L.length c, .int .u32 0], .agg #[.int .u32 1, .int .u32 3221225534, .int .u64 0, .int .u64 1099511627777, .int .u64 0, .int .u64 0, .int .u64 0, .int .u64 0, .int .u64 0]] rfl (by (try simp only [List.map_toArray, List.map_cons, List.map_nil]); first | done | rfl | (simp only [List.length_drop, List.length_take]; rfl)) ?_; (refine (HJ1.out _ _ _ (Kd.S_reads' HS.out).2.1 (Kd.S_reads' HS.out).2.2).mono ?_); rintro e w7 ⟨rfl, hb⟩; refine ⟨_, rfl, ?_⟩; have n0_ := Aside0.mk (below_step HB.out hb); have n1_ := Aside0.mk (blk_below BKD.out hb); have n2_ := Aside0.mk (Kd.S_below HS.out hb); have n3_ := Aside0.mk (blk_below BKP.out hb); clear HB HS BKD BKP hb hd0 hd1 hd2 hd3 hd4 hd5 hd6 hd7 hd8 hx0 hx1 hfd3; have HB := n0_; have BKD := n1_; have HS := n2_; have BKP := n3_; clear n0_ n1_ n2_ n3_; have hd0 : w7.cell? ⟨gd, 0, none⟩ = some (.int .u32 1) := (blk_cell BKD.out 0).trans rfl; have hd1 : w7.cell? ⟨gd, 1, none⟩ = some (.int .u32 3221225534) := (blk_cell BKD.out 1).trans rfl; have hd2 : w7.cell? ⟨gd, 2, none⟩ = some (.int .u64 0) := (blk_cell BKD.out 2).trans rfl; have hd3 : w7.cell? ⟨gd, 3, none⟩ = some (.int .u64 1099511627777) := (blk_cell BKD.out 3).trans rfl; have hd4 : w7.cell? ⟨gd, 4, none⟩ = some (.int .u64 0) := (blk_cell BKD.out 4).trans rfl; have hd5 : w7.cell? ⟨gd, 5, none⟩ = some (.int .u64 0) := (blk_cell BKD.out 5).trans rfl; have hd6 : w7.cell? ⟨gd, 6, none⟩ = some (.int .u64 0) := (blk_cell BKD.out 6).trans rfl; have hd7 : w7.cell? ⟨gd, 7, none⟩ = some (.int .u64 0) := (blk_cell BKD.out 7).trans rfl; have hd8 : w7.cell? ⟨gd, 8, none⟩ = some (.int .u64 0) := (blk_cell BKD.out 8).trans rfl; have hx0 : w7.cell? ⟨gp, 0, none⟩ = some (.slice A L.length c) := (blk_cell BKP.out 0).trans rfl; have hx1 : w7.cell? ⟨gp, 1, none⟩ = some (.int .u32 0) := (blk_cell BKP.out 1).trans rfl; have hfd3 : w7.frozen? ⟨gd, 3, none⟩ = false := blk_frozen BKD.out 3) | ((with_reducible refine gate_store (t := 41) (p := 26) rfl ?_); refine store_event (t := 41) (p := 26) (v := ?vo_w8) (w1 := w7.setCell ⟨gd, 3, none⟩ (.int .u64 2)) ?hg ?ho ?hn ?hr ?_; (case ho => rfl); (case hg => rfl); (case hn => rfl); (case hr => first | (go_simp; done) | (go_simp; rfl)); intro w8 hw; have n0_ : Aside0 (Below w.heap.size w w8) := ⟨by rw [hw]; exact below_set HB.out GED.out⟩; have n1_ : Aside0 (w8.heap[gd]? = some (.cells #[.int .u32 1, .int .u32 3221225534, .int .u64 0, .int .u64 2, .int .u64 0, .int .u64 0, .int .u64 0, .int .u64 0, .int .u64 0] 44 (0, 0))) := ⟨by rw [hw]; exact blk_put (cs := #[.int .u32 1, .int .u32 3221225534, .int .u64 0, .int .u64 1099511627777, .int .u64 0, .int .u64 0, .int .u64 0, .int .u64 0, .int .u64 0]) BKD.out 3 _ rfl⟩; have n2_ : Aside0 (Kd.S k40 40 w8 w.heap.size (fun _ => True) (.slice A L.length c) L) := ⟨by rw [hw]; exact Kd.S_set HS.out BKD.out (by decide) 3 _⟩; have n3_ : Aside0 (w8.heap[gp]? = some (.cells #[.slice A L.length c, .int .u32 0] 25 (0, 0))) := ⟨by rw [hw]; exact (blk_far BKP.out NPD.out _)⟩; clear BKP; have BKP := n3_; clear n3_; clear hw HB HS BKD hd0 hd1 hd2 hd3 hd4 hd5 hd6 hd7 hd8 hfd3; have HB := n0_; have BKD := n1_; have HS := n2_; clear n0_ n1_ n2_; (try clear hx0 hx1); have hd0 : w8.cell? ⟨gd, 0, none⟩ = some (.int .u32 1) := (blk_cell BKD.out 0).trans rfl; have hd1 : w8.cell? ⟨gd, 1, none⟩ = some (.int .u32 3221225534) := (blk_cell BKD.out 1).trans rfl; have hd2 : w8.cell? ⟨gd, 2, none⟩ = some (.int .u64 0) := (blk_cell BKD.out 2).trans rfl; have hd3 : w8.cell? ⟨gd, 3, none⟩ = some (.int .u64 2) := (blk_cell BKD.out 3).trans rfl; have hd4 : w8.cell? ⟨gd, 4, none⟩ = some (.int .u64 0) := (blk_cell BKD.out 4).trans rfl; have hd5 : w8.cell? ⟨gd, 5, none⟩ = some (.int .u64 0) := (blk_cell BKD.out 5).trans rfl; have hd6 : w8.cell? ⟨gd, 6, none⟩ = some (.int .u64 0) := (blk_cell BKD.out 6).trans rfl; have hd7 : w8.cell? ⟨gd, 7, none⟩ = some (.int .u64 0) := (blk_cell BKD.out 7).trans rfl; have hd8 : w8.cell? ⟨gd, 8, none⟩ = some (.int .u64 0) := (blk_cell BKD.out 8).trans rfl; have hx0 : w8.cell? ⟨gp, 0, none⟩ = some (.slice A L.length c) := (blk_cell BKP.out 0).trans rfl; have hx1 : w8.cell? ⟨gp, 1, none⟩ = some (.int .u32 0) := (blk_cell BKP.out 1).trans rfl; have hfd3 : w8.frozen? ⟨gd, 3, none⟩ = false := blk_frozen BKD.out 3) | ((with_reducible refine gate_callee (f := 25) rfl ?_); refine goesL_ (some 30) rfl rfl Try.func25 (by kernel_rfl) rfl #[.agg #[.slice A L.length c, .int .u32 0], .agg #[.int .u32 1, .int .u32 3221225534, .int .u64 0, .int .u64 2, .int .u64 0, .int .u64 0, .int .u64 0, .int .u64 0, .int .u64 0]] rfl (by (try simp only [List.map_toArray, List.map_cons, List.map_nil]); first | done | rfl | (simp only [List.length_drop, List.length_take]; rfl)) ?_; (refine (HJ2.out _ _ _ (Kd.S_reads' HS.out).2.1 (Kd.S_reads' HS.out).2.2).mono ?_); rintro e w9 ⟨rfl, hb⟩; refine ⟨_, rfl, ?_⟩; have n0_ := Aside0.mk (below_step HB.out hb); have n1_ := Aside0.mk (blk_below BKD.out hb); have n2_ := Aside0.mk (Kd.S_below HS.out hb); have n3_ := Aside0.mk (blk_below BKP.out hb); clear HB HS BKD BKP hb hd0 hd1 hd2 hd3 hd4 hd5 hd6 hd7 hd8 hx0 hx1 hfd3; have HB := n0_; have BKD := n1_; have HS := n2_; have BKP := n3_; clear n0_ n1_ n2_ n3_; have hd0 : w9.cell? ⟨gd, 0, none⟩ = some (.int .u32 1) := (blk_cell BKD.out 0).trans rfl; have hd1 : w9.cell? ⟨gd, 1, none⟩ = some (.int .u32 3221225534) := (blk_cell BKD.out 1).trans rfl; have hd2 : w9.cell? ⟨gd, 2, none⟩ = some (.int .u64 0) := (blk_cell BKD.out 2).trans rfl; have hd3 : w9.cell? ⟨gd, 3, none⟩ = some (.int .u64 2) := (blk_cell BKD.out 3).trans rfl; have hd4 : w9.cell? ⟨gd, 4, none⟩ = some (.int .u64 0) := (blk_cell BKD.out 4).trans rfl; have hd5 : w9.cell? ⟨gd, 5, none⟩ = some (.int .u64 0) := (blk_cell BKD.out 5).trans rfl; have hd6 : w9.cell? ⟨gd, 6, none⟩ = some (.int .u64 0) := (blk_cell BKD.out 6).trans rfl; have hd7 : w9.cell? ⟨gd, 7, none⟩ = some (.int .u64 0) := (blk_cell BKD.out 7).trans rfl; have hd8 : w9.cell? ⟨gd, 8, none⟩ = some (.int .u64 0) := (blk_cell BKD.out 8).trans rfl; have hx0 : w9.cell? ⟨gp, 0, none⟩ = some (.slice A L.length c) := (blk_cell BKP.out 0).trans rfl; have hx1 : w9.cell? ⟨gp, 1, none⟩ = some (.int .u32 0) := (blk_cell BKP.out 1).trans rfl; have hfd3 : w9.frozen? ⟨gd, 3, none⟩ = false := blk_frozen BKD.out 3) | ((with_reducible refine gate_callee (f := 24) rfl ?_); refine goesL_ (some 36) rfl rfl Try.func24 (by kernel_rfl) rfl #[.agg #[.slice A L.length c, .int .u32 0], .agg #[.int .u32 1, .int .u32 3221225534, .int .u64 0, .int .u64 2, .int .u64 0, .int .u64 0, .int .u64 0, .int .u64 0, .int .u64 0]] rfl (by (try simp only [List.map_toArray, List.map_cons, List.map_nil]); first | done | rfl | (simp only [List.length_drop, List.length_take]; rfl)) ?_; (refine (HF2.out _ _ _ (Kd.S_reads' HS.out).2.1 (Kd.S_reads' HS.out).2.2).mono ?_); rintro e w10 ⟨rfl, hb⟩; refine ⟨_, rfl, ?_⟩; have n0_ := Aside0.mk (below_step HB.out hb); have n1_ := Aside0.mk (blk_below BKD.out hb); have n2_ := Aside0.mk (Kd.S_below HS.out hb); have n3_ := Aside0.mk (blk_below BKP.out hb); clear HB HS BKD BKP hb hd0 hd1 hd2 hd3 hd4 hd5 hd6 hd7 hd8 hx0 hx1 hfd3; have HB := n0_; have BKD := n1_; have HS := n2_; have BKP := n3_; clear n0_ n1_ n2_ n3_; have hd0 : w10.cell? ⟨gd, 0, none⟩ = some (.int .u32 1) := (blk_cell BKD.out 0).trans rfl; have hd1 : w10.cell? ⟨gd, 1, none⟩ = some (.int .u32 3221225534) := (blk_cell BKD.out 1).trans rfl; have hd2 : w10.cell? ⟨gd, 2, none⟩ = some (.int .u64 0) := (blk_cell BKD.out 2).trans rfl; have hd3 : w10.cell? ⟨gd, 3, none⟩ = some (.int .u64 2) := (blk_cell BKD.out 3).trans rfl; have hd4 : w10.cell? ⟨gd, 4, none⟩ = some (.int .u64 0) := (blk_cell BKD.out 4).trans rfl; have hd5 : w10.cell? ⟨gd, 5, none⟩ = some (.int .u64 0) := (blk_cell BKD.out 5).trans rfl; have hd6 : w10.cell? ⟨gd, 6, none⟩ = some (.int .u64 0) := (blk_cell BKD.out 6).trans rfl; have hd7 : w10.cell? ⟨gd, 7, none⟩ = some (.int .u64 0) := (blk_cell BKD.out 7).trans rfl; have hd8 : w10.cell? ⟨gd, 8, none⟩ = some (.int .u64 0) := (blk_cell BKD.out 8).trans rfl; have hx0 : w10.cell? ⟨gp, 0, none⟩ = some (.slice A L.length c) := (blk_cell BKP.out 0).trans rfl; have hx1 : w10.cell? ⟨gp, 1, none⟩ = some (.int .u32 0) := (blk_cell BKP.out 1).trans rfl; have hfd3 : w10.frozen? ⟨gd, 3, none⟩ = false := blk_frozen BKD.out 3))
  go_ret
  exact ⟨rfl, HB.out⟩
end Go.Proofs.Ytekpbgmmogpbdaa.H
namespace Go.Proofs.Ytekpbgmmogpbdaa.P
open Go.RowKit Go.Proofs.Ytekpbgmmogpbdaa.H Go.Proofs.YtekpbgmmogpbdaaW.PrintWords Go.Proofs.YtekpbgmmogpbdaaW.PrintLast Go.Proofs.YtekpbgmmogpbdaaW.PrintMore
attribute [local go_sem] max2_int min2_int max_two min_two max_three min_three max_four min_four
set_option linter.unusedVariables false
set_option linter.unusedSimpArgs false
mutual
def hurdleref10_Right.j0 : Nat → Bool → List (S40) → Int → Option (Bool)
  | 0, _, _, _ => none
  | k + 1, x15, x241000, x241001 => if x15 = true then (some false) else (hurdleref10_Right.l0 k 0 x241000 x241001)
def hurdleref10_Right.l0 : Nat → Int → List (S40) → Int → Option (Bool)
  | 0, _, _, _ => none
  | k + 1, x3, x241000, x241001 => if x3 < (x241000.length : Int) then (if 0 ≤ x3 then (if (((rd_T40 x241000 x3).f2).length : Int) > 4 then (hurdleref10_Right.j2 k x3 true x241000 x241001 ((rd_T40 x241000 x3).f0) ((rd_T40 x241000 x3).f1) ((rd_T40 x241000 x3).f2) ((rd_T40 x241000 x3).f3)) else ((hurdleref09_Action.f k ((rd_T40 x241000 x3).f3)).bind fun t244 => (hurdleref10_Right.j2 k x3 (t244.toList == ([] : List UInt8)) x241000 x241001 ((rd_T40 x241000 x3).f0) ((rd_T40 x241000 x3).f1) ((rd_T40 x241000 x3).f2) ((rd_T40 x241000 x3).f3)))) else (none)) else (some true)
def hurdleref10_Right.j2 : Nat → Int → Bool → List (S40) → Int → Int → Int → List (S61) → Int → Option (Bool)
  | 0, _, _, _, _, _, _, _, _ => none
  | k + 1, x3, x37, x241000, x241001, x244000, x244001, x244002, x244003 => if x37 = true then (some false) else (hurdleref10_Right.l1 k x3 0 x241000 x241001 x244000 x244001 x244002 x244003)
def hurdleref10_Right.l1 : Nat → Int → Int → List (S40) → Int → Int → Int → List (S61) → Int → Option (Bool)
  | 0, _, _, _, _, _, _, _, _ => none
  | k + 1, x3, x5, x241000, x241001, x244000, x244001, x244002, x244003 => if x5 < (x244002.length : Int) then (if 0 ≤ x5 then ((hurdleref08_Right.f ((rd_T61 x244002 x5).f0) ((rd_T61 x244002 x5).f1) ((rd_T61 x244002 x5).f2) ((rd_T61 x244002 x5).f3)).bind fun t246 => (if t246 = true then (hurdleref10_Right.l1 k x3 (wrap64 (x5 + 1)) x241000 x241001 x244000 x244001 x244002 x244003) else (some false))) else (none)) else (hurdleref10_Right.l0 k (wrap64 (x3 + 1)) x241000 x241001)
end
def hurdleref10_Right.f (k : Nat) (l0_0 : List (S40)) (a0_1 : Int) : Option (Bool) := if (l0_0.length : Int) > 64 then (hurdleref10_Right.j0 k true l0_0 a0_1) else ((hurdleref09_Action.f k a0_1).bind fun t241 => (hurdleref10_Right.j0 k (t241.toList == ([] : List UInt8)) l0_0 a0_1))
set_option maxHeartbeats 8000000 in
set_option maxRecDepth 100000 in
theorem hurdleref10_Right.calls (k : Nat) (A0_0 : Option Addr) (c0_0 : Nat) (l0_0 : List (S40)) (a0_1 : Int) (r : Bool) (w : World) (hr0_0 : Kd.C k40 w A0_0 l0_0.length l0_0) (hc0_0 : l0_0.length ≤ c0_0) (h : hurdleref10_Right.f k l0_0 a0_1 = some r) :
    Calls Try.prog 17 #[.agg #[.slice A0_0 l0_0.length c0_0, .int .u32 a0_1]] w fun e w' => e = .returned (.bool r) ∧ Below w.heap.size w w' := by
  have hu25 := Try.underlying25
  have hu40 := Try.underlying40
  have hu61 := Try.underlying61
  have HR0_0 := Aside0.mk hr0_0
  have HC0_0 := Aside0.mk hc0_0
  clear hr0_0 hc0_0
  have HB := Aside0.mk (Below.refl w.heap.size w)
  have H : (if (l0_0.length : Int) > 64 then (hurdleref10_Right.j0 k true l0_0 a0_1) else ((hurdleref09_Action.f k a0_1).bind fun t241 => (hurdleref10_Right.j0 k (t241.toList == ([] : List UInt8)) l0_0 a0_1))) = some r := h
  clear h
  have HC2 := Aside0.mk H
  clear H
  go_enter Try.func17, Try.ntmps17
  go_upto_region 1 with (first | ((with_reducible refine gate_dst (N := 1) rfl ?_); refine box_event ?hg (N := 1) ?hd (cs := #[.slice A0_0 l0_0.length c0_0, .int .u32 a0_1]) (t := 25) ?hr ?_; (case hd => rfl); (case hg => rfl); (case hr => first | (go_simp; done) | (go_simp; rfl)); intro gb240 hg w3 hbox hb; have n0_ := Aside0.mk (below_step (by repeat (first | (with_reducible first | exact HB.out | apply below_alloc | apply pw_below_drewN | apply below_drew1) | exact HB.out)) hb); have n1_ := Aside0.mk (hbox); have n2_ := Aside0.mk ((by rw [hg]; exact (below_size (by repeat (first | (with_reducible first | exact HB.out | apply below_alloc | apply pw_below_drewN | apply below_drew1) | exact HB.out))) : w.heap.size ≤ gb240)); have n3_ := Aside0.mk ((by rw [hg]; exact (below_size (by repeat (first | (with_reducible first | exact HB.out | apply below_alloc | apply pw_below_drewN | apply below_drew1) | exact HB.out))) : w.heap.size ≤ gb240)); clear HB; have HB := n0_; have BK240 := n1_; have GW240 := n2_; have GE240 := n3_; clear n0_ n1_ n2_ n3_; clear hb hbox hg))
  (try simp only [Act.put, List.setIfInBounds_toArray, List.set_cons_zero, List.set_cons_succ])
  go_cut [15] (fun v15 wc => ∃ (kq : Nat) (x15_1 : Bool), v15 = .bool x15_1 ∧ Aside0 (hurdleref10_Right.j0 kq x15_1 l0_0 a0_1 = some r) ∧ Aside0 (kq ≤ k) ∧ Aside0 (wc.heap[gb240]? = some (.cells #[(.slice A0_0 l0_0.length c0_0), .int .u32 a0_1] 25 (0, 0))) ∧ Aside0 (Below w.heap.size w wc))
  case first =>
    have H := HC2.out
    clear HC2
    by_cases c4 : (l0_0.length : Int) > 64
    · rw [if_pos c4] at H
      have c4b0 : decide (64 < (l0_0.length : Int)) = true := decide_eq_true c4
      have c4b1 : decide (64 < l0_0.length) = true := decide_eq_true (by omega)
      clear c4
      (first | rw [c4b0] | (simp only [i64_w, i32_w]; rw [c4b0]) | skip)
      have H' := Aside0.mk H
      clear H
      have hcz5_0 : w3.cell? ⟨gb240, 0, none⟩ = some (.slice A0_0 l0_0.length c0_0) := (blk_cell BK240.out 0).trans rfl
      have hcz5_1 : w3.cell? ⟨gb240, 1, none⟩ = some (.int .u32 a0_1) := (blk_cell BK240.out 1).trans rfl
      have hfz5_0 := blk_frozen BK240.out 0
      have hfz5_1 := blk_frozen BK240.out 1
      go_wp2
      go_meet
      case rel => exact ⟨_, (true), (by first | rfl | (simp; done) | (simp [*]; done)), H', ⟨by first | omega | exact Nat.le_refl _⟩, ⟨by (with_reducible repeat (first | refine blk_drewN ?_ _ | refine blk_drew ?_ | refine blk_alloc ?_ _)); exact BK240.out⟩, ⟨by repeat (first | (with_reducible first | exact HB.out | apply below_alloc | apply pw_below_drewN | apply below_drew1 | refine below_set ?_ GE240.out) | exact HB.out)⟩⟩
    · rw [if_neg c4] at H
      have c4b0 : decide (64 < (l0_0.length : Int)) = false := decide_eq_false c4
      have c4b1 : decide (64 < l0_0.length) = false := decide_eq_false (by omega)
      clear c4
      (first | rw [c4b0] | (simp only [i64_w, i32_w]; rw [c4b0]) | skip)
      replace H := Option.bind_eq_some_iff.mp H
      obtain ⟨t241, A60, H⟩ := H
      replace H : (hurdleref10_Right.j0 k (t241.toList == ([] : List UInt8)) l0_0 a0_1) = some r := H
      have A6 := Aside0.mk A60
      clear A60
      have H' := Aside0.mk H
      clear H
      have hcz7_0 : w3.cell? ⟨gb240, 0, none⟩ = some (.slice A0_0 l0_0.length c0_0) := (blk_cell BK240.out 0).trans rfl
      have hcz7_1 : w3.cell? ⟨gb240, 1, none⟩ = some (.int .u32 a0_1) := (blk_cell BK240.out 1).trans rfl
      have hfz7_0 := blk_frozen BK240.out 0
      have hfz7_1 := blk_frozen BK240.out 1
      go_wp2_with (first | (go_at_call 33; (with_reducible refine (hurdleref09_Action.calls k a0_1 t241 _ A6.out).mono ?_); rintro e w8 ⟨rfl, hb⟩; have n0_ := Aside0.mk (blk_below (g := gb240) (o := .cells #[.slice A0_0 l0_0.length c0_0, .int .u32 a0_1] 25 (0, 0)) (by (with_reducible repeat (first | refine blk_drewN ?_ _ | refine blk_drew ?_ | refine blk_alloc ?_ _)); exact BK240.out) hb); have n1_ := Aside0.mk (below_step (by repeat (first | (with_reducible first | exact HB.out | apply below_alloc | apply pw_below_drewN | apply below_drew1 | refine below_set ?_ GE240.out) | exact HB.out)) hb); clear BK240; clear HB; have BK240 := n0_; have HB := n1_; clear n0_ n1_; (try clear hb); (try clear hb2); (try clear hk); (try clear hi)))
      go_meet
      case rel => exact ⟨_, ((t241.toList == ([] : List UInt8))), (by first | rfl | (simp; done) | (simp [*]; done)), H', ⟨by first | omega | exact Nat.le_refl _⟩, ⟨by (with_reducible repeat (first | refine blk_drewN ?_ _ | refine blk_drew ?_ | refine blk_alloc ?_ _)); exact BK240.out⟩, ⟨by repeat (first | (with_reducible first | exact HB.out | apply below_alloc | apply pw_below_drewN | apply below_drew1 | refine below_set ?_ GE240.out) | exact HB.out)⟩⟩
  case rest =>
    clear HC2
    try clear c1
    try clear p2
    try clear c4
    try clear c4b0
    try clear c4b1
    try clear hcz5_0
    try clear hcz5_1
    try clear hcz7_0
    try clear hcz7_1
    try clear hfz5_0
    try clear hfz5_1
    try clear hfz7_0
    try clear hfz7_1
    obtain ⟨kq, x15_1, rfl, HA, HJ1, BK240, HB⟩ := hcut
    cases kq with
    | zero => exact absurd HA.out (by simp [hurdleref10_Right.j0])
    | succ kj1 =>
      have H := HA.out
      clear HA
      simp only [hurdleref10_Right.j0] at H
      by_cases c9 : x15_1 = true
      · subst c9
        have H1 : (some false) = some r := by rw [if_pos rfl] at H; exact H
        clear H
        have H := H1
        clear H1
        obtain rfl := Option.some.inj H
        go_wp2
        go_ret
        exact ⟨by first | rfl | (simp [errW_none, errW_some] <;> rfl) | (simp [*, errW_none, errW_some] <;> rfl), by repeat (first | (with_reducible first | exact HB.out | apply below_alloc | apply pw_below_drewN | apply below_drew1 | refine below_set ?_ GE240.out) | exact HB.out)⟩
      · replace c9 := Bool.eq_false_iff.mpr c9
        subst c9
        have H1 : (hurdleref10_Right.l0 kj1 0 l0_0 a0_1) = some r := by rw [if_neg (show ¬ (false = true) by decide)] at H; exact H
        clear H
        have H := H1
        clear H1
        have H' := Aside0.mk H
        clear H
        go_wp2
        go_loopg [3] kj1 (fun kq v3 w' => ∃ (x3_2 : Int), v3 = .int .i64 x3_2 ∧ Aside0 (hurdleref10_Right.l0 kq x3_2 l0_0 a0_1 = some r) ∧ Aside0 (kq ≤ kj1) ∧ Aside0 (w'.heap[gb240]? = some (.cells #[(.slice A0_0 l0_0.length c0_0), .int .u32 a0_1] 25 (0, 0))) ∧ Aside0 (Below w.heap.size w w'))
        case atStart => exact ⟨(0), (by first | rfl | (simp; done) | (simp [*]; done)), H', ⟨Nat.le_refl _⟩, ⟨by (with_reducible repeat (first | refine blk_drewN ?_ _ | refine blk_drew ?_ | refine blk_alloc ?_ _)); exact BK240.out⟩, ⟨by repeat (first | (with_reducible first | exact HB.out | apply below_alloc | apply pw_below_drewN | apply below_drew1 | refine below_set ?_ GE240.out) | exact HB.out)⟩⟩
        case round =>
          clear H'
          try clear c1
          try clear p2
          try clear c4
          try clear c4b0
          try clear c4b1
          try clear c9
          try clear hcz5_0
          try clear hcz5_1
          try clear hcz7_0
          try clear hcz7_1
          try clear hfz5_0
          try clear hfz5_1
          try clear hfz7_0
          try clear hfz7_1
          try clear p2
          obtain ⟨x3_2, rfl, HA, HK2, BK240, HB⟩ := hrel
          cases gk with
          | zero => exact absurd HA.out (by simp [hurdleref10_Right.l0])
          | succ k2 =>
            have H := HA.out
            clear HA
            simp only [hurdleref10_Right.l0] at H
            by_cases c10 : x3_2 < (l0_0.length : Int)
            · rw [if_pos c10] at H
              have c10b0 : decide (x3_2 < (l0_0.length : Int)) = true := decide_eq_true c10
              clear c10
              by_cases c11 : 0 ≤ x3_2
              · rw [if_pos c11] at H
                have c11b0 : decide (0 ≤ x3_2) = true := decide_eq_true c11
                clear c11
                have HC12 := Aside0.mk H
                clear H
                have hcz13_0 : wr.cell? ⟨gb240, 0, none⟩ = some (.slice A0_0 l0_0.length c0_0) := (blk_cell BK240.out 0).trans rfl
                have hcz13_1 : wr.cell? ⟨gb240, 1, none⟩ = some (.int .u32 a0_1) := (blk_cell BK240.out 1).trans rfl
                have hfz13_0 := blk_frozen BK240.out 0
                have hfz13_1 := blk_frozen BK240.out 1
                have p242 : 0 ≤ (x3_2 : Int) := of_decide_eq_true (by first | (with_reducible assumption) | assumption)
                have q242 : x3_2 < (l0_0.length : Int) := of_decide_eq_true (by first | (with_reducible assumption) | assumption)
                obtain ⟨ad242, A242_2, c242_2, e242, hx242_0, hx242_1, hx242_2, hx242_3, hl242_2, hi242_2⟩ := at_T40 HR0_0.out x3_2 p242 q242
                cases e242
                replace hx242_0 := (HB.out.cell (World.block_lt_of_cell? w _ hx242_0)).trans hx242_0
                replace hx242_1 := (HB.out.cell (World.block_lt_of_cell? w _ hx242_1)).trans hx242_1
                replace hx242_2 := (HB.out.cell (World.block_lt_of_cell? w _ hx242_2)).trans hx242_2
                replace hx242_3 := (HB.out.cell (World.block_lt_of_cell? w _ hx242_3)).trans hx242_3
                have HR242_2 := Aside0.mk hi242_2
                have HC242_2 := Aside0.mk hl242_2
                clear hi242_2 hl242_2
                replace p242 := eq_true p242
                replace q242 := eq_true q242
                go_upto_region 7 with (first | ((with_reducible refine gate_dst (N := 4) rfl ?_); refine box_event ?hg (N := 4) ?hd (cs := #[.int .u32 0, .int .u32 0, .slice none 0 0, .int .u32 0]) (t := 40) ?hr ?_; (case hd => rfl); (case hg => rfl); (case hr => first | (go_simp; done) | (go_simp; rfl)); intro gb243 hg w14 hbox hb; have n0_ := Aside0.mk (blk_below (g := gb240) (o := .cells #[.slice (some ad242) l0_0.length c0_0, .int .u32 a0_1] 25 (0, 0)) (by (with_reducible repeat (first | refine blk_drewN ?_ _ | refine blk_drew ?_ | refine blk_alloc ?_ _)); exact BK240.out) hb); have n1_ := Aside0.mk (below_step (by repeat (first | (with_reducible first | exact HB.out | apply below_alloc | apply pw_below_drewN | apply below_drew1 | refine below_set ?_ GE240.out) | exact HB.out)) hb); have n2_ := Aside0.mk (hbox); have n3_ := Aside0.mk ((by rw [hg]; exact (below_size (by repeat (first | (with_reducible first | exact HB.out | apply below_alloc | apply pw_below_drewN | apply below_drew1 | refine below_set ?_ GE240.out) | exact HB.out))) : w.heap.size ≤ gb243)); have n4_ := Aside0.mk ((by rw [hg]; exact (below_size (by repeat (first | (with_reducible first | exact HB.out | apply below_alloc | apply pw_below_drewN | apply below_drew1 | refine below_set ?_ GE240.out) | exact HB.out))) : w.heap.size ≤ gb243)); have n5_ := Aside0.mk ((by rw [hg]; exact Nat.ne_of_lt (blk_lt (g := gb240) (o := .cells #[.slice (some ad242) l0_0.length c0_0, .int .u32 a0_1] 25 (0, 0)) (by (with_reducible repeat (first | refine blk_drewN ?_ _ | refine blk_drew ?_ | refine blk_alloc ?_ _)); exact BK240.out)) : gb240 ≠ gb243)); have n6_ := Aside0.mk ((by rw [hg]; exact Nat.ne_of_gt (blk_lt (g := gb240) (o := .cells #[.slice (some ad242) l0_0.length c0_0, .int .u32 a0_1] 25 (0, 0)) (by (with_reducible repeat (first | refine blk_drewN ?_ _ | refine blk_drew ?_ | refine blk_alloc ?_ _)); exact BK240.out)) : gb243 ≠ gb240)); clear BK240; clear HB; have BK240 := n0_; have HB := n1_; have BK243 := n2_; have GW243 := n3_; have GE243 := n4_; have NB240_243 := n5_; have NB243_240 := n6_; clear n0_ n1_ n2_ n3_ n4_ n5_ n6_; clear hb hbox hg; have hnb15 := NB243_240.out; have hnc15 := NB240_243.out; have hcz16_0 : w14.cell? ⟨gb243, 0, none⟩ = some (.int .u32 0) := (blk_cell BK243.out 0).trans rfl; have hcz16_1 : w14.cell? ⟨gb243, 1, none⟩ = some (.int .u32 0) := (blk_cell BK243.out 1).trans rfl; have hcz16_2 : w14.cell? ⟨gb243, 2, none⟩ = some (.slice none 0 0) := (blk_cell BK243.out 2).trans rfl; have hcz16_3 : w14.cell? ⟨gb243, 3, none⟩ = some (.int .u32 0) := (blk_cell BK243.out 3).trans rfl; have hfz16_0 := blk_frozen BK243.out 0; have hfz16_1 := blk_frozen BK243.out 1; have hfz16_2 := blk_frozen BK243.out 2; have hfz16_3 := blk_frozen BK243.out 3))
                (try simp only [Act.put, List.setIfInBounds_toArray, List.set_cons_zero, List.set_cons_succ])
                go_cut [37] (fun v37 wc => ∃ (kq : Nat) (x37_11 : Bool), v37 = .bool x37_11 ∧ Aside0 (hurdleref10_Right.j2 kq x3_2 x37_11 l0_0 a0_1 ((rd_T40 l0_0 x3_2).f0) ((rd_T40 l0_0 x3_2).f1) ((rd_T40 l0_0 x3_2).f2) ((rd_T40 l0_0 x3_2).f3) = some r) ∧ Aside0 (kq ≤ k2) ∧ Aside0 (wc.heap[gb240]? = some (.cells #[(.slice (some ad242) l0_0.length c0_0), .int .u32 a0_1] 25 (0, 0))) ∧ Aside0 (wc.heap[gb243]? = some (.cells #[.int .u32 ((rd_T40 l0_0 x3_2).f0), .int .u32 ((rd_T40 l0_0 x3_2).f1), (.slice A242_2 ((rd_T40 l0_0 x3_2).f2).length c242_2), .int .u32 ((rd_T40 l0_0 x3_2).f3)] 40 (0, 0))) ∧ Aside0 (Below w.heap.size w wc))
                case first =>
                  have H := HC12.out
                  clear HC12
                  by_cases c17 : (((rd_T40 l0_0 x3_2).f2).length : Int) > 4
                  · rw [if_pos c17] at H
                    have c17b0 : decide (4 < (((rd_T40 l0_0 x3_2).f2).length : Int)) = true := decide_eq_true c17
                    have c17b1 : decide (4 < ((rd_T40 l0_0 x3_2).f2).length) = true := decide_eq_true (by omega)
                    clear c17
                    (first | rw [c17b0] | (simp only [i64_w, i32_w]; rw [c17b0]) | skip)
                    have H' := Aside0.mk H
                    clear H
                    have hnb18 := NB243_240.out
                    have hnc18 := NB240_243.out
                    have hcz19_0 : w14.cell? ⟨gb243, 0, none⟩ = some (.int .u32 0) := (blk_cell BK243.out 0).trans rfl
                    have hcz19_1 : w14.cell? ⟨gb243, 1, none⟩ = some (.int .u32 0) := (blk_cell BK243.out 1).trans rfl
                    have hcz19_2 : w14.cell? ⟨gb243, 2, none⟩ = some (.slice none 0 0) := (blk_cell BK243.out 2).trans rfl
                    have hcz19_3 : w14.cell? ⟨gb243, 3, none⟩ = some (.int .u32 0) := (blk_cell BK243.out 3).trans rfl
                    have hfz19_0 := blk_frozen BK243.out 0
                    have hfz19_1 := blk_frozen BK243.out 1
                    have hfz19_2 := blk_frozen BK243.out 2
                    have hfz19_3 := blk_frozen BK243.out 3
                    go_wp2
                    go_meet
                    case rel => exact ⟨_, (true), (by first | rfl | (simp; done) | (simp [*]; done)), H', ⟨by have := HJ1.out; have := HK2.out; first | omega | exact Nat.le_refl _⟩, ⟨by (with_reducible repeat (first | refine blk_drewN ?_ _ | refine blk_drew ?_ | refine blk_alloc ?_ _)); refine blk_far ?_ NB240_243.out _; (with_reducible repeat (first | refine blk_drewN ?_ _ | refine blk_drew ?_ | refine blk_alloc ?_ _)); refine blk_far ?_ NB240_243.out _; (with_reducible repeat (first | refine blk_drewN ?_ _ | refine blk_drew ?_ | refine blk_alloc ?_ _)); refine blk_far ?_ NB240_243.out _; (with_reducible repeat (first | refine blk_drewN ?_ _ | refine blk_drew ?_ | refine blk_alloc ?_ _)); refine blk_far ?_ NB240_243.out _; (with_reducible repeat (first | refine blk_drewN ?_ _ | refine blk_drew ?_ | refine blk_alloc ?_ _)); exact BK240.out⟩, ⟨by (with_reducible repeat (first | refine blk_drewN ?_ _ | refine blk_drew ?_ | refine blk_alloc ?_ _)); refine blk_put (cs := #[.int .u32 ((rd_T40 l0_0 x3_2).f0), .int .u32 ((rd_T40 l0_0 x3_2).f1), .slice A242_2 ((rd_T40 l0_0 x3_2).f2).length c242_2, .int .u32 0]) ?_ 3 _ rfl; (with_reducible repeat (first | refine blk_drewN ?_ _ | refine blk_drew ?_ | refine blk_alloc ?_ _)); refine blk_put (cs := #[.int .u32 ((rd_T40 l0_0 x3_2).f0), .int .u32 ((rd_T40 l0_0 x3_2).f1), .slice none 0 0, .int .u32 0]) ?_ 2 _ rfl; (with_reducible repeat (first | refine blk_drewN ?_ _ | refine blk_drew ?_ | refine blk_alloc ?_ _)); refine blk_put (cs := #[.int .u32 ((rd_T40 l0_0 x3_2).f0), .int .u32 0, .slice none 0 0, .int .u32 0]) ?_ 1 _ rfl; (with_reducible repeat (first | refine blk_drewN ?_ _ | refine blk_drew ?_ | refine blk_alloc ?_ _)); refine blk_put (cs := #[.int .u32 0, .int .u32 0, .slice none 0 0, .int .u32 0]) ?_ 0 _ rfl; (with_reducible repeat (first | refine blk_drewN ?_ _ | refine blk_drew ?_ | refine blk_alloc ?_ _)); exact BK243.out⟩, ⟨by repeat (first | (with_reducible first | exact HB.out | apply below_alloc | apply pw_below_drewN | apply below_drew1 | refine below_set ?_ GE240.out | refine below_set ?_ GE243.out) | exact HB.out)⟩⟩
                  · rw [if_neg c17] at H
                    have c17b0 : decide (4 < (((rd_T40 l0_0 x3_2).f2).length : Int)) = false := decide_eq_false c17
                    have c17b1 : decide (4 < ((rd_T40 l0_0 x3_2).f2).length) = false := decide_eq_false (by omega)
                    clear c17
                    (first | rw [c17b0] | (simp only [i64_w, i32_w]; rw [c17b0]) | skip)
                    replace H := Option.bind_eq_some_iff.mp H
                    obtain ⟨t244, A200, H⟩ := H
                    replace H : (hurdleref10_Right.j2 k2 x3_2 (t244.toList == ([] : List UInt8)) l0_0 a0_1 ((rd_T40 l0_0 x3_2).f0) ((rd_T40 l0_0 x3_2).f1) ((rd_T40 l0_0 x3_2).f2) ((rd_T40 l0_0 x3_2).f3)) = some r := H
                    have A20 := Aside0.mk A200
                    clear A200
                    have H' := Aside0.mk H
                    clear H
                    have hnb21 := NB243_240.out
                    have hnc21 := NB240_243.out
                    have hcz22_0 : w14.cell? ⟨gb243, 0, none⟩ = some (.int .u32 0) := (blk_cell BK243.out 0).trans rfl
                    have hcz22_1 : w14.cell? ⟨gb243, 1, none⟩ = some (.int .u32 0) := (blk_cell BK243.out 1).trans rfl
                    have hcz22_2 : w14.cell? ⟨gb243, 2, none⟩ = some (.slice none 0 0) := (blk_cell BK243.out 2).trans rfl
                    have hcz22_3 : w14.cell? ⟨gb243, 3, none⟩ = some (.int .u32 0) := (blk_cell BK243.out 3).trans rfl
                    have hfz22_0 := blk_frozen BK243.out 0
                    have hfz22_1 := blk_frozen BK243.out 1
                    have hfz22_2 := blk_frozen BK243.out 2
                    have hfz22_3 := blk_frozen BK243.out 3
                    go_wp2_with (first | (go_at_call 33; (with_reducible refine (hurdleref09_Action.calls k2 ((rd_T40 l0_0 x3_2).f3) t244 _ A20.out).mono ?_); rintro e w23 ⟨rfl, hb⟩; have n0_ := Aside0.mk (blk_below (g := gb240) (o := .cells #[.slice (some ad242) l0_0.length c0_0, .int .u32 a0_1] 25 (0, 0)) (by (with_reducible repeat (first | refine blk_drewN ?_ _ | refine blk_drew ?_ | refine blk_alloc ?_ _)); refine blk_far ?_ NB240_243.out _; (with_reducible repeat (first | refine blk_drewN ?_ _ | refine blk_drew ?_ | refine blk_alloc ?_ _)); refine blk_far ?_ NB240_243.out _; (with_reducible repeat (first | refine blk_drewN ?_ _ | refine blk_drew ?_ | refine blk_alloc ?_ _)); refine blk_far ?_ NB240_243.out _; (with_reducible repeat (first | refine blk_drewN ?_ _ | refine blk_drew ?_ | refine blk_alloc ?_ _)); refine blk_far ?_ NB240_243.out _; (with_reducible repeat (first | refine blk_drewN ?_ _ | refine blk_drew ?_ | refine blk_alloc ?_ _)); exact BK240.out) hb); have n1_ := Aside0.mk (blk_below (g := gb243) (o := .cells #[.int .u32 ((rd_T40 l0_0 x3_2).f0), .int .u32 ((rd_T40 l0_0 x3_2).f1), .slice A242_2 ((rd_T40 l0_0 x3_2).f2).length c242_2, .int .u32 ((rd_T40 l0_0 x3_2).f3)] 40 (0, 0)) (by (with_reducible repeat (first | refine blk_drewN ?_ _ | refine blk_drew ?_ | refine blk_alloc ?_ _)); refine blk_put (cs := #[.int .u32 ((rd_T40 l0_0 x3_2).f0), .int .u32 ((rd_T40 l0_0 x3_2).f1), .slice A242_2 ((rd_T40 l0_0 x3_2).f2).length c242_2, .int .u32 0]) ?_ 3 _ rfl; (with_reducible repeat (first | refine blk_drewN ?_ _ | refine blk_drew ?_ | refine blk_alloc ?_ _)); refine blk_put (cs := #[.int .u32 ((rd_T40 l0_0 x3_2).f0), .int .u32 ((rd_T40 l0_0 x3_2).f1), .slice none 0 0, .int .u32 0]) ?_ 2 _ rfl; (with_reducible repeat (first | refine blk_drewN ?_ _ | refine blk_drew ?_ | refine blk_alloc ?_ _)); refine blk_put (cs := #[.int .u32 ((rd_T40 l0_0 x3_2).f0), .int .u32 0, .slice none 0 0, .int .u32 0]) ?_ 1 _ rfl; (with_reducible repeat (first | refine blk_drewN ?_ _ | refine blk_drew ?_ | refine blk_alloc ?_ _)); refine blk_put (cs := #[.int .u32 0, .int .u32 0, .slice none 0 0, .int .u32 0]) ?_ 0 _ rfl; (with_reducible repeat (first | refine blk_drewN ?_ _ | refine blk_drew ?_ | refine blk_alloc ?_ _)); exact BK243.out) hb); have n2_ := Aside0.mk (below_step (by repeat (first | (with_reducible first | exact HB.out | apply below_alloc | apply pw_below_drewN | apply below_drew1 | refine below_set ?_ GE240.out | refine below_set ?_ GE243.out) | exact HB.out)) hb); clear BK240; clear BK243; clear HB; have BK240 := n0_; have BK243 := n1_; have HB := n2_; clear n0_ n1_ n2_; (try clear hb); (try clear hb2); (try clear hk); (try clear hi)))
                    go_meet
                    case rel => exact ⟨_, ((t244.toList == ([] : List UInt8))), (by first | rfl | (simp; done) | (simp [*]; done)), H', ⟨by have := HJ1.out; have := HK2.out; first | omega | exact Nat.le_refl _⟩, ⟨by (with_reducible repeat (first | refine blk_drewN ?_ _ | refine blk_drew ?_ | refine blk_alloc ?_ _)); exact BK240.out⟩, ⟨by (with_reducible repeat (first | refine blk_drewN ?_ _ | refine blk_drew ?_ | refine blk_alloc ?_ _)); exact BK243.out⟩, ⟨by repeat (first | (with_reducible first | exact HB.out | apply below_alloc | apply pw_below_drewN | apply below_drew1 | refine below_set ?_ GE240.out | refine below_set ?_ GE243.out) | exact HB.out)⟩⟩
                case rest =>
                  clear HC12
                  try clear c1
                  try clear c2
                  try clear p2
                  try clear q2
                  try clear hx2
                  try clear c4
                  try clear c4b0
                  try clear c4b1
                  try clear c9
                  try clear c10
                  try clear c10b0
                  try clear c11
                  try clear c11b0
                  try clear c15
                  try clear c17
                  try clear c17b0
                  try clear c17b1
                  try clear c18
                  try clear c21
                  try clear hcz13_0
                  try clear hcz13_1
                  try clear hcz16_0
                  try clear hcz16_1
                  try clear hcz16_2
                  try clear hcz16_3
                  try clear hcz19_0
                  try clear hcz19_1
                  try clear hcz19_2
                  try clear hcz19_3
                  try clear hcz22_0
                  try clear hcz22_1
                  try clear hcz22_2
                  try clear hcz22_3
                  try clear hcz5_0
                  try clear hcz5_1
                  try clear hcz7_0
                  try clear hcz7_1
                  try clear hfz13_0
                  try clear hfz13_1
                  try clear hfz16_0
                  try clear hfz16_1
                  try clear hfz16_2
                  try clear hfz16_3
                  try clear hfz19_0
                  try clear hfz19_1
                  try clear hfz19_2
                  try clear hfz19_3
                  try clear hfz22_0
                  try clear hfz22_1
                  try clear hfz22_2
                  try clear hfz22_3
                  try clear hfz5_0
                  try clear hfz5_1
                  try clear hfz7_0
                  try clear hfz7_1
                  try clear hx242_0
                  try clear hx242_1
                  try clear hx242_2
                  try clear hx242_3
                  try clear p2
                  try clear p242
                  try clear q242
                  obtain ⟨kq, x37_11, rfl, HA, HJ11, BK240, BK243, HB⟩ := hcut
                  cases kq with
                  | zero => exact absurd HA.out (by simp [hurdleref10_Right.j2])
                  | succ kj11 =>
                    have H := HA.out
                    clear HA
                    simp only [hurdleref10_Right.j2] at H
                    by_cases c24 : x37_11 = true
                    · subst c24
                      have H1 : (some false) = some r := by rw [if_pos rfl] at H; exact H
                      clear H
                      have H := H1
                      clear H1
                      obtain rfl := Option.some.inj H
                      go_wp2
                      go_ret
                      exact ⟨by first | rfl | (simp [errW_none, errW_some] <;> rfl) | (simp [*, errW_none, errW_some] <;> rfl), by repeat (first | (with_reducible first | exact HB.out | apply below_alloc | apply pw_below_drewN | apply below_drew1 | refine below_set ?_ GE240.out | refine below_set ?_ GE243.out) | exact HB.out)⟩
                    · replace c24 := Bool.eq_false_iff.mpr c24
                      subst c24
                      have H1 : (hurdleref10_Right.l1 kj11 x3_2 0 l0_0 a0_1 ((rd_T40 l0_0 x3_2).f0) ((rd_T40 l0_0 x3_2).f1) ((rd_T40 l0_0 x3_2).f2) ((rd_T40 l0_0 x3_2).f3)) = some r := by rw [if_neg (show ¬ (false = true) by decide)] at H; exact H
                      clear H
                      have H := H1
                      clear H1
                      have H' := Aside0.mk H
                      clear H
                      go_wp2
                      go_loopg [5] kj11 (fun kq v5 w' => ∃ (x5_4 : Int), v5 = .int .i64 x5_4 ∧ Aside0 (hurdleref10_Right.l1 kq x3_2 x5_4 l0_0 a0_1 ((rd_T40 l0_0 x3_2).f0) ((rd_T40 l0_0 x3_2).f1) ((rd_T40 l0_0 x3_2).f2) ((rd_T40 l0_0 x3_2).f3) = some r) ∧ Aside0 (kq ≤ kj11) ∧ Aside0 (w'.heap[gb240]? = some (.cells #[(.slice (some ad242) l0_0.length c0_0), .int .u32 a0_1] 25 (0, 0))) ∧ Aside0 (w'.heap[gb243]? = some (.cells #[.int .u32 ((rd_T40 l0_0 x3_2).f0), .int .u32 ((rd_T40 l0_0 x3_2).f1), (.slice A242_2 ((rd_T40 l0_0 x3_2).f2).length c242_2), .int .u32 ((rd_T40 l0_0 x3_2).f3)] 40 (0, 0))) ∧ Aside0 (Below w.heap.size w w'))
                      case atStart => exact ⟨(0), (by first | rfl | (simp; done) | (simp [*]; done)), H', ⟨Nat.le_refl _⟩, ⟨by (with_reducible repeat (first | refine blk_drewN ?_ _ | refine blk_drew ?_ | refine blk_alloc ?_ _)); exact BK240.out⟩, ⟨by (with_reducible repeat (first | refine blk_drewN ?_ _ | refine blk_drew ?_ | refine blk_alloc ?_ _)); exact BK243.out⟩, ⟨by repeat (first | (with_reducible first | exact HB.out | apply below_alloc | apply pw_below_drewN | apply below_drew1 | refine below_set ?_ GE240.out | refine below_set ?_ GE243.out) | exact HB.out)⟩⟩
                      case round =>
                        clear H'
                        try clear c1
                        try clear c2
                        try clear p2
                        try clear q2
                        try clear hx2
                        try clear c4
                        try clear c4b0
                        try clear c4b1
                        try clear c9
                        try clear c10
                        try clear c10b0
                        try clear c11
                        try clear c11b0
                        try clear c15
                        try clear c17
                        try clear c17b0
                        try clear c17b1
                        try clear c18
                        try clear c21
                        try clear c24
                        try clear p24
                        try clear q24
                        try clear hx24
                        try clear hcz13_0
                        try clear hcz13_1
                        try clear hcz16_0
                        try clear hcz16_1
                        try clear hcz16_2
                        try clear hcz16_3
                        try clear hcz19_0
                        try clear hcz19_1
                        try clear hcz19_2
                        try clear hcz19_3
                        try clear hcz22_0
                        try clear hcz22_1
                        try clear hcz22_2
                        try clear hcz22_3
                        try clear hcz5_0
                        try clear hcz5_1
                        try clear hcz7_0
                        try clear hcz7_1
                        try clear hfz13_0
                        try clear hfz13_1
                        try clear hfz16_0
                        try clear hfz16_1
                        try clear hfz16_2
                        try clear hfz16_3
                        try clear hfz19_0
                        try clear hfz19_1
                        try clear hfz19_2
                        try clear hfz19_3
                        try clear hfz22_0
                        try clear hfz22_1
                        try clear hfz22_2
                        try clear hfz22_3
                        try clear hfz5_0
                        try clear hfz5_1
                        try clear hfz7_0
                        try clear hfz7_1
                        try clear hx242_0
                        try clear hx242_1
                        try clear hx242_2
                        try clear hx242_3
                        try clear p2
                        try clear p242
                        try clear q2
                        try clear q242
                        obtain ⟨x5_4, rfl, HA, HK4, BK240, BK243, HB⟩ := hrel
                        cases gk with
                        | zero => exact absurd HA.out (by simp [hurdleref10_Right.l1])
                        | succ k4 =>
                          have H := HA.out
                          clear HA
                          simp only [hurdleref10_Right.l1] at H
                          by_cases c25 : x5_4 < (((rd_T40 l0_0 x3_2).f2).length : Int)
                          · rw [if_pos c25] at H
                            have c25b0 : decide (x5_4 < (((rd_T40 l0_0 x3_2).f2).length : Int)) = true := decide_eq_true c25
                            clear c25
                            by_cases c26 : 0 ≤ x5_4
                            · rw [if_pos c26] at H
                              have c26b0 : decide (0 ≤ x5_4) = true := decide_eq_true c26
                              clear c26
                              replace H := Option.bind_eq_some_iff.mp H
                              obtain ⟨t246, A270, H⟩ := H
                              replace H : (if t246 = true then (hurdleref10_Right.l1 k4 x3_2 (wrap64 (x5_4 + 1)) l0_0 a0_1 ((rd_T40 l0_0 x3_2).f0) ((rd_T40 l0_0 x3_2).f1) ((rd_T40 l0_0 x3_2).f2) ((rd_T40 l0_0 x3_2).f3)) else (some false)) = some r := H
                              have A27 := Aside0.mk A270
                              clear A270
                              by_cases c28 : t246 = true
                              · subst c28
                                have H1 : (hurdleref10_Right.l1 k4 x3_2 (wrap64 (x5_4 + 1)) l0_0 a0_1 ((rd_T40 l0_0 x3_2).f0) ((rd_T40 l0_0 x3_2).f1) ((rd_T40 l0_0 x3_2).f2) ((rd_T40 l0_0 x3_2).f3)) = some r := by rw [if_pos rfl] at H; exact H
                                clear H
                                have H := H1
                                clear H1
                                have H' := Aside0.mk H
                                clear H
                                have hnb29 := NB243_240.out
                                have hnc29 := NB240_243.out
                                have hcz30_0 : wr.cell? ⟨gb243, 0, none⟩ = some (.int .u32 ((rd_T40 l0_0 x3_2).f0)) := (blk_cell BK243.out 0).trans rfl
                                have hcz30_1 : wr.cell? ⟨gb243, 1, none⟩ = some (.int .u32 ((rd_T40 l0_0 x3_2).f1)) := (blk_cell BK243.out 1).trans rfl
                                have hcz30_2 : wr.cell? ⟨gb243, 2, none⟩ = some (.slice A242_2 ((rd_T40 l0_0 x3_2).f2).length c242_2) := (blk_cell BK243.out 2).trans rfl
                                have hcz30_3 : wr.cell? ⟨gb243, 3, none⟩ = some (.int .u32 ((rd_T40 l0_0 x3_2).f3)) := (blk_cell BK243.out 3).trans rfl
                                have hfz30_0 := blk_frozen BK243.out 0
                                have hfz30_1 := blk_frozen BK243.out 1
                                have hfz30_2 := blk_frozen BK243.out 2
                                have hfz30_3 := blk_frozen BK243.out 3
                                have p245 : 0 ≤ (x5_4 : Int) := of_decide_eq_true (by first | (with_reducible assumption) | assumption)
                                have q245 : x5_4 < (((rd_T40 l0_0 x3_2).f2).length : Int) := of_decide_eq_true (by first | (with_reducible assumption) | assumption)
                                obtain ⟨ad245, e245, hx245_0, hx245_1, hx245_2, hx245_3⟩ := at_T61 HR242_2.out x5_4 p245 q245
                                cases e245
                                replace hx245_0 := (HB.out.cell (World.block_lt_of_cell? w _ hx245_0)).trans hx245_0
                                replace hx245_1 := (HB.out.cell (World.block_lt_of_cell? w _ hx245_1)).trans hx245_1
                                replace hx245_2 := (HB.out.cell (World.block_lt_of_cell? w _ hx245_2)).trans hx245_2
                                replace hx245_3 := (HB.out.cell (World.block_lt_of_cell? w _ hx245_3)).trans hx245_3
                                replace p245 := eq_true p245
                                replace q245 := eq_true q245
                                go_wp2_with (first | ((with_reducible refine gate_callee (f := 34) rfl ?_); refine goesL_ (some 50) rfl rfl Try.func34 (by kernel_rfl) rfl #[.agg #[.int .i64 ((rd_T61 ((rd_T40 l0_0 x3_2).f2) x5_4).f0), .int .i64 ((rd_T61 ((rd_T40 l0_0 x3_2).f2) x5_4).f1), .int .u64 ((rd_T61 ((rd_T40 l0_0 x3_2).f2) x5_4).f2), .int .u64 ((rd_T61 ((rd_T40 l0_0 x3_2).f2) x5_4).f3)]] rfl (by (try simp only [List.map_toArray, List.map_cons, List.map_nil]); first | done | rfl | (simp only [List.length_drop, List.length_take]; rfl)) ?_; (with_reducible refine (hurdleref08_Right.calls ((rd_T61 ((rd_T40 l0_0 x3_2).f2) x5_4).f0) ((rd_T61 ((rd_T40 l0_0 x3_2).f2) x5_4).f1) ((rd_T61 ((rd_T40 l0_0 x3_2).f2) x5_4).f2) ((rd_T61 ((rd_T40 l0_0 x3_2).f2) x5_4).f3) true _ A27.out).mono ?_); rintro e w31 ⟨rfl, hb⟩; refine ⟨_, rfl, ?_⟩; have n0_ := Aside0.mk (blk_below (g := gb240) (o := .cells #[.slice (some ad242) l0_0.length c0_0, .int .u32 a0_1] 25 (0, 0)) (by (with_reducible repeat (first | refine blk_drewN ?_ _ | refine blk_drew ?_ | refine blk_alloc ?_ _)); exact BK240.out) hb); have n1_ := Aside0.mk (blk_below (g := gb243) (o := .cells #[.int .u32 ((rd_T40 l0_0 x3_2).f0), .int .u32 ((rd_T40 l0_0 x3_2).f1), .slice (some ad245) ((rd_T40 l0_0 x3_2).f2).length c242_2, .int .u32 ((rd_T40 l0_0 x3_2).f3)] 40 (0, 0)) (by (with_reducible repeat (first | refine blk_drewN ?_ _ | refine blk_drew ?_ | refine blk_alloc ?_ _)); exact BK243.out) hb); have n2_ := Aside0.mk (below_step (by repeat (first | (with_reducible first | exact HB.out | apply below_alloc | apply pw_below_drewN | apply below_drew1 | refine below_set ?_ GE240.out | refine below_set ?_ GE243.out) | exact HB.out)) hb); clear BK240; clear BK243; clear HB; have BK240 := n0_; have BK243 := n1_; have HB := n2_; clear n0_ n1_ n2_; (try clear hb); (try clear hb2); (try clear hk); (try clear hi)))
                                go_roundg k4
                                case measure => have := HJ1.out; have := HK2.out; have := HJ11.out; have := HK4.out; omega
                                case rel => exact ⟨(wrap64 (x5_4 + 1)), (by first | rfl | (simp; done) | (simp [*]; done)), H', ⟨by have := HJ1.out; have := HK2.out; have := HJ11.out; have := HK4.out; omega⟩, ⟨by (with_reducible repeat (first | refine blk_drewN ?_ _ | refine blk_drew ?_ | refine blk_alloc ?_ _)); exact BK240.out⟩, ⟨by (with_reducible repeat (first | refine blk_drewN ?_ _ | refine blk_drew ?_ | refine blk_alloc ?_ _)); exact BK243.out⟩, ⟨by repeat (first | (with_reducible first | exact HB.out | apply below_alloc | apply pw_below_drewN | apply below_drew1 | refine below_set ?_ GE240.out | refine below_set ?_ GE243.out) | exact HB.out)⟩⟩
                              · replace c28 := Bool.eq_false_iff.mpr c28
                                subst c28
                                have H1 : (some false) = some r := by rw [if_neg (show ¬ (false = true) by decide)] at H; exact H
                                clear H
                                have H := H1
                                clear H1
                                obtain rfl := Option.some.inj H
                                have hnb32 := NB243_240.out
                                have hnc32 := NB240_243.out
                                have hcz33_0 : wr.cell? ⟨gb243, 0, none⟩ = some (.int .u32 ((rd_T40 l0_0 x3_2).f0)) := (blk_cell BK243.out 0).trans rfl
                                have hcz33_1 : wr.cell? ⟨gb243, 1, none⟩ = some (.int .u32 ((rd_T40 l0_0 x3_2).f1)) := (blk_cell BK243.out 1).trans rfl
                                have hcz33_2 : wr.cell? ⟨gb243, 2, none⟩ = some (.slice A242_2 ((rd_T40 l0_0 x3_2).f2).length c242_2) := (blk_cell BK243.out 2).trans rfl
                                have hcz33_3 : wr.cell? ⟨gb243, 3, none⟩ = some (.int .u32 ((rd_T40 l0_0 x3_2).f3)) := (blk_cell BK243.out 3).trans rfl
                                have hfz33_0 := blk_frozen BK243.out 0
                                have hfz33_1 := blk_frozen BK243.out 1
                                have hfz33_2 := blk_frozen BK243.out 2
                                have hfz33_3 := blk_frozen BK243.out 3
                                have p245 : 0 ≤ (x5_4 : Int) := of_decide_eq_true (by first | (with_reducible assumption) | assumption)
                                have q245 : x5_4 < (((rd_T40 l0_0 x3_2).f2).length : Int) := of_decide_eq_true (by first | (with_reducible assumption) | assumption)
                                obtain ⟨ad245, e245, hx245_0, hx245_1, hx245_2, hx245_3⟩ := at_T61 HR242_2.out x5_4 p245 q245
                                cases e245
                                replace hx245_0 := (HB.out.cell (World.block_lt_of_cell? w _ hx245_0)).trans hx245_0
                                replace hx245_1 := (HB.out.cell (World.block_lt_of_cell? w _ hx245_1)).trans hx245_1
                                replace hx245_2 := (HB.out.cell (World.block_lt_of_cell? w _ hx245_2)).trans hx245_2
                                replace hx245_3 := (HB.out.cell (World.block_lt_of_cell? w _ hx245_3)).trans hx245_3
                                replace p245 := eq_true p245
                                replace q245 := eq_true q245
                                go_wp2_with (first | ((with_reducible refine gate_callee (f := 34) rfl ?_); refine goesL_ (some 50) rfl rfl Try.func34 (by kernel_rfl) rfl #[.agg #[.int .i64 ((rd_T61 ((rd_T40 l0_0 x3_2).f2) x5_4).f0), .int .i64 ((rd_T61 ((rd_T40 l0_0 x3_2).f2) x5_4).f1), .int .u64 ((rd_T61 ((rd_T40 l0_0 x3_2).f2) x5_4).f2), .int .u64 ((rd_T61 ((rd_T40 l0_0 x3_2).f2) x5_4).f3)]] rfl (by (try simp only [List.map_toArray, List.map_cons, List.map_nil]); first | done | rfl | (simp only [List.length_drop, List.length_take]; rfl)) ?_; (with_reducible refine (hurdleref08_Right.calls ((rd_T61 ((rd_T40 l0_0 x3_2).f2) x5_4).f0) ((rd_T61 ((rd_T40 l0_0 x3_2).f2) x5_4).f1) ((rd_T61 ((rd_T40 l0_0 x3_2).f2) x5_4).f2) ((rd_T61 ((rd_T40 l0_0 x3_2).f2) x5_4).f3) false _ A27.out).mono ?_); rintro e w34 ⟨rfl, hb⟩; refine ⟨_, rfl, ?_⟩; have n0_ := Aside0.mk (blk_below (g := gb240) (o := .cells #[.slice (some ad242) l0_0.length c0_0, .int .u32 a0_1] 25 (0, 0)) (by (with_reducible repeat (first | refine blk_drewN ?_ _ | refine blk_drew ?_ | refine blk_alloc ?_ _)); exact BK240.out) hb); have n1_ := Aside0.mk (blk_below (g := gb243) (o := .cells #[.int .u32 ((rd_T40 l0_0 x3_2).f0), .int .u32 ((rd_T40 l0_0 x3_2).f1), .slice (some ad245) ((rd_T40 l0_0 x3_2).f2).length c242_2, .int .u32 ((rd_T40 l0_0 x3_2).f3)] 40 (0, 0)) (by (with_reducible repeat (first | refine blk_drewN ?_ _ | refine blk_drew ?_ | refine blk_alloc ?_ _)); exact BK243.out) hb); have n2_ := Aside0.mk (below_step (by repeat (first | (with_reducible first | exact HB.out | apply below_alloc | apply pw_below_drewN | apply below_drew1 | refine below_set ?_ GE240.out | refine below_set ?_ GE243.out) | exact HB.out)) hb); clear BK240; clear BK243; clear HB; have BK240 := n0_; have BK243 := n1_; have HB := n2_; clear n0_ n1_ n2_; (try clear hb); (try clear hb2); (try clear hk); (try clear hi)))
                                go_ret
                                exact ⟨by first | rfl | (simp [errW_none, errW_some] <;> rfl) | (simp [*, errW_none, errW_some] <;> rfl), by repeat (first | (with_reducible first | exact HB.out | apply below_alloc | apply pw_below_drewN | apply below_drew1 | refine below_set ?_ GE240.out | refine below_set ?_ GE243.out) | exact HB.out)⟩
                            · rw [if_neg c26] at H
                              exact absurd H (by simp)
                          · rw [if_neg c25] at H
                            have c25b0 : decide (x5_4 < (((rd_T40 l0_0 x3_2).f2).length : Int)) = false := decide_eq_false c25
                            clear c25
                            have H' := Aside0.mk H
                            clear H
                            have hnb35 := NB243_240.out
                            have hnc35 := NB240_243.out
                            have hcz36_0 : wr.cell? ⟨gb243, 0, none⟩ = some (.int .u32 ((rd_T40 l0_0 x3_2).f0)) := (blk_cell BK243.out 0).trans rfl
                            have hcz36_1 : wr.cell? ⟨gb243, 1, none⟩ = some (.int .u32 ((rd_T40 l0_0 x3_2).f1)) := (blk_cell BK243.out 1).trans rfl
                            have hcz36_2 : wr.cell? ⟨gb243, 2, none⟩ = some (.slice A242_2 ((rd_T40 l0_0 x3_2).f2).length c242_2) := (blk_cell BK243.out 2).trans rfl
                            have hcz36_3 : wr.cell? ⟨gb243, 3, none⟩ = some (.int .u32 ((rd_T40 l0_0 x3_2).f3)) := (blk_cell BK243.out 3).trans rfl
                            have hfz36_0 := blk_frozen BK243.out 0
                            have hfz36_1 := blk_frozen BK243.out 1
                            have hfz36_2 := blk_frozen BK243.out 2
                            have hfz36_3 := blk_frozen BK243.out 3
                            go_wp2
                            go_roundg k4
                            case measure => have := HJ1.out; have := HK2.out; have := HJ11.out; have := HK4.out; omega
                            case rel => exact ⟨(wrap64 (x3_2 + 1)), (by first | rfl | (simp; done) | (simp [*]; done)), H', ⟨by have := HJ1.out; have := HK2.out; have := HJ11.out; have := HK4.out; omega⟩, ⟨by (with_reducible repeat (first | refine blk_drewN ?_ _ | refine blk_drew ?_ | refine blk_alloc ?_ _)); exact BK240.out⟩, ⟨by repeat (first | (with_reducible first | exact HB.out | apply below_alloc | apply pw_below_drewN | apply below_drew1 | refine below_set ?_ GE240.out | refine below_set ?_ GE243.out) | exact HB.out)⟩⟩
              · rw [if_neg c11] at H
                exact absurd H (by simp)
            · rw [if_neg c10] at H
              have c10b0 : decide (x3_2 < (l0_0.length : Int)) = false := decide_eq_false c10
              clear c10
              obtain rfl := Option.some.inj H
              have hcz37_0 : wr.cell? ⟨gb240, 0, none⟩ = some (.slice A0_0 l0_0.length c0_0) := (blk_cell BK240.out 0).trans rfl
              have hcz37_1 : wr.cell? ⟨gb240, 1, none⟩ = some (.int .u32 a0_1) := (blk_cell BK240.out 1).trans rfl
              have hfz37_0 := blk_frozen BK240.out 0
              have hfz37_1 := blk_frozen BK240.out 1
              go_wp2
              go_ret
              exact ⟨by first | rfl | (simp [errW_none, errW_some] <;> rfl) | (simp [*, errW_none, errW_some] <;> rfl), by repeat (first | (with_reducible first | exact HB.out | apply below_alloc | apply pw_below_drewN | apply below_drew1 | refine below_set ?_ GE240.out) | exact HB.out)⟩
end Go.Proofs.Ytekpbgmmogpbdaa.P
set_option linter.unusedVariables false
set_option linter.unusedSimpArgs false
set_option maxRecDepth 100000
namespace Go.Proofs.Ytekpbgmmogpbdaa.H
open Go.RowKit Go.Proofs.Ytekpbgmmogpbdaa.P Go.Proofs.YtekpbgmmogpbdaaW.PrintWords Go.Proofs.YtekpbgmmogpbdaaW.PrintMore
theorem ref_textP (n : Nat) (h : n < 18446744073709551616) : H.hurdleref01_Text.f (n : Int) = some (strOfNums (textL n)) := by
  unfold H.hurdleref01_Text.f
  rw [if_pos (by unfold u64P; omega)]
  rfl
theorem ref_action (v : Nat) (hv : v < 4294967296) (k : Nat) (hk : 30 ≤ k) : hurdleref09_Action.f k (v : Int) = some (actOf v).1 := by
  obtain ⟨k, rfl⟩ : ∃ m, k = m + 1 := ⟨k - 1, by omega⟩
  unfold hurdleref09_Action.f
  have hmid : ∀ b : Bool, b = true ∧ 327680 ≤ v ∧ v ≤ 331775 ∨ b = false ∧ ¬ (327680 ≤ v ∧ v ≤ 331775) → hurdleref09_Action.j0 (k + 1) (v : Int) b = some (actOf v).1 := by
    intro b hb
    simp only [hurdleref09_Action.j0]
    rcases act_cases v hv with ⟨p, hp, h2, h3, _⟩ | ⟨d, hd, hvd, h3⟩ | ⟨hm, hmm, h3⟩
    · rw [h3]
      have hf : b = false := by
        rcases hb with ⟨_, h⟩ | ⟨h, _⟩
        · exact absurd h2 (AL_mid (v : Int) (by omega) (by omega) p hp)
        · exact h
      subst hf
      rw [if_neg (by decide)]
      rw [← h2]
      unfold AL at hp
      simp only [List.mem_cons, List.not_mem_nil, or_false] at hp
      rcases hp with rfl | rfl | rfl | rfl
      · rw [if_pos rfl]
      · rw [if_neg (by decide), if_pos rfl]
      · rw [if_neg (by decide), if_neg (by decide), if_pos rfl]
      · rw [if_neg (by decide), if_neg (by decide), if_neg (by decide), if_pos rfl]
    · rw [h3]
      have ht : b = true := by
        rcases hb with ⟨h, _⟩ | ⟨_, h⟩
        · exact h
        · exact absurd ⟨by omega, by omega⟩ h
      subst ht
      rw [if_pos rfl, show ((v : Int) - 327680) % 4294967296 = ((d : Nat) : Int) by omega, ref_textP d (by omega)]
      simp only [Option.bind_some]
      have hs := textL_size d (by omega)
      rw [if_pos (by omega)]
      rfl
    · rw [h3]
      have hf : b = false := by
        rcases hb with ⟨_, h⟩ | ⟨h, _⟩
        · exact absurd h hmm
        · exact h
      subst hf
      have m0 := hm (⟨#[107, 105, 108, 108]⟩, 0) (by unfold AL; simp)
      have m1 := hm (⟨#[116, 114, 97, 112]⟩, 196608) (by unfold AL; simp)
      have m2 := hm (⟨#[108, 111, 103]⟩, 2147221504) (by unfold AL; simp)
      have m3 := hm (⟨#[97, 108, 108, 111, 119]⟩, 2147418112) (by unfold AL; simp)
      rw [if_neg (by decide), if_neg (fun h => m0 h.symm), if_neg (fun h => m1 h.symm), if_neg (fun h => m2 h.symm), if_neg (fun h => m3 h.symm)]
  by_cases h1 : (v : Int) ≥ 327680
  · rw [if_pos h1]
    by_cases h2 : (v : Int) ≤ 331775
    · rw [decide_eq_true h2]; exact hmid true (.inl ⟨rfl, by omega, by omega⟩)
    · rw [decide_eq_false h2]; exact hmid false (.inr ⟨rfl, by omega⟩)
  · rw [if_neg h1]; exact hmid false (.inr ⟨rfl, by omega⟩)
end Go.Proofs.Ytekpbgmmogpbdaa.H
set_option linter.unusedVariables false
set_option linter.unusedSimpArgs false
set_option maxRecDepth 100000
namespace Go.Proofs.Ytekpbgmmogpbdaa.H
open Go.RowKit Go.Proofs.Ytekpbgmmogpbdaa.P Go.Proofs.YtekpbgmmogpbdaaW.PrintWords
theorem action_ev {v : Int} (h : u32P v) : Ev (fun k => hurdleref09_Action.f k v) (actOf v.toNat).1 := by
  obtain ⟨hn, he⟩ := toN h
  refine ⟨30, fun k hk => ?_⟩
  have := ref_action v.toNat hn k hk
  rw [he] at this
  exact this
theorem action_empty {v : Int} (h : u32P v) : ((actOf v.toNat).1.toList == ([] : List UInt8)) = !(actB v) := by
  unfold actB
  rcases act_cases v.toNat (toN h).1 with ⟨p, hp, h2, h3, h4⟩ | ⟨d, hd, h2, h3⟩ | ⟨h1, h2, h3⟩
  · rw [h3, ByteArray.toList_eq]
    cases hh : p.1.data.toList with
    | nil => exact absurd hh h4
    | cons a l => rfl
  · rw [h3, ByteArray.toList_eq, ba_add]
    rfl
  · rw [h3, ByteArray.toList_eq]; rfl
theorem ref_Right_f (a b c d : Int) : P.hurdleref08_Right.f a b c d = some (rightB a b) := by
  unfold P.hurdleref08_Right.f rightB
  by_cases h1 : a ≥ 0
  · rw [if_pos h1]
    by_cases h2 : a ≤ 5
    · rw [if_pos h2]
      by_cases h3 : b ≥ 0
      · rw [if_pos h3]; simp [h1, h3]; omega
      · rw [if_neg h3]; simp [h1]; omega
    · rw [if_neg h2]; simp; omega
  · rw [if_neg h1]; simp [h1]
theorem refRight_l1 (df : Int) (L : List S40) (x : S40) (i : Nat) (hi : i ≤ 1000) (hl : x.f2.length ≤ 1000) (r : Bool) (hn : Ev (fun k => hurdleref10_Right.l0 k ((i + 1 : Nat) : Int) L df) r) : ∀ (d j : Nat), j + d = x.f2.length →
    Ev (fun k => hurdleref10_Right.l1 k (i : Int) (j : Int) L df x.f0 x.f1 x.f2 x.f3) (condsB (x.f2.drop j) && r) := by
  intro d
  induction d with
  | zero =>
    intro j hj
    refine Ev.step (f := fun k => hurdleref10_Right.l0 k ((i + 1 : Nat) : Int) L df) (fun k => ?_) ?_
    · simp only [hurdleref10_Right.l1]
      rw [if_neg (by omega), wS i (by omega)]
    · rw [List.drop_eq_nil_of_le (by omega)]
      exact hn
  | succ d ih =>
    intro j hj
    have hlt : j < x.f2.length := by omega
    have hd : x.f2.drop j = x.f2[j] :: x.f2.drop (j + 1) := List.drop_eq_getElem_cons hlt
    by_cases hr : rightB x.f2[j].f0 x.f2[j].f1 = true
    · refine Ev.step (f := fun k => hurdleref10_Right.l1 k (i : Int) ((j + 1 : Nat) : Int) L df x.f0 x.f1 x.f2 x.f3) (fun k => ?_) ?_
      · simp only [hurdleref10_Right.l1]
        rw [if_pos (by omega), if_pos (by omega), rd61 x.f2 j hlt, ref_Right_f, Option.bind_some, if_pos hr, wS j (by omega)]
      · rw [hd, show condsB (x.f2[j] :: x.f2.drop (j + 1)) = condsB (x.f2.drop (j + 1)) by simp only [condsB, List.all_cons, hr, Bool.true_and]]
        exact ih (j + 1) (by omega)
    · refine Ev.step (f := fun _ => some false) (fun k => ?_) ?_
      · simp only [hurdleref10_Right.l1]
        rw [if_pos (by omega), if_pos (by omega), rd61 x.f2 j hlt, ref_Right_f, Option.bind_some, if_neg hr]
      · rw [hd, show condsB (x.f2[j] :: x.f2.drop (j + 1)) = false by simp only [condsB, List.all_cons]; rw [Bool.eq_false_iff.2 hr]; rfl]
        exact Ev.now _
theorem refRight_l0 (df : Int) (L : List S40) (hl : L.length ≤ 1000) (hk : ∀ x ∈ L, u32P x.f3) : ∀ (d i : Nat), i + d = L.length →
    Ev (fun k => hurdleref10_Right.l0 k (i : Int) L df) (rulesB (L.drop i)) := by
  intro d
  induction d with
  | zero =>
    intro i hi
    refine Ev.step (f := fun _ => some true) (fun k => ?_) ?_
    · simp only [hurdleref10_Right.l0]
      rw [if_neg (by omega)]
    · rw [List.drop_eq_nil_of_le (by omega)]
      exact Ev.now _
  | succ d ih =>
    intro i hi
    have hlt : i < L.length := by omega
    have hd : L.drop i = L[i] :: L.drop (i + 1) := List.drop_eq_getElem_cons hlt
    have hx := hk L[i] (List.getElem_mem hlt)
    have hrest := ih (i + 1) (by omega)
    have hj2 : ∀ b : Bool, (b = false → L[i].f2.length ≤ 1000) → Ev (fun k => hurdleref10_Right.j2 k (i : Int) b L df L[i].f0 L[i].f1 L[i].f2 L[i].f3) (!b && (condsB L[i].f2 && rulesB (L.drop (i + 1)))) := by
      intro b hb
      cases b with
      | true => exact Ev.step (f := fun _ => some false) (fun k => by simp only [hurdleref10_Right.j2, if_true]) (Ev.now _)
      | false =>
        refine Ev.step (f := fun k => hurdleref10_Right.l1 k (i : Int) ((0 : Nat) : Int) L df L[i].f0 L[i].f1 L[i].f2 L[i].f3) (fun k => ?_) ?_
        · simp only [hurdleref10_Right.j2, Bool.false_eq_true, if_false]; rfl
        · exact refRight_l1 df L L[i] i (by omega) (hb rfl) _ hrest L[i].f2.length 0 (by omega)
    rw [hd, show rulesB (L[i] :: L.drop (i + 1)) = (ruleB L[i] && rulesB (L.drop (i + 1))) by simp only [rulesB, List.all_cons]]
    by_cases h4 : (L[i].f2.length : Int) > 4
    · refine Ev.step (f := fun k => hurdleref10_Right.j2 k (i : Int) true L df L[i].f0 L[i].f1 L[i].f2 L[i].f3) (fun k => ?_) ?_
      · simp only [hurdleref10_Right.l0]
        rw [if_pos (by omega), if_pos (by omega), rd40 L i hlt, if_pos h4]
      · have : ruleB L[i] = false := by
          unfold ruleB
          rw [show decide (L[i].f2.length ≤ 4) = false from decide_eq_false (by omega)]
          simp
        rw [this]
        exact hj2 true (by simp)
    · refine Ev.step (f := fun k => (hurdleref09_Action.f k L[i].f3).bind fun t => hurdleref10_Right.j2 k (i : Int) (t.toList == ([] : List UInt8)) L df L[i].f0 L[i].f1 L[i].f2 L[i].f3) (fun k => ?_) ?_
      · simp only [hurdleref10_Right.l0]
        rw [if_pos (by omega), if_pos (by omega), rd40 L i hlt, if_neg h4]
      · refine Ev.bind (action_ev hx) ?_
        rw [action_empty hx]
        have := hj2 (!(actB L[i].f3)) (fun _ => by omega)
        rw [show (ruleB L[i] && rulesB (L.drop (i + 1))) = (!!(actB L[i].f3) && (condsB L[i].f2 && rulesB (L.drop (i + 1)))) by
          unfold ruleB
          rw [show decide (L[i].f2.length ≤ 4) = true from decide_eq_true (by omega), Bool.not_not, Bool.and_true]
          cases condsB L[i].f2 <;> cases actB L[i].f3 <;> rfl]
        exact this
theorem refRight_any (L : List S40) (df : Int) (h : polK L df) : Ev (fun k => hurdleref10_Right.f k L df) (polB L df) := by
  unfold hurdleref10_Right.f polB
  by_cases h64 : (L.length : Int) > 64
  · rw [show decide (L.length ≤ 64) = false from decide_eq_false (by omega), Bool.and_false, Bool.and_false]
    exact Ev_pos h64 (Ev.step (f := fun _ => some false) (fun k => by simp only [hurdleref10_Right.j0, if_true]) (Ev.now _))
  · have h0 := refRight_l0 df L (by omega) (fun x hx => (h.1 x hx).2.2.1) L.length 0 (by omega)
    have hj : ∀ b : Bool, Ev (fun k => hurdleref10_Right.j0 k b L df) (!b && rulesB L) := by
      intro b
      cases b with
      | true => exact Ev.step (f := fun _ => some false) (fun k => by simp only [hurdleref10_Right.j0, if_true]) (Ev.now _)
      | false => exact Ev.step (f := fun k => hurdleref10_Right.l0 k ((0 : Nat) : Int) L df) (fun k => by simp only [hurdleref10_Right.j0, Bool.false_eq_true, if_false]; rfl) h0
    rw [show decide (L.length ≤ 64) = true from decide_eq_true (by omega), Bool.and_true]
    refine Ev_neg h64 (Ev.bind (action_ev h.2) ?_)
    rw [action_empty h.2, Bool.and_comm]
    have := hj (!(actB df))
    rw [Bool.not_not] at this
    exact this
end Go.Proofs.Ytekpbgmmogpbdaa.H
set_option linter.unusedVariables false
set_option linter.unusedSimpArgs false
set_option maxRecDepth 100000
namespace Go.Proofs.Ytekpbgmmogpbdaa.H
open Go.RowKit Go.Proofs.Ytekpbgmmogpbdaa.P Go.Proofs.YtekpbgmmogpbdaaW.PrintWords
def small (L : List S40) : Prop := L.length ≤ 1000 ∧ ∀ x ∈ L, x.f2.length ≤ 1000
open Classical in
noncomputable def denote_Judge.f (l0_0 : List S40) (a0_1 : Int) (a1_0 : Int) (a1_1 : Int) (a1_2 : Int) (a1_3 : Int) (a1_4 : Int) (a1_5 : Int) (a1_6 : Int) (a1_7 : Int) (a1_8 : Int) : Option (Int × Int) := if polK l0_0 a0_1 ∧ small l0_0 ∧ IsDat a1_0 a1_1 a1_2 [a1_3, a1_4, a1_5, a1_6, a1_7, a1_8] then some (judgeR l0_0 a0_1 a1_0 a1_1 [a1_3, a1_4, a1_5, a1_6, a1_7, a1_8]) else none
theorem denote_Judge.calls (A0_0 : Option Addr) (c0_0 : Nat) (l0_0 : List S40) (a0_1 : Int) (a1_0 : Int) (a1_1 : Int) (a1_2 : Int) (a1_3 : Int) (a1_4 : Int) (a1_5 : Int) (a1_6 : Int) (a1_7 : Int) (a1_8 : Int) (r1 : Int) (r2 : Int) (w : World) (hr0_0 : Kd.C k40 w A0_0 l0_0.length l0_0) (hc0_0 : l0_0.length ≤ c0_0) (h : denote_Judge.f l0_0 a0_1 a1_0 a1_1 a1_2 a1_3 a1_4 a1_5 a1_6 a1_7 a1_8 = some (r1, r2)) :
    Calls Try.prog 25 #[.agg #[.slice A0_0 l0_0.length c0_0, .int .u32 a0_1], .agg #[.int .u32 a1_0, .int .u32 a1_1, .int .u64 a1_2, .int .u64 a1_3, .int .u64 a1_4, .int .u64 a1_5, .int .u64 a1_6, .int .u64 a1_7, .int .u64 a1_8]] w fun e w' => e = .returned (.tuple #[.int .u32 r1, .int .i64 r2]) ∧ Below w.heap.size w w' := by
  unfold denote_Judge.f at h
  split at h
  · rename_i hh
    have he := Option.some.inj h
    have := Judge_lit A0_0 c0_0 l0_0 a0_1 a1_0 a1_1 a1_2 a1_3 a1_4 a1_5 a1_6 a1_7 a1_8 hh.2.2 hh.1 hh.2.1.1 hh.2.1.2 hc0_0 w hr0_0
    rw [he] at this
    exact this
  · simp at h
open Classical in
noncomputable def hurdleref10_Right.f (l0_0 : List S40) (a0_1 : Int) : Option (Bool) := if polK l0_0 a0_1 then some (polB l0_0 a0_1) else none
theorem hurdleref10_Right.calls (A0_0 : Option Addr) (c0_0 : Nat) (l0_0 : List S40) (a0_1 : Int) (r : Bool) (w : World) (hr0_0 : Kd.C k40 w A0_0 l0_0.length l0_0) (hc0_0 : l0_0.length ≤ c0_0) (h : hurdleref10_Right.f l0_0 a0_1 = some r) :
    Calls Try.prog 17 #[.agg #[.slice A0_0 l0_0.length c0_0, .int .u32 a0_1]] w fun e w' => e = .returned (.bool r) ∧ Below w.heap.size w w' := by
  unfold hurdleref10_Right.f at h
  split at h
  · rename_i hh
    have he := Option.some.inj h
    obtain ⟨k, hk⟩ := Ev.rounds (refRight_any l0_0 a0_1 hh)
    rw [he] at hk
    exact (P.hurdleref10_Right.calls k A0_0 c0_0 l0_0 a0_1 r w hr0_0 hc0_0 hk).mono (fun e w' h => h)
  · simp at h
def hurdlelaw11_knows.f : Option Bool := some true
theorem hurdlelaw11_knows.calls (r : Bool) (w : World) (h : hurdlelaw11_knows.f = some r) : Calls Try.prog 23 #[] w fun e w' => e = .returned (.bool r) ∧ Below w.heap.size w w' := by
  obtain rfl := Option.some.inj h
  exact Knows11 w
end Go.Proofs.Ytekpbgmmogpbdaa.H
namespace Go.Proofs.Ytekpbgmmogpbdaa.D
open Go.RowKit Go.Proofs.Ytekpbgmmogpbdaa.H Go.Proofs.YtekpbgmmogpbdaaW.PrintWords Go.Proofs.YtekpbgmmogpbdaaW.PrintLast Go.Proofs.YtekpbgmmogpbdaaW.PrintMore
open Go.Proofs.Ytekpbgmmogpbdaa.P (errW errW_none errW_some info40 info61 S61 z61 k61 k61_open k61_mkM rd_T61 at_T61 S40 z40 k40 k40_open k40_mk k40_mkM k40_mkF rd_T40 at_T40)
attribute [local go_sem] max2_int min2_int max_two min_two max_three min_three max_four min_four
set_option linter.unusedVariables false
set_option linter.unusedSimpArgs false
theorem k61_heap : Kd.Heap k61 := Kd.heap_iso _ (Kd.heap_pair (Kd.heap_int .i64) (Kd.heap_pair (Kd.heap_int .i64) (Kd.heap_pair (Kd.heap_int .u64) (Kd.heap_int .u64))))
theorem k40_heap : Kd.Heap k40 := Kd.heap_iso _ (Kd.heap_pair (Kd.heap_int .u32) (Kd.heap_pair (Kd.heap_int .u32) (Kd.heap_pair (Kd.heap_slice 61 k61_heap) (Kd.heap_int .u32))))
noncomputable def hurdlelaw11_put.f (l0_0 : List (S40)) (a0_1 : Int) (a1 : Int) (a2_0 : Int) (a2_1 : Int) (l2_2 : List (S61)) (a2_3 : Int) : Option ((List (S40)) × Int) := (some (([] : List (S40)) : List (S40))).bind fun y163 => (if 0 ≤ a1 then (if a1 ≤ (l0_0.length : Int) then ((some (l0_0.take (a1 : Int).toNat : List (S40))).bind fun y166 => (if y163.length + y166.length < 3518437208883 then ((some (y163 ++ y166 : List (S40))).bind fun y171 => (if y171.length < 3518437208883 then ((some (y171 ++ [(⟨a2_0, a2_1, l2_2, a2_3⟩ : S40)] : List (S40))).bind fun y174 => ((some (l0_0.drop (a1 : Int).toNat : List (S40))).bind fun y177 => (if y174.length + y177.length < 3518437208883 then (some ((y174 ++ y177), a0_1)) else (none)))) else (none))) else (none))) else (none)) else (none))
def hurdlelaw11_put.T2 : Bool × List (List Nat × List Nat) := (true, [([], []), ([], []), ([1], [1]), ([0, 2], [0, 2]), ([], []), ([4], [4]), ([], []), ([5, 6], [5, 6]), ([3, 7, 3], [3, 7]), ([8, 8, 0, 1, 2, 3, 4, 5, 6, 7, 8], [0, 8])])
def hurdlelaw11_put.B2 : List Nat := [0, 0, 2, 7, 0, 16, 0, 112, 255, 511]
theorem hurdlelaw11_put.tab2 : rtab .any (opsOf Try.f30 2) = hurdlelaw11_put.T2 := by kernel_rfl
theorem hurdlelaw11_put.bits2 : waitsOk hurdlelaw11_put.T2.2 hurdlelaw11_put.B2 = true := by kernel_rfl
set_option maxHeartbeats 8000000 in
set_option maxRecDepth 100000 in
theorem hurdlelaw11_put.calls (P0_0_ : Nat → Prop) (A0_0 : Option Addr) (c0_0 : Nat) (l0_0 : List (S40)) (a0_1 : Int) (a1 : Int) (a2_0 : Int) (a2_1 : Int) (P2_2_ : Nat → Prop) (A2_2 : Option Addr) (c2_2 : Nat) (l2_2 : List (S61)) (a2_3 : Int) (r1 : List (S40)) (r2 : Int) (w : World) (hs0_0 : Kd.V k40 40 w w.heap.size (fun k_ => P0_0_ k_) (.slice A0_0 l0_0.length c0_0) l0_0) (hs2_2 : Kd.V k61 61 w w.heap.size (fun k_ => P2_2_ k_) (.slice A2_2 l2_2.length c2_2) l2_2) (h : hurdlelaw11_put.f l0_0 a0_1 a1 a2_0 a2_1 l2_2 a2_3 = some (r1, r2)) :
    Calls Try.prog 30 #[.agg #[.slice A0_0 l0_0.length c0_0, .int .u32 a0_1], .int .i64 a1, .agg #[.int .u32 a2_0, .int .u32 a2_1, .slice A2_2 l2_2.length c2_2, .int .u32 a2_3]] w fun e w' => ∃ v0_ : Value, e = .returned (.agg #[v0_, .int .u32 r2]) ∧ Kd.N k40 40 w' w.heap.size (fun k_ => ((P0_0_ k_ ∨ P2_2_ k_) ∨ w.heap.size ≤ k_)) v0_ r1 ∧ Below w.heap.size w w' := by
  have hu25 := Try.underlying25
  have hu40 := Try.underlying40
  have HO0_0 := Aside0.mk (show Kd.V k40 40 w w.heap.size (fun k_ => ((P0_0_ k_ ∨ P2_2_ k_) ∨ w.heap.size ≤ k_)) (.slice A0_0 l0_0.length c0_0) l0_0 from Kd.V_mono hs0_0 (fun k_ hk => .inl (.inl hk)))
  have HO2_2 := Aside0.mk (show Kd.V k61 61 w w.heap.size (fun k_ => ((P0_0_ k_ ∨ P2_2_ k_) ∨ w.heap.size ≤ k_)) (.slice A2_2 l2_2.length c2_2) l2_2 from Kd.V_mono hs2_2 (fun k_ hk => .inl (.inr hk)))
  have HB := Aside0.mk (Below.refl w.heap.size w)
  have H : ((some (([] : List (S40)) : List (S40))).bind fun y163 => (if 0 ≤ a1 then (if a1 ≤ (l0_0.length : Int) then ((some (l0_0.take (a1 : Int).toNat : List (S40))).bind fun y166 => (if y163.length + y166.length < 3518437208883 then ((some (y163 ++ y166 : List (S40))).bind fun y171 => (if y171.length < 3518437208883 then ((some (y171 ++ [(⟨a2_0, a2_1, l2_2, a2_3⟩ : S40)] : List (S40))).bind fun y174 => ((some (l0_0.drop (a1 : Int).toNat : List (S40))).bind fun y177 => (if y174.length + y177.length < 3518437208883 then (some ((y174 ++ y177), a0_1)) else (none)))) else (none))) else (none))) else (none)) else (none))) = some (r1, r2) := h
  clear h
  obtain ⟨y163, hy163⟩ : ∃ y_ : List (S40), y_ = (([] : List (S40))) := ⟨_, rfl⟩
  replace H : (if 0 ≤ a1 then (if a1 ≤ (l0_0.length : Int) then ((some (l0_0.take (a1 : Int).toNat : List (S40))).bind fun y166 => (if y163.length + y166.length < 3518437208883 then ((some (y163 ++ y166 : List (S40))).bind fun y171 => (if y171.length < 3518437208883 then ((some (y171 ++ [(⟨a2_0, a2_1, l2_2, a2_3⟩ : S40)] : List (S40))).bind fun y174 => ((some (l0_0.drop (a1 : Int).toNat : List (S40))).bind fun y177 => (if y174.length + y177.length < 3518437208883 then (some ((y174 ++ y177), a0_1)) else (none)))) else (none))) else (none))) else (none)) else (none)) = some (r1, r2) := by first | (rw [hy163]; with_reducible exact H) | (have H2_ := (Option.bind_some _ _).symm.trans H; rw [hy163]; with_reducible exact H2_) | (have H2_ := (Option.bind_some _ _).symm.trans H; with_reducible exact H2_) | with_reducible exact H | (rw [hy163]; exact H) | exact H
  have Ny163 := Aside0.mk hy163
  clear hy163
  by_cases c4 : 0 ≤ a1
  · rw [if_pos c4] at H
    have c4b0 := eq_true c4
    have c4b1 : decide (0 ≤ a1) = true := decide_eq_true c4
    clear c4
    by_cases c5 : a1 ≤ (l0_0.length : Int)
    · rw [if_pos c5] at H
      have c5b0 := eq_true c5
      have c5b1 : decide (a1 ≤ (l0_0.length : Int)) = true := decide_eq_true c5
      clear c5
      obtain ⟨y166, hy166⟩ : ∃ y_ : List (S40), y_ = (l0_0.take (a1 : Int).toNat) := ⟨_, rfl⟩
      replace H : (if y163.length + y166.length < 3518437208883 then ((some (y163 ++ y166 : List (S40))).bind fun y171 => (if y171.length < 3518437208883 then ((some (y171 ++ [(⟨a2_0, a2_1, l2_2, a2_3⟩ : S40)] : List (S40))).bind fun y174 => ((some (l0_0.drop (a1 : Int).toNat : List (S40))).bind fun y177 => (if y174.length + y177.length < 3518437208883 then (some ((y174 ++ y177), a0_1)) else (none)))) else (none))) else (none)) = some (r1, r2) := by first | (rw [hy166]; with_reducible exact H) | (have H2_ := (Option.bind_some _ _).symm.trans H; rw [hy166]; with_reducible exact H2_) | (have H2_ := (Option.bind_some _ _).symm.trans H; with_reducible exact H2_) | with_reducible exact H | (rw [hy166]; exact H) | exact H
      have Ny166 := Aside0.mk hy166
      clear hy166
      by_cases c6 : y163.length + y166.length < 3518437208883
      · rw [if_pos c6] at H
        have LMc6 := Aside0.mk c6
        clear c6
        obtain ⟨y171, hy171⟩ : ∃ y_ : List (S40), y_ = (y163 ++ y166) := ⟨_, rfl⟩
        replace H : (if y171.length < 3518437208883 then ((some (y171 ++ [(⟨a2_0, a2_1, l2_2, a2_3⟩ : S40)] : List (S40))).bind fun y174 => ((some (l0_0.drop (a1 : Int).toNat : List (S40))).bind fun y177 => (if y174.length + y177.length < 3518437208883 then (some ((y174 ++ y177), a0_1)) else (none)))) else (none)) = some (r1, r2) := by first | (rw [hy171]; with_reducible exact H) | (have H2_ := (Option.bind_some _ _).symm.trans H; rw [hy171]; with_reducible exact H2_) | (have H2_ := (Option.bind_some _ _).symm.trans H; with_reducible exact H2_) | with_reducible exact H | (rw [hy171]; exact H) | exact H
        have Ny171 := Aside0.mk hy171
        clear hy171
        by_cases c7 : y171.length < 3518437208883
        · rw [if_pos c7] at H
          have LMc7 := Aside0.mk c7
          clear c7
          obtain ⟨y174, hy174⟩ : ∃ y_ : List (S40), y_ = (y171 ++ [(⟨a2_0, a2_1, l2_2, a2_3⟩ : S40)]) := ⟨_, rfl⟩
          replace H : ((some (l0_0.drop (a1 : Int).toNat : List (S40))).bind fun y177 => (if y174.length + y177.length < 3518437208883 then (some ((y174 ++ y177), a0_1)) else (none))) = some (r1, r2) := by first | (rw [hy174]; with_reducible exact H) | (have H2_ := (Option.bind_some _ _).symm.trans H; rw [hy174]; with_reducible exact H2_) | (have H2_ := (Option.bind_some _ _).symm.trans H; with_reducible exact H2_) | with_reducible exact H | (rw [hy174]; exact H) | exact H
          have Ny174 := Aside0.mk hy174
          clear hy174
          have c8b0 := eq_true (of_decide_eq_true (by first | (with_reducible assumption) | assumption) : 0 ≤ a1)
          have c9b0 := eq_true (of_decide_eq_true (by first | (with_reducible assumption) | assumption) : a1 ≤ (l0_0.length : Int))
          obtain ⟨y177, hy177⟩ : ∃ y_ : List (S40), y_ = (l0_0.drop (a1 : Int).toNat) := ⟨_, rfl⟩
          replace H : (if y174.length + y177.length < 3518437208883 then (some ((y174 ++ y177), a0_1)) else (none)) = some (r1, r2) := by first | (rw [hy177]; with_reducible exact H) | (have H2_ := (Option.bind_some _ _).symm.trans H; rw [hy177]; with_reducible exact H2_) | (have H2_ := (Option.bind_some _ _).symm.trans H; with_reducible exact H2_) | with_reducible exact H | (rw [hy177]; exact H) | exact H
          have Ny177 := Aside0.mk hy177
          clear hy177
          by_cases c10 : y174.length + y177.length < 3518437208883
          · rw [if_pos c10] at H
            have LMc10 := Aside0.mk c10
            clear c10
            obtain ⟨y182, hy182⟩ : ∃ y_ : List (S40), y_ = (y174 ++ y177) := ⟨_, rfl⟩
            replace H : (some (y182, a0_1)) = some (r1, r2) := by first | (rw [hy182]; with_reducible exact H) | (have H2_ := (Option.bind_some _ _).symm.trans H; rw [hy182]; with_reducible exact H2_) | (have H2_ := (Option.bind_some _ _).symm.trans H; with_reducible exact H2_) | with_reducible exact H | (rw [hy182]; exact H) | exact H
            have Ny182 := Aside0.mk hy182
            clear hy182
            simp only [Option.some.injEq, Prod.mk.injEq] at H
            obtain ⟨rfl, rfl⟩ := H
            go_enter Try.func30, Try.ntmps30
            try go_wp2_with (first | ((with_reducible refine gate_dst (N := 3) rfl ?_); refine box_event ?hg (N := 3) ?hd (cs := #[.slice A0_0 l0_0.length c0_0, .int .u32 a0_1]) (t := 25) ?hr ?_; (case hd => rfl); (case hg => rfl); (case hr => first | (go_simp; done) | (go_simp; rfl)); intro gb160 hg w11 hbox hb; have n0_ := Aside0.mk (Kd.V_below (Kd.V_elderB (by (with_reducible repeat (first | apply Kd.V_alloc | apply Kd.V_drewN | apply Kd.V_drew)); exact HO0_0.out) gb160 (Nat.le_of_eq hg.symm)) hb); have n1_ := Aside0.mk (Kd.V_below (Kd.V_elderB (by (with_reducible repeat (first | apply Kd.V_alloc | apply Kd.V_drewN | apply Kd.V_drew)); exact HO2_2.out) gb160 (Nat.le_of_eq hg.symm)) hb); have n2_ := Aside0.mk (below_step (by repeat (first | (with_reducible first | exact HB.out | apply below_alloc | apply pw_below_drewN | apply below_drew1) | exact HB.out)) hb); have n3_ := Aside0.mk (hbox); have n4_ := Aside0.mk ((by rw [hg]; exact (below_size (by repeat (first | (with_reducible first | exact HB.out | apply below_alloc | apply pw_below_drewN | apply below_drew1) | exact HB.out))) : w.heap.size ≤ gb160)); have n5_ := Aside0.mk ((by rw [hg]; exact (below_size (by repeat (first | (with_reducible first | exact HB.out | apply below_alloc | apply pw_below_drewN | apply below_drew1) | exact HB.out))) : w.heap.size ≤ gb160)); clear HO0_0; clear HO2_2; clear HB; have HO0_0 := n0_; have HO2_2 := n1_; have HB := n2_; have BK160 := n3_; have GW160 := n4_; have GE160 := n5_; clear n0_ n1_ n2_ n3_ n4_ n5_; clear hb hbox hg) | ((with_reducible refine gate_dst (N := 5) rfl ?_); refine box_event ?hg (N := 5) ?hd (cs := #[.int .u32 a2_0, .int .u32 a2_1, .slice A2_2 l2_2.length c2_2, .int .u32 a2_3]) (t := 40) ?hr ?_; (case hd => rfl); (case hg => rfl); (case hr => first | (go_simp; done) | (go_simp; rfl)); intro gb161 hg w12 hbox hb; have n0_ := Aside0.mk (Kd.V_below (Kd.V_elderB (by (with_reducible repeat (first | apply Kd.V_alloc | apply Kd.V_drewN | apply Kd.V_drew)); exact HO0_0.out) gb161 (Nat.le_of_eq hg.symm)) hb); have n1_ := Aside0.mk (Kd.V_below (Kd.V_elderB (by (with_reducible repeat (first | apply Kd.V_alloc | apply Kd.V_drewN | apply Kd.V_drew)); exact HO2_2.out) gb161 (Nat.le_of_eq hg.symm)) hb); have n2_ := Aside0.mk (blk_below (g := gb160) (o := .cells #[.slice A0_0 l0_0.length c0_0, .int .u32 a0_1] 25 (0, 0)) (by (with_reducible repeat (first | refine blk_drewN ?_ _ | refine blk_drew ?_ | refine blk_alloc ?_ _)); exact BK160.out) hb); have n3_ := Aside0.mk (below_step (by repeat (first | (with_reducible first | exact HB.out | apply below_alloc | apply pw_below_drewN | apply below_drew1 | refine below_set ?_ GE160.out) | exact HB.out)) hb); have n4_ := Aside0.mk (hbox); have n5_ := Aside0.mk ((by rw [hg]; exact (below_size (by repeat (first | (with_reducible first | exact HB.out | apply below_alloc | apply pw_below_drewN | apply below_drew1 | refine below_set ?_ GE160.out) | exact HB.out))) : w.heap.size ≤ gb161)); have n6_ := Aside0.mk ((by rw [hg]; exact (below_size (by repeat (first | (with_reducible first | exact HB.out | apply below_alloc | apply pw_below_drewN | apply below_drew1 | refine below_set ?_ GE160.out) | exact HB.out))) : w.heap.size ≤ gb161)); have n7_ := Aside0.mk ((by rw [hg]; exact Nat.ne_of_lt (blk_lt (g := gb160) (o := .cells #[.slice A0_0 l0_0.length c0_0, .int .u32 a0_1] 25 (0, 0)) (by (with_reducible repeat (first | refine blk_drewN ?_ _ | refine blk_drew ?_ | refine blk_alloc ?_ _)); exact BK160.out)) : gb160 ≠ gb161)); have n8_ := Aside0.mk ((by rw [hg]; exact Nat.ne_of_gt (blk_lt (g := gb160) (o := .cells #[.slice A0_0 l0_0.length c0_0, .int .u32 a0_1] 25 (0, 0)) (by (with_reducible repeat (first | refine blk_drewN ?_ _ | refine blk_drew ?_ | refine blk_alloc ?_ _)); exact BK160.out)) : gb161 ≠ gb160)); clear HO0_0; clear HO2_2; clear BK160; clear HB; have HO0_0 := n0_; have HO2_2 := n1_; have BK160 := n2_; have HB := n3_; have BK161 := n4_; have GW161 := n5_; have GE161 := n6_; have NB160_161 := n7_; have NB161_160 := n8_; clear n0_ n1_ n2_ n3_ n4_ n5_ n6_ n7_ n8_; clear hb hbox hg) | ((with_reducible refine gate_dst (N := 6) rfl ?_); refine box_event ?hg (N := 6) ?hd (cs := #[.slice none 0 0, .int .u32 0]) (t := 25) ?hr ?_; (case hd => rfl); (case hg => rfl); (case hr => first | (go_simp; done) | (go_simp; rfl)); intro gb162 hg w13 hbox hb; have n0_ := Aside0.mk (Kd.V_below (Kd.V_elderB (by (with_reducible repeat (first | apply Kd.V_alloc | apply Kd.V_drewN | apply Kd.V_drew)); exact HO0_0.out) gb162 (Nat.le_of_eq hg.symm)) hb); have n1_ := Aside0.mk (Kd.V_below (Kd.V_elderB (by (with_reducible repeat (first | apply Kd.V_alloc | apply Kd.V_drewN | apply Kd.V_drew)); exact HO2_2.out) gb162 (Nat.le_of_eq hg.symm)) hb); have n2_ := Aside0.mk (blk_below (g := gb160) (o := .cells #[.slice A0_0 l0_0.length c0_0, .int .u32 a0_1] 25 (0, 0)) (by (with_reducible repeat (first | refine blk_drewN ?_ _ | refine blk_drew ?_ | refine blk_alloc ?_ _)); exact BK160.out) hb); have n3_ := Aside0.mk (blk_below (g := gb161) (o := .cells #[.int .u32 a2_0, .int .u32 a2_1, .slice A2_2 l2_2.length c2_2, .int .u32 a2_3] 40 (0, 0)) (by (with_reducible repeat (first | refine blk_drewN ?_ _ | refine blk_drew ?_ | refine blk_alloc ?_ _)); exact BK161.out) hb); have n4_ := Aside0.mk (below_step (by repeat (first | (with_reducible first | exact HB.out | apply below_alloc | apply pw_below_drewN | apply below_drew1 | refine below_set ?_ GE160.out | refine below_set ?_ GE161.out) | exact HB.out)) hb); have n5_ := Aside0.mk (hbox); have n6_ := Aside0.mk ((by rw [hg]; exact (below_size (by repeat (first | (with_reducible first | exact HB.out | apply below_alloc | apply pw_below_drewN | apply below_drew1 | refine below_set ?_ GE160.out | refine below_set ?_ GE161.out) | exact HB.out))) : w.heap.size ≤ gb162)); have n7_ := Aside0.mk ((by rw [hg]; exact (below_size (by repeat (first | (with_reducible first | exact HB.out | apply below_alloc | apply pw_below_drewN | apply below_drew1 | refine below_set ?_ GE160.out | refine below_set ?_ GE161.out) | exact HB.out))) : w.heap.size ≤ gb162)); have n8_ := Aside0.mk ((by rw [hg]; exact Nat.ne_of_lt (blk_lt (g := gb160) (o := .cells #[.slice A0_0 l0_0.length c0_0, .int .u32 a0_1] 25 (0, 0)) (by (with_reducible repeat (first | refine blk_drewN ?_ _ | refine blk_drew ?_ | refine blk_alloc ?_ _)); exact BK160.out)) : gb160 ≠ gb162)); have n9_ := Aside0.mk ((by rw [hg]; exact Nat.ne_of_gt (blk_lt (g := gb160) (o := .cells #[.slice A0_0 l0_0.length c0_0, .int .u32 a0_1] 25 (0, 0)) (by (with_reducible repeat (first | refine blk_drewN ?_ _ | refine blk_drew ?_ | refine blk_alloc ?_ _)); exact BK160.out)) : gb162 ≠ gb160)); have n10_ := Aside0.mk ((by rw [hg]; exact Nat.ne_of_lt (blk_lt (g := gb161) (o := .cells #[.int .u32 a2_0, .int .u32 a2_1, .slice A2_2 l2_2.length c2_2, .int .u32 a2_3] 40 (0, 0)) (by (with_reducible repeat (first | refine blk_drewN ?_ _ | refine blk_drew ?_ | refine blk_alloc ?_ _)); exact BK161.out)) : gb161 ≠ gb162)); have n11_ := Aside0.mk ((by rw [hg]; exact Nat.ne_of_gt (blk_lt (g := gb161) (o := .cells #[.int .u32 a2_0, .int .u32 a2_1, .slice A2_2 l2_2.length c2_2, .int .u32 a2_3] 40 (0, 0)) (by (with_reducible repeat (first | refine blk_drewN ?_ _ | refine blk_drew ?_ | refine blk_alloc ?_ _)); exact BK161.out)) : gb162 ≠ gb161)); clear HO0_0; clear HO2_2; clear BK160; clear BK161; clear HB; have HO0_0 := n0_; have HO2_2 := n1_; have BK160 := n2_; have BK161 := n3_; have HB := n4_; have BK162 := n5_; have GW162 := n6_; have GE162 := n7_; have NB160_162 := n8_; have NB162_160 := n9_; have NB161_162 := n10_; have NB162_161 := n11_; clear n0_ n1_ n2_ n3_ n4_ n5_ n6_ n7_ n8_ n9_ n10_ n11_; clear hb hbox hg) | ((with_reducible refine gate_dst (N := 8) rfl ?_); refine Kd.N_lit k40 _ 40 ?hg (N' := 8) ?hd (xs := ([] : List (S40))) (inner := []) (ok := (fun k_ => ((P0_0_ k_ ∨ P2_2_ k_) ∨ w.heap.size ≤ k_) ∧ k_ ≠ gb160 ∧ k_ ≠ gb161 ∧ k_ ≠ gb162)) (okp := (fun k_ => ((P0_0_ k_ ∨ P2_2_ k_) ∨ w.heap.size ≤ k_) ∧ k_ ≠ gb160 ∧ k_ ≠ gb161 ∧ k_ ≠ gb162)) ?hr ?hp (fun _ hk => hk) ((show ∀ k_, w13.heap.size ≤ k_ → (fun k_ => ((P0_0_ k_ ∨ P2_2_ k_) ∨ w.heap.size ≤ k_) ∧ k_ ≠ gb160 ∧ k_ ≠ gb161 ∧ k_ ≠ gb162) k_ from fun k_ hk => ⟨(.inr (Nat.le_trans (below_size (by repeat (first | (with_reducible first | exact HB.out | apply below_alloc | apply pw_below_drewN | apply below_drew1 | refine below_set ?_ GE160.out | refine below_set ?_ GE161.out | refine below_set ?_ GE162.out) | exact HB.out))) hk)), Kd.freshB (g := gb160) (o := .cells #[.slice A0_0 l0_0.length c0_0, .int .u32 a0_1] 25 (0, 0)) (by (with_reducible repeat (first | refine blk_drewN ?_ _ | refine blk_drew ?_ | refine blk_alloc ?_ _)); exact BK160.out) k_ hk, Kd.freshB (g := gb161) (o := .cells #[.int .u32 a2_0, .int .u32 a2_1, .slice A2_2 l2_2.length c2_2, .int .u32 a2_3] 40 (0, 0)) (by (with_reducible repeat (first | refine blk_drewN ?_ _ | refine blk_drew ?_ | refine blk_alloc ?_ _)); exact BK161.out) k_ hk, Kd.freshB (g := gb162) (o := .cells #[.slice none 0 0, .int .u32 0] 25 (0, 0)) (by (with_reducible repeat (first | refine blk_drewN ?_ _ | refine blk_drew ?_ | refine blk_alloc ?_ _)); exact BK162.out) k_ hk⟩) _ (Nat.le_refl _)) (Below.refl _ _) (Nat.le_refl _) (by simp) ?_; (case hd => rfl); (case hg => rfl); (case hr => first | (go_simp; done) | (go_simp; rfl)); (case hp => exact (Reps.none _ _)); intro v164 w14 ho15 hb hg_ hnew_; clear hg_ hnew_; (first | rw [← Ny163.out] at ho15 | (simp only [Int.reduceToNat] at ho15; rw [← Ny163.out] at ho15)); have n0_ := Aside0.mk (Kd.V_elder' (by (with_reducible repeat (first | apply Kd.V_alloc | apply Kd.V_drewN | apply Kd.V_drew)); exact HO0_0.out) (Kd.N_base ho15) hb); have n1_ := Aside0.mk (Kd.V_elder' (by (with_reducible repeat (first | apply Kd.V_alloc | apply Kd.V_drewN | apply Kd.V_drew)); exact HO2_2.out) (Kd.N_base ho15) hb); have n2_ := Aside0.mk (Kd.N_lower ho15 (below_size (by repeat (first | (with_reducible first | exact HB.out | apply below_alloc | apply pw_below_drewN | apply below_drew1 | refine below_set ?_ GE160.out | refine below_set ?_ GE161.out | refine below_set ?_ GE162.out) | exact HB.out)))); have n3_ := Aside0.mk (blk_below (g := gb160) (o := .cells #[.slice A0_0 l0_0.length c0_0, .int .u32 a0_1] 25 (0, 0)) (by (with_reducible repeat (first | refine blk_drewN ?_ _ | refine blk_drew ?_ | refine blk_alloc ?_ _)); exact BK160.out) hb); have n4_ := Aside0.mk (blk_below (g := gb161) (o := .cells #[.int .u32 a2_0, .int .u32 a2_1, .slice A2_2 l2_2.length c2_2, .int .u32 a2_3] 40 (0, 0)) (by (with_reducible repeat (first | refine blk_drewN ?_ _ | refine blk_drew ?_ | refine blk_alloc ?_ _)); exact BK161.out) hb); have n5_ := Aside0.mk (blk_below (g := gb162) (o := .cells #[.slice none 0 0, .int .u32 0] 25 (0, 0)) (by (with_reducible repeat (first | refine blk_drewN ?_ _ | refine blk_drew ?_ | refine blk_alloc ?_ _)); exact BK162.out) hb); have n6_ := Aside0.mk (below_step (by repeat (first | (with_reducible first | exact HB.out | apply below_alloc | apply pw_below_drewN | apply below_drew1 | refine below_set ?_ GE160.out | refine below_set ?_ GE161.out | refine below_set ?_ GE162.out) | exact HB.out)) hb); clear HO0_0; clear HO2_2; clear BK160; clear BK161; clear BK162; clear HB; have HO0_0 := n0_; have HO2_2 := n1_; have HO165 := n2_; have BK160 := n3_; have BK161 := n4_; have BK162 := n5_; have HB := n6_; clear n0_ n1_ n2_ n3_ n4_ n5_ n6_; clear hb ho15; have hnb16 := NB160_161.out; have hnc16 := NB161_160.out; have hnb17 := NB160_162.out; have hnc17 := NB162_160.out; have hcz18_0 : w14.cell? ⟨gb160, 0, none⟩ = some (.slice A0_0 l0_0.length c0_0) := (blk_cell BK160.out 0).trans rfl; have hcz18_1 : w14.cell? ⟨gb160, 1, none⟩ = some (.int .u32 a0_1) := (blk_cell BK160.out 1).trans rfl; have hfz18_0 := blk_frozen BK160.out 0; have hfz18_1 := blk_frozen BK160.out 1; have q19 : (a1 : Int) ≤ ((l0_0.length : Int) : Int) := of_decide_eq_true (by first | (with_reducible assumption) | assumption); obtain ⟨i019, hi019, _, hsz19, _⟩ := info_parts info40; have hroom19 : l0_0.length ≤ c0_0 := (Kd.V_reads' HO0_0.out).2.1; have hC19 : Kd.F k40 _ _ A0_0 l0_0.length l0_0 := (Kd.V_at (base := w.heap.size) HO0_0.out).2.2; have hcut19 := cut_to (P := Try.prog) 22 40 .i64 Try.underlying22 hi019 A0_0 l0_0.length c0_0 a1 (of_decide_eq_true (by first | (with_reducible assumption) | assumption)) q19 hroom19; have hr19 := Kd.F_take (m := (a1 : Int).toNat) hC19 (by omega); have hy19 : y166.length = (a1 : Int).toNat := (by rw [Ny166.out, List.length_take]; omega); rw [← Ny166.out] at hr19; rw [← hy19] at hcut19; have HO170 := Aside0.mk (show Kd.V k40 40 _ w.heap.size _ (.slice A0_0 y166.length c0_0) y166 from Kd.V_mk (by omega) hr19); have HC170 := Aside0.mk (show y166.length ≤ c0_0 from by omega); clear hr19 hC19 hroom19 hi019 hsz19; have KY19 := Aside0.mk hy19; clear hy19; replace q19 := eq_true q19) | ((with_reducible refine gate_builtin (b := .append) (xs := #[.tmp 8, .tmp 12]) rfl ?_); at_builtin; refine Kd.N_append_rows k40 (w0 := w) w.heap.size rfl (.tmp 8) (.tmp 12) 22 40 (.agg #[(.int .u32 0), (.int .u32 0), (.slice none 0 0), (.int .u32 0)]) 40 rfl Try.underlying22 info40 rfl (by decide) (by omega) v164 y163 y166 _ _ _ (fun k_ => ((P0_0_ k_ ∨ P2_2_ k_) ∨ w.heap.size ≤ k_) ∧ k_ ≠ gb160 ∧ k_ ≠ gb161 ∧ k_ ≠ gb162) (fun k_ => ((fun k_ => ((P0_0_ k_ ∨ P2_2_ k_) ∨ w.heap.size ≤ k_) ∧ k_ ≠ gb160 ∧ k_ ≠ gb161 ∧ k_ ≠ gb162)) k_ ∧ some k_ ≠ (v164 : Value).ownBlock) rfl rfl ?aO ?aR (fun _ hk => hk) ?aF ?aB ?aS ?aL ?_; (case aR => exact (by skip; exact Kd.V_F (Kd.V_mono (ok' := (fun k_ => ((fun k_ => ((P0_0_ k_ ∨ P2_2_ k_) ∨ w.heap.size ≤ k_) ∧ k_ ≠ gb160 ∧ k_ ≠ gb161 ∧ k_ ≠ gb162)) k_ ∧ some k_ ≠ (v164 : Value).ownBlock)) (HO170.out) (fun k_ hk => ⟨⟨hk.1.1.1.1, ⟨hk.1.1.1.2, ⟨hk.1.1.2, hk.1.2⟩⟩⟩, hk.2⟩)))); (case aB => exact (by repeat (first | (with_reducible first | exact HB.out | apply below_alloc | apply pw_below_drewN | apply below_drew1 | refine below_set ?_ GE160.out | refine below_set ?_ GE161.out | refine below_set ?_ GE162.out) | exact HB.out))); (case aF => exact (fun k_ hk => ⟨(.inr (Nat.le_trans (below_size (by repeat (first | (with_reducible first | exact HB.out | apply below_alloc | apply pw_below_drewN | apply below_drew1 | refine below_set ?_ GE160.out | refine below_set ?_ GE161.out | refine below_set ?_ GE162.out) | exact HB.out))) hk)), Kd.freshB (g := gb160) (o := .cells #[.slice A0_0 l0_0.length c0_0, .int .u32 a0_1] 25 (0, 0)) (by (with_reducible repeat (first | refine blk_drewN ?_ _ | refine blk_drew ?_ | refine blk_alloc ?_ _)); exact BK160.out) k_ hk, Kd.freshB (g := gb161) (o := .cells #[.int .u32 a2_0, .int .u32 a2_1, .slice A2_2 l2_2.length c2_2, .int .u32 a2_3] 40 (0, 0)) (by (with_reducible repeat (first | refine blk_drewN ?_ _ | refine blk_drew ?_ | refine blk_alloc ?_ _)); exact BK161.out) k_ hk, Kd.freshB (g := gb162) (o := .cells #[.slice none 0 0, .int .u32 0] 25 (0, 0)) (by (with_reducible repeat (first | refine blk_drewN ?_ _ | refine blk_drew ?_ | refine blk_alloc ?_ _)); exact BK162.out) k_ hk⟩)); (case aO => exact (by (with_reducible repeat (first | apply Kd.N_alloc | apply Kd.N_drewN | apply Kd.N_drew)); exact HO165.out)); (case aS => exact (below_size (by repeat (first | (with_reducible first | exact HB.out | apply below_alloc | apply pw_below_drewN | apply below_drew1 | refine below_set ?_ GE160.out | refine below_set ?_ GE161.out | refine below_set ?_ GE162.out) | exact HB.out)))); (case aL => have := LMc6.out; omega); intro v172 w20 ho hb hg hat; rw [← Ny171.out] at ho; have n0_ := Aside0.mk (Kd.V_afterv (ok := (fun k_ => ((P0_0_ k_ ∨ P2_2_ k_) ∨ w.heap.size ≤ k_) ∧ k_ ≠ gb160 ∧ k_ ≠ gb161 ∧ k_ ≠ gb162)) (by (with_reducible repeat (first | apply Kd.V_alloc | apply Kd.V_drewN | apply Kd.V_drew)); exact Kd.V_mono HO0_0.out (fun _ hk => ⟨⟨hk.1.1.1.1, ⟨hk.1.1.1.2, ⟨hk.1.1.2, hk.1.2⟩⟩⟩, hk.2⟩)) hg hat); have n1_ := Aside0.mk (Kd.V_afterv (ok := (fun k_ => ((P0_0_ k_ ∨ P2_2_ k_) ∨ w.heap.size ≤ k_) ∧ k_ ≠ gb160 ∧ k_ ≠ gb161 ∧ k_ ≠ gb162)) (by (with_reducible repeat (first | apply Kd.V_alloc | apply Kd.V_drewN | apply Kd.V_drew)); exact Kd.V_mono HO2_2.out (fun _ hk => ⟨⟨hk.1.1.1.1, ⟨hk.1.1.1.2, ⟨hk.1.1.2, hk.1.2⟩⟩⟩, hk.2⟩)) hg hat); have n2_ := Aside0.mk (blk_grown (g := gb160) (o := .cells #[.slice A0_0 l0_0.length c0_0, .int .u32 a0_1] 25 (0, 0)) (by (with_reducible repeat (first | refine blk_drewN ?_ _ | refine blk_drew ?_ | refine blk_alloc ?_ _)); exact BK160.out) hg (Kd.N_ne HO165.out BK160.out (by decide))); have n3_ := Aside0.mk (blk_grown (g := gb161) (o := .cells #[.int .u32 a2_0, .int .u32 a2_1, .slice A2_2 l2_2.length c2_2, .int .u32 a2_3] 40 (0, 0)) (by (with_reducible repeat (first | refine blk_drewN ?_ _ | refine blk_drew ?_ | refine blk_alloc ?_ _)); exact BK161.out) hg (Kd.N_away HO165.out (fun _ hk => hk.2.2.1))); have n4_ := Aside0.mk (blk_grown (g := gb162) (o := .cells #[.slice none 0 0, .int .u32 0] 25 (0, 0)) (by (with_reducible repeat (first | refine blk_drewN ?_ _ | refine blk_drew ?_ | refine blk_alloc ?_ _)); exact BK162.out) hg (Kd.N_ne HO165.out BK162.out (by decide))); have n5_ := Aside0.mk (Kd.V_afterv (ok := (fun k_ => ((P0_0_ k_ ∨ P2_2_ k_) ∨ w.heap.size ≤ k_) ∧ k_ ≠ gb160 ∧ k_ ≠ gb161 ∧ k_ ≠ gb162)) (by (with_reducible repeat (first | apply Kd.V_alloc | apply Kd.V_drewN | apply Kd.V_drew)); exact Kd.V_mono HO170.out (fun _ hk => ⟨⟨hk.1.1.1.1, ⟨hk.1.1.1.2, ⟨hk.1.1.2, hk.1.2⟩⟩⟩, hk.2⟩)) hg hat); have n6_ := Aside0.mk (hb); have n7_ := Aside0.mk (ho); clear HO0_0; clear HO2_2; clear BK160; clear BK161; clear BK162; clear HO170; clear HB; clear HO165; have HO0_0 := n0_; have HO2_2 := n1_; have BK160 := n2_; have BK161 := n3_; have BK162 := n4_; have HO170 := n5_; have HB := n6_; have HO173 := n7_; clear n0_ n1_ n2_ n3_ n4_ n5_ n6_ n7_; clear ho hb hg hat))
            have n0_ := Aside0.mk (Kd.V_drew HO0_0.out)
            have n1_ := Aside0.mk (Kd.V_drew HO2_2.out)
            have n2_ := Aside0.mk (Kd.V_drew HO170.out)
            have n3_ := Aside0.mk (Kd.N_drew HO173.out)
            have n4_ := Aside0.mk (blk_drew BK160.out)
            have n5_ := Aside0.mk (blk_drew BK161.out)
            have n6_ := Aside0.mk (blk_drew BK162.out)
            have n7_ := Aside0.mk (below_drew1 HB.out)
            clear HO0_0
            clear HO2_2
            clear HO170
            clear HO173
            clear BK160
            clear BK161
            clear BK162
            clear HB
            have HO0_0 := n0_
            have HO2_2 := n1_
            have HO170 := n2_
            have HO173 := n3_
            have BK160 := n4_
            have BK161 := n5_
            have BK162 := n6_
            have HB := n7_
            clear n0_ n1_ n2_ n3_ n4_ n5_ n6_ n7_
            have q22 : (a1 : Int) ≤ ((l0_0.length : Int) : Int) := of_decide_eq_true (by first | (with_reducible assumption) | assumption)
            obtain ⟨i022, hi022, _, hsz22, _⟩ := info_parts info40
            have hroom22 : l0_0.length ≤ c0_0 := (Kd.V_reads' HO0_0.out).2.1
            have hC22 : Kd.F k40 _ _ A0_0 l0_0.length l0_0 := (Kd.V_at (base := w.heap.size) HO0_0.out).2.2
            have q022 : (0 : Int) ≤ (a1 : Int) := of_decide_eq_true (by first | (with_reducible assumption) | assumption)
            have hcut22 := cut_from (P := Try.prog) 22 40 .i64 Try.underlying22 hi022 4 hsz22 A0_0 l0_0.length c0_0 a1 q022 q22
            have hr22 := Kd.F_cut (m := (a1 : Int).toNat) (c := c0_0) hC22 (by omega) hroom22
            obtain ⟨A22, hA22⟩ : ∃ A1, A1 = (if c0_0 = (a1 : Int).toNat then A0_0 else (A0_0 : Option Addr).map (·.add ((a1 : Int).toNat * 4))) := ⟨_, rfl⟩
            obtain ⟨c22, hc22⟩ : ∃ c1, c1 = c0_0 - (a1 : Int).toNat := ⟨_, rfl⟩
            have hy22 : y177.length = l0_0.length - (a1 : Int).toNat := (by rw [Ny177.out, List.length_drop] <;> omega)
            rw [show (l0_0).drop (a1 : Int).toNat = y177 from Ny177.out.symm] at hr22
            replace hr22 : Kd.F k40 _ _ A22 y177.length y177 := (by rw [hA22]; exact hr22)
            rw [← hy22, ← hA22, ← hc22] at hcut22
            have HO181 := Aside0.mk (show Kd.V k40 40 _ w.heap.size _ (.slice A22 y177.length c22) y177 from Kd.V_mk (by rw [hy22, hc22]; exact Nat.sub_le_sub_right hroom22 _) hr22)
            have HC181 := Aside0.mk (show y177.length ≤ c22 from by rw [hy22, hc22]; exact Nat.sub_le_sub_right hroom22 _)
            clear hr22 hC22 hroom22 hi022 hsz22 hc22
            have KY22 := Aside0.mk hy22
            have KA22 := Aside0.mk hA22
            clear hy22 hA22
            replace q22 := eq_true q22
            refine start_ (n := 10) (S := fun w' => w'.cell? ⟨gb161, 0, none⟩ = some (.int .u32 a2_0) ∧ w'.cell? ⟨gb161, 1, none⟩ = some (.int .u32 a2_1) ∧ w'.cell? ⟨gb161, 2, none⟩ = some (.slice A2_2 l2_2.length c2_2) ∧ w'.cell? ⟨gb161, 3, none⟩ = some (.int .u32 a2_3) ∧ w'.cell? ⟨gb160, 0, none⟩ = some (.slice A0_0 l0_0.length c0_0) ∧ w'.cell? ⟨gb160, 1, none⟩ = some (.int .u32 a0_1)) (ds := []) #[false, false, false, false, false, false, false, false, false, false] (by kernel_rfl) rfl rfl ⟨(blk_cell BK161.out 0).trans rfl, (blk_cell BK161.out 1).trans rfl, (blk_cell BK161.out 2).trans rfl, (blk_cell BK161.out 3).trans rfl, (blk_cell BK160.out 0).trans rfl, (blk_cell BK160.out 1).trans rfl⟩ (fun hHeld => ?_); refine with_tabW hurdlelaw11_put.tab2 hurdlelaw11_put.bits2 (fun HT_ HW_ => ?_)
            generalize w20.drew = w21 at HO0_0 HO2_2 HO170 HO173 BK160 BK161 BK162 HB HO181 hHeld ⊢
            refine pure_ (i := 0) (N := some 14) (v := ?_) (a' := ?_) #[true, false, false, false, false, false, false, false, false, false] rfl rfl (any_of HT_.out (by kernel_rfl)) (fun _ _ _ h => h) (Or.inl ⟨by rfl, ?_⟩) ?_ ?_
            rotate_left
            · intro w'
              go_simp
              with_reducible rfl
            rotate_left
            · simp only [Act.put, List.setIfInBounds_toArray, List.set_cons_zero, List.set_cons_succ, i64_w, i32_w]
              rfl
            refine pure_ (i := 4) (N := some 18) (v := ?_) (a' := ?_) #[true, false, false, false, true, false, false, false, false, false] rfl rfl (any_of HT_.out (by kernel_rfl)) (fun _ _ _ h => h) (Or.inl ⟨by rfl, ?_⟩) ?_ ?_
            rotate_left
            · intro w'
              go_simp
              with_reducible rfl
            rotate_left
            · simp only [Act.put, List.setIfInBounds_toArray, List.set_cons_zero, List.set_cons_succ, i64_w, i32_w]
              rfl
            refine pure_ (i := 6) (N := some 20) (v := ?_) (a' := ?_) #[true, false, false, false, true, false, true, false, false, false] rfl rfl (any_of HT_.out (by kernel_rfl)) (fun _ _ _ h => h) (Or.inl ⟨by rfl, ?_⟩) ?_ ?_
            rotate_left
            · intro w'
              go_simp
              with_reducible rfl
            rotate_left
            · simp only [Act.put, List.setIfInBounds_toArray, List.set_cons_zero, List.set_cons_succ, i64_w, i32_w]
              rfl
            refine take_ (i := 1) (N := some 15) (v := ?_) (a' := ?_) #[true, true, false, false, true, false, true, false, false, false] rfl rfl (take_ofW HT_.out HW_.out (by kernel_rfl)) (fun _ _ _ h => h) (Or.inl ⟨by rfl, ?_⟩) hHeld ?_ ?_
            rotate_left
            · rintro w' ⟨s0, s1, s2, s3, s4, s5⟩
              go_simp
              with_reducible rfl
            rotate_left
            · simp only [Act.put, List.setIfInBounds_toArray, List.set_cons_zero, List.set_cons_succ, i64_w, i32_w]
              rfl
            refine take_ (i := 5) (N := some 19) (v := ?_) (a' := ?_) #[true, true, false, false, true, true, true, false, false, false] rfl rfl (take_ofW HT_.out HW_.out (by kernel_rfl)) (fun _ _ _ h => h) (Or.inl ⟨by rfl, ?_⟩) hHeld ?_ ?_
            rotate_left
            · rintro w' ⟨s0, s1, s2, s3, s4, s5⟩
              go_simp
              with_reducible rfl
            rotate_left
            · simp only [Act.put, List.setIfInBounds_toArray, List.set_cons_zero, List.set_cons_succ, i64_w, i32_w]
              rfl
            refine pure_ (i := 7) (N := some 21) (v := ?_) (a' := ?_) #[true, true, false, false, true, true, true, true, false, false] rfl rfl (any_of HT_.out (by kernel_rfl)) (fun _ _ _ h => h) (Or.inl ⟨by rfl, ?_⟩) ?_ ?_
            rotate_left
            · intro w'
              go_simp
              with_reducible rfl
            rotate_left
            · simp only [Act.put, List.setIfInBounds_toArray, List.set_cons_zero, List.set_cons_succ, i64_w, i32_w]
              rfl
            refine one_ (i := 2) (N := some 16) #[true, true, true, false, true, true, true, true, false, false] rfl rfl (one_of HT_.out (by kernel_rfl)) (by decide) (fun K hK => ?_)
            refine value_ (w1 := ?_) (v := ?_) (by rfl) rfl ?_ ?_
            rotate_left 2
            · go_simp
              constructor
              · rfl
              · rfl
            refine hK.out _ _ ⟨(blk_cell (blk_alloc BK161.out _) 0).trans rfl, (blk_cell (blk_alloc BK161.out _) 1).trans rfl, (blk_cell (blk_alloc BK161.out _) 2).trans rfl, (blk_cell (blk_alloc BK161.out _) 3).trans rfl, (blk_cell (blk_alloc BK160.out _) 0).trans rfl, (blk_cell (blk_alloc BK160.out _) 1).trans rfl⟩ (fun hHeld => ?_)
            clear hK K
            refine norm_ (a' := ?_) ?_ ?_
            rotate_left
            · show Act.put _ (some 16) _ = _
              simp only [Act.put, List.setIfInBounds_toArray, List.set_cons_zero, List.set_cons_succ, i64_w, i32_w]
              rfl
            refine one_ (i := 3) (N := some 17) #[true, true, true, true, true, true, true, true, false, false] rfl rfl (one_of HT_.out (by kernel_rfl)) (by decide) (fun K hK => ?_)
            refine Kd.N_append_step k40 (w0 := w) w.heap.size (by rfl) (.tmp 14) (.tmp 16) 22 40 (.agg #[(.int .u32 0), (.int .u32 0), (.slice none 0 0), (.int .u32 0)]) 40 rfl Try.underlying22 info40 rfl (by decide) (by omega) v172 y171 (⟨a2_0, a2_1, l2_2, a2_3⟩ : S40) [.int .u32 a2_0, .int .u32 a2_1, .slice A2_2 l2_2.length c2_2, .int .u32 a2_3] (fun k_ => ((P0_0_ k_ ∨ P2_2_ k_) ∨ w.heap.size ≤ k_) ∧ k_ ≠ gb160 ∧ k_ ≠ gb161 ∧ k_ ≠ gb162) (fun k_ => ((fun k_ => ((P0_0_ k_ ∨ P2_2_ k_) ∨ w.heap.size ≤ k_) ∧ k_ ≠ gb160 ∧ k_ ≠ gb161 ∧ k_ ≠ gb162)) k_ ∧ some k_ ≠ (v172 : Value).ownBlock) rfl rfl ?aP (fun _ hk => hk) ?aF ?aO ?aB ?aS ?aL ?_
            (case aP => exact (k40_mkF _ _ (⟨a2_0, a2_1, l2_2, a2_3⟩ : S40) (Kd.V_reads' (Kd.V_mono (ok' := (fun k_ => ((fun k_ => ((P0_0_ k_ ∨ P2_2_ k_) ∨ w.heap.size ≤ k_) ∧ k_ ≠ gb160 ∧ k_ ≠ gb161 ∧ k_ ≠ gb162)) k_ ∧ some k_ ≠ (v172 : Value).ownBlock)) (HO2_2.out) (fun k_ hk => ⟨⟨hk.1.1, ⟨hk.1.2.1, ⟨hk.1.2.2.1, hk.1.2.2.2⟩⟩⟩, hk.2⟩))).2.1 (Kd.V_F (Kd.V_mono (ok' := (fun k_ => ((fun k_ => ((P0_0_ k_ ∨ P2_2_ k_) ∨ w.heap.size ≤ k_) ∧ k_ ≠ gb160 ∧ k_ ≠ gb161 ∧ k_ ≠ gb162)) k_ ∧ some k_ ≠ (v172 : Value).ownBlock)) (HO2_2.out) (fun k_ hk => ⟨⟨hk.1.1, ⟨hk.1.2.1, ⟨hk.1.2.2.1, hk.1.2.2.2⟩⟩⟩, hk.2⟩)))))
            (case aB => exact (by repeat (first | (with_reducible first | exact HB.out | apply below_alloc | apply pw_below_drewN | apply below_drew1 | refine below_set ?_ GE160.out | refine below_set ?_ GE161.out | refine below_set ?_ GE162.out) | exact HB.out)))
            (case aF => exact (fun k_ hk => ⟨(.inr (Nat.le_trans (below_size (by repeat (first | (with_reducible first | exact HB.out | apply below_alloc | apply pw_below_drewN | apply below_drew1 | refine below_set ?_ GE160.out | refine below_set ?_ GE161.out | refine below_set ?_ GE162.out) | exact HB.out))) hk)), Kd.freshB (g := gb160) (o := .cells #[.slice A0_0 l0_0.length c0_0, .int .u32 a0_1] 25 (0, 0)) (by (with_reducible repeat (first | refine blk_drewN ?_ _ | refine blk_drew ?_ | refine blk_alloc ?_ _)); exact BK160.out) k_ hk, Kd.freshB (g := gb161) (o := .cells #[.int .u32 a2_0, .int .u32 a2_1, .slice A2_2 l2_2.length c2_2, .int .u32 a2_3] 40 (0, 0)) (by (with_reducible repeat (first | refine blk_drewN ?_ _ | refine blk_drew ?_ | refine blk_alloc ?_ _)); exact BK161.out) k_ hk, Kd.freshB (g := gb162) (o := .cells #[.slice none 0 0, .int .u32 0] 25 (0, 0)) (by (with_reducible repeat (first | refine blk_drewN ?_ _ | refine blk_drew ?_ | refine blk_alloc ?_ _)); exact BK162.out) k_ hk⟩))
            (case aO => exact (by (with_reducible repeat (first | apply Kd.N_alloc | apply Kd.N_drewN | apply Kd.N_drew)); exact HO173.out))
            (case aS => exact (below_size (by repeat (first | (with_reducible first | exact HB.out | apply below_alloc | apply pw_below_drewN | apply below_drew1 | refine below_set ?_ GE160.out | refine below_set ?_ GE161.out | refine below_set ?_ GE162.out) | exact HB.out))))
            (case aL => have := LMc7.out; omega)
            intro v175 w23 ho hb hg hat
            rw [← Ny174.out] at ho
            have n0_ := Aside0.mk (Kd.V_afterv (ok := (fun k_ => ((P0_0_ k_ ∨ P2_2_ k_) ∨ w.heap.size ≤ k_) ∧ k_ ≠ gb160 ∧ k_ ≠ gb161 ∧ k_ ≠ gb162)) (by (with_reducible repeat (first | apply Kd.V_alloc | apply Kd.V_drewN | apply Kd.V_drew)); exact HO0_0.out) hg hat)
            have n1_ := Aside0.mk (Kd.V_afterv (ok := (fun k_ => ((P0_0_ k_ ∨ P2_2_ k_) ∨ w.heap.size ≤ k_) ∧ k_ ≠ gb160 ∧ k_ ≠ gb161 ∧ k_ ≠ gb162)) (by (with_reducible repeat (first | apply Kd.V_alloc | apply Kd.V_drewN | apply Kd.V_drew)); exact HO2_2.out) hg hat)
            have n2_ := Aside0.mk (blk_grown (g := gb160) (o := .cells #[.slice A0_0 l0_0.length c0_0, .int .u32 a0_1] 25 (0, 0)) (by (with_reducible repeat (first | refine blk_drewN ?_ _ | refine blk_drew ?_ | refine blk_alloc ?_ _)); exact BK160.out) hg (Kd.N_ne HO173.out BK160.out (by decide)))
            have n3_ := Aside0.mk (blk_grown (g := gb161) (o := .cells #[.int .u32 a2_0, .int .u32 a2_1, .slice A2_2 l2_2.length c2_2, .int .u32 a2_3] 40 (0, 0)) (by (with_reducible repeat (first | refine blk_drewN ?_ _ | refine blk_drew ?_ | refine blk_alloc ?_ _)); exact BK161.out) hg (Kd.N_away HO173.out (fun _ hk => hk.2.2.1)))
            have n4_ := Aside0.mk (blk_grown (g := gb162) (o := .cells #[.slice none 0 0, .int .u32 0] 25 (0, 0)) (by (with_reducible repeat (first | refine blk_drewN ?_ _ | refine blk_drew ?_ | refine blk_alloc ?_ _)); exact BK162.out) hg (Kd.N_ne HO173.out BK162.out (by decide)))
            have n5_ := Aside0.mk (Kd.V_afterv (ok := (fun k_ => ((P0_0_ k_ ∨ P2_2_ k_) ∨ w.heap.size ≤ k_) ∧ k_ ≠ gb160 ∧ k_ ≠ gb161 ∧ k_ ≠ gb162)) (by (with_reducible repeat (first | apply Kd.V_alloc | apply Kd.V_drewN | apply Kd.V_drew)); exact HO170.out) hg hat)
            have n6_ := Aside0.mk (Kd.V_afterv (ok := (fun k_ => ((P0_0_ k_ ∨ P2_2_ k_) ∨ w.heap.size ≤ k_) ∧ k_ ≠ gb160 ∧ k_ ≠ gb161 ∧ k_ ≠ gb162)) (by (with_reducible repeat (first | apply Kd.V_alloc | apply Kd.V_drewN | apply Kd.V_drew)); exact HO181.out) hg hat)
            have n7_ := Aside0.mk (hb)
            have n8_ := Aside0.mk (ho)
            clear HO0_0
            clear HO2_2
            clear BK160
            clear BK161
            clear BK162
            clear HO170
            clear HO181
            clear HB
            clear HO173
            have HO0_0 := n0_
            have HO2_2 := n1_
            have BK160 := n2_
            have BK161 := n3_
            have BK162 := n4_
            have HO170 := n5_
            have HO181 := n6_
            have HB := n7_
            have HO176 := n8_
            clear n0_ n1_ n2_ n3_ n4_ n5_ n6_ n7_ n8_
            clear ho hb hg hat
            refine hK.out _ _ ⟨(blk_cell BK161.out 0).trans rfl, (blk_cell BK161.out 1).trans rfl, (blk_cell BK161.out 2).trans rfl, (blk_cell BK161.out 3).trans rfl, (blk_cell BK160.out 0).trans rfl, (blk_cell BK160.out 1).trans rfl⟩ (fun hHeld => ?_)
            clear hK K
            refine norm_ (a' := ?_) ?_ ?_
            rotate_left
            · show Act.put _ (some 17) _ = _
              simp only [Act.put, List.setIfInBounds_toArray, List.set_cons_zero, List.set_cons_succ, i64_w, i32_w]
              rfl
            refine one_ (i := 8) (N := some 22) #[true, true, true, true, true, true, true, true, true, false] rfl rfl (one_of HT_.out (by kernel_rfl)) (by decide) (fun K hK => ?_)
            refine Kd.N_append_rows_step k40 (w0 := w) w.heap.size (by rfl) (.tmp 17) (.tmp 21) 22 40 (.agg #[(.int .u32 0), (.int .u32 0), (.slice none 0 0), (.int .u32 0)]) 40 rfl Try.underlying22 info40 rfl (by decide) (by omega) v175 y174 y177 _ _ _ (fun k_ => ((P0_0_ k_ ∨ P2_2_ k_) ∨ w.heap.size ≤ k_) ∧ k_ ≠ gb160 ∧ k_ ≠ gb161 ∧ k_ ≠ gb162) (fun k_ => ((fun k_ => ((P0_0_ k_ ∨ P2_2_ k_) ∨ w.heap.size ≤ k_) ∧ k_ ≠ gb160 ∧ k_ ≠ gb161 ∧ k_ ≠ gb162)) k_ ∧ some k_ ≠ (v175 : Value).ownBlock) rfl rfl ?aO ?aR (fun _ hk => hk) ?aF ?aB ?aS ?aL ?_
            (case aR => exact (by skip; exact Kd.V_F (Kd.V_mono (ok' := (fun k_ => ((fun k_ => ((P0_0_ k_ ∨ P2_2_ k_) ∨ w.heap.size ≤ k_) ∧ k_ ≠ gb160 ∧ k_ ≠ gb161 ∧ k_ ≠ gb162)) k_ ∧ some k_ ≠ (v175 : Value).ownBlock)) (HO181.out) (fun k_ hk => ⟨⟨hk.1.1, ⟨hk.1.2.1, ⟨hk.1.2.2.1, hk.1.2.2.2⟩⟩⟩, hk.2⟩))))
            (case aB => exact (by repeat (first | (with_reducible first | exact HB.out | apply below_alloc | apply pw_below_drewN | apply below_drew1 | refine below_set ?_ GE160.out | refine below_set ?_ GE161.out | refine below_set ?_ GE162.out) | exact HB.out)))
            (case aF => exact (fun k_ hk => ⟨(.inr (Nat.le_trans (below_size (by repeat (first | (with_reducible first | exact HB.out | apply below_alloc | apply pw_below_drewN | apply below_drew1 | refine below_set ?_ GE160.out | refine below_set ?_ GE161.out | refine below_set ?_ GE162.out) | exact HB.out))) hk)), Kd.freshB (g := gb160) (o := .cells #[.slice A0_0 l0_0.length c0_0, .int .u32 a0_1] 25 (0, 0)) (by (with_reducible repeat (first | refine blk_drewN ?_ _ | refine blk_drew ?_ | refine blk_alloc ?_ _)); exact BK160.out) k_ hk, Kd.freshB (g := gb161) (o := .cells #[.int .u32 a2_0, .int .u32 a2_1, .slice A2_2 l2_2.length c2_2, .int .u32 a2_3] 40 (0, 0)) (by (with_reducible repeat (first | refine blk_drewN ?_ _ | refine blk_drew ?_ | refine blk_alloc ?_ _)); exact BK161.out) k_ hk, Kd.freshB (g := gb162) (o := .cells #[.slice none 0 0, .int .u32 0] 25 (0, 0)) (by (with_reducible repeat (first | refine blk_drewN ?_ _ | refine blk_drew ?_ | refine blk_alloc ?_ _)); exact BK162.out) k_ hk⟩))
            (case aO => exact (by (with_reducible repeat (first | apply Kd.N_alloc | apply Kd.N_drewN | apply Kd.N_drew)); exact HO176.out))
            (case aS => exact (below_size (by repeat (first | (with_reducible first | exact HB.out | apply below_alloc | apply pw_below_drewN | apply below_drew1 | refine below_set ?_ GE160.out | refine below_set ?_ GE161.out | refine below_set ?_ GE162.out) | exact HB.out))))
            (case aL => have := LMc10.out; omega)
            intro v183 w24 ho hb hg hat
            rw [← Ny182.out] at ho
            have n0_ := Aside0.mk (Kd.V_afterv (ok := (fun k_ => ((P0_0_ k_ ∨ P2_2_ k_) ∨ w.heap.size ≤ k_) ∧ k_ ≠ gb160 ∧ k_ ≠ gb161 ∧ k_ ≠ gb162)) (by (with_reducible repeat (first | apply Kd.V_alloc | apply Kd.V_drewN | apply Kd.V_drew)); exact HO0_0.out) hg hat)
            have n1_ := Aside0.mk (Kd.V_afterv (ok := (fun k_ => ((P0_0_ k_ ∨ P2_2_ k_) ∨ w.heap.size ≤ k_) ∧ k_ ≠ gb160 ∧ k_ ≠ gb161 ∧ k_ ≠ gb162)) (by (with_reducible repeat (first | apply Kd.V_alloc | apply Kd.V_drewN | apply Kd.V_drew)); exact HO2_2.out) hg hat)
            have n2_ := Aside0.mk (blk_grown (g := gb160) (o := .cells #[.slice A0_0 l0_0.length c0_0, .int .u32 a0_1] 25 (0, 0)) (by (with_reducible repeat (first | refine blk_drewN ?_ _ | refine blk_drew ?_ | refine blk_alloc ?_ _)); exact BK160.out) hg (Kd.N_ne HO176.out BK160.out (by decide)))
            have n3_ := Aside0.mk (blk_grown (g := gb161) (o := .cells #[.int .u32 a2_0, .int .u32 a2_1, .slice A2_2 l2_2.length c2_2, .int .u32 a2_3] 40 (0, 0)) (by (with_reducible repeat (first | refine blk_drewN ?_ _ | refine blk_drew ?_ | refine blk_alloc ?_ _)); exact BK161.out) hg (Kd.N_away HO176.out (fun _ hk => hk.2.2.1)))
            have n4_ := Aside0.mk (blk_grown (g := gb162) (o := .cells #[.slice none 0 0, .int .u32 0] 25 (0, 0)) (by (with_reducible repeat (first | refine blk_drewN ?_ _ | refine blk_drew ?_ | refine blk_alloc ?_ _)); exact BK162.out) hg (Kd.N_ne HO176.out BK162.out (by decide)))
            have n5_ := Aside0.mk (Kd.V_afterv (ok := (fun k_ => ((P0_0_ k_ ∨ P2_2_ k_) ∨ w.heap.size ≤ k_) ∧ k_ ≠ gb160 ∧ k_ ≠ gb161 ∧ k_ ≠ gb162)) (by (with_reducible repeat (first | apply Kd.V_alloc | apply Kd.V_drewN | apply Kd.V_drew)); exact HO170.out) hg hat)
            have n6_ := Aside0.mk (Kd.V_afterv (ok := (fun k_ => ((P0_0_ k_ ∨ P2_2_ k_) ∨ w.heap.size ≤ k_) ∧ k_ ≠ gb160 ∧ k_ ≠ gb161 ∧ k_ ≠ gb162)) (by (with_reducible repeat (first | apply Kd.V_alloc | apply Kd.V_drewN | apply Kd.V_drew)); exact HO181.out) hg hat)
            have n7_ := Aside0.mk (hb)
            have n8_ := Aside0.mk (ho)
            clear HO0_0
            clear HO2_2
            clear BK160
            clear BK161
            clear BK162
            clear HO170
            clear HO181
            clear HB
            clear HO176
            have HO0_0 := n0_
            have HO2_2 := n1_
            have BK160 := n2_
            have BK161 := n3_
            have BK162 := n4_
            have HO170 := n5_
            have HO181 := n6_
            have HB := n7_
            have HO184 := n8_
            clear n0_ n1_ n2_ n3_ n4_ n5_ n6_ n7_ n8_
            clear ho hb hg hat
            refine hK.out _ _ ⟨(blk_cell BK161.out 0).trans rfl, (blk_cell BK161.out 1).trans rfl, (blk_cell BK161.out 2).trans rfl, (blk_cell BK161.out 3).trans rfl, (blk_cell BK160.out 0).trans rfl, (blk_cell BK160.out 1).trans rfl⟩ (fun hHeld => ?_)
            clear hK K
            refine norm_ (a' := ?_) ?_ ?_
            rotate_left
            · show Act.put _ (some 22) _ = _
              simp only [Act.put, List.setIfInBounds_toArray, List.set_cons_zero, List.set_cons_succ, i64_w, i32_w]
              rfl
            refine pure_ (i := 9) (N := some 7) (v := ?_) (a' := ?_) #[true, true, true, true, true, true, true, true, true, true] rfl rfl (any_of HT_.out (by kernel_rfl)) (fun _ _ _ h => h) (Or.inl ⟨by rfl, ?_⟩) ?_ ?_
            rotate_left
            · intro w'
              go_simp
              with_reducible rfl
            rotate_left
            · simp only [Act.put, List.setIfInBounds_toArray, List.set_cons_zero, List.set_cons_succ, i64_w, i32_w]
              rfl
            refine done_ (done_of HT_.out (by kernel_rfl)) ?_
            have hcz25_0 : w24.cell? ⟨gb160, 0, none⟩ = some (.slice A0_0 l0_0.length c0_0) := (blk_cell BK160.out 0).trans rfl
            have hcz25_1 : w24.cell? ⟨gb160, 1, none⟩ = some (.int .u32 a0_1) := (blk_cell BK160.out 1).trans rfl
            have hfz25_0 := blk_frozen BK160.out 0
            have hfz25_1 := blk_frozen BK160.out 1
            obtain ⟨Ao26, co26, eo26⟩ := Kd.N_slice HO184.out
            subst eo26
            have hnb27 := NB162_161.out
            have hnc27 := NB161_162.out
            have hcz28_0 : w24.cell? ⟨gb162, 0, none⟩ = some (.slice none 0 0) := (blk_cell BK162.out 0).trans rfl
            have hcz28_1 : w24.cell? ⟨gb162, 1, none⟩ = some (.int .u32 0) := (blk_cell BK162.out 1).trans rfl
            have hfz28_0 := blk_frozen BK162.out 0
            have hfz28_1 := blk_frozen BK162.out 1
            try go_wp2
            refine bodyPost_ret (results_cell_row rfl _ _ gb162 25 #[.slice Ao26 y182.length co26, .int .u32 a0_1] (0, 0) _ rfl (by (with_reducible repeat (first | refine blk_drewN ?_ _ | refine blk_drew ?_ | refine blk_alloc ?_ _)); refine blk_put (cs := #[.slice Ao26 y182.length co26, .int .u32 0]) ?_ 1 _ rfl; (with_reducible repeat (first | refine blk_drewN ?_ _ | refine blk_drew ?_ | refine blk_alloc ?_ _)); refine blk_put (cs := #[.slice none 0 0, .int .u32 0]) ?_ 0 _ rfl; (with_reducible repeat (first | refine blk_drewN ?_ _ | refine blk_drew ?_ | refine blk_alloc ?_ _)); exact BK162.out) Try.underlying25 rfl (by kernel_rfl)) rfl ?_
            exact ⟨_, by first | rfl | (simp [errW_none, errW_some] <;> rfl) | (simp [*, errW_none, errW_some] <;> rfl), by (with_reducible repeat (first | apply Kd.N_alloc | apply Kd.N_drewN | apply Kd.N_drew)); exact Kd.N_mono (Kd.N_far (p := ⟨gb162, 1, none⟩) (Kd.N_far (p := ⟨gb162, 0, none⟩) (Kd.N_mono HO184.out (fun k_ hk => (⟨hk, hk.2.2.2⟩ : _ ∧ k_ ≠ gb162))) (fun _ hk => hk.2) (.slice Ao26 y182.length co26)) (fun _ hk => hk.2) (.int .u32 a0_1)) (fun _ hk => hk.1.1), by repeat (first | (with_reducible first | exact HB.out | apply below_alloc | apply pw_below_drewN | apply below_drew1 | refine below_set ?_ GE160.out | refine below_set ?_ GE161.out | refine below_set ?_ GE162.out) | exact HB.out)⟩
          · rw [if_neg c10] at H
            exact absurd H (by simp)
        · rw [if_neg c7] at H
          exact absurd H (by simp)
      · rw [if_neg c6] at H
        exact absurd H (by simp)
    · rw [if_neg c5] at H
      exact absurd H (by simp)
  · rw [if_neg c4] at H
    exact absurd H (by simp)
end Go.Proofs.Ytekpbgmmogpbdaa.D
set_option linter.unusedVariables false
set_option linter.unusedSimpArgs false
set_option maxRecDepth 100000
namespace Go.Proofs.Ytekpbgmmogpbdaa.H
open Go.RowKit Go.Proofs.YtekpbgmmogpbdaaW.PrintWords
open Go.Proofs.Ytekpbgmmogpbdaa.P (S61 S40 k61 k40)
theorem put_f (L : List S40) (df : Int) (i : Nat) (x : S40) (hl : L.length ≤ 1000) (hi : i ≤ L.length) :
    D.hurdlelaw11_put.f L df (i : Int) x.f0 x.f1 x.f2 x.f3 = some (L.take i ++ x :: L.drop i, df) := by
  unfold D.hurdlelaw11_put.f
  simp only [Option.bind_some, Int.toNat_natCast, List.nil_append, List.length_nil, List.length_take, List.length_append, List.length_cons, List.length_drop]
  rw [if_pos (by omega), if_pos (by omega), if_pos (by omega), if_pos (by omega), if_pos (by omega)]
  simp
theorem polOk_small {L : List S40} {df : Int} (h : polOk L df) : small L := ⟨by have := h.1; omega, fun x hx => by have := (h.2.1 x hx).2.2.2.1; omega⟩
theorem judgeR_of {L : List S40} {df dn da : Int} {ags : List Int} (h : polB L df = true) : judgeR L df dn da ags = (judgeV L df dn da ags, 0) := by unfold judgeR judgeV; rw [if_pos h] <;> cases L.find? (fitX dn da ags) <;> rfl
theorem polK_put {L : List S40} {df : Int} {x : S40} (h : polK L df) (hx : ruleK x) (i : Nat) : polK (L.take i ++ x :: L.drop i) df := ⟨fun y hy => by
  rcases List.mem_append.1 hy with hy | hy
  · exact h.1 y (List.mem_of_mem_take hy)
  · rcases List.mem_cons.1 hy with rfl | hy
    · exact hx
    · exact h.1 y (List.mem_of_mem_drop hy), h.2⟩
theorem Judge_f {L : List S40} {df a0 a1 a2 a3 a4 a5 a6 a7 a8 : Int} (h : polOk L df) (hd : IsDat a0 a1 a2 [a3, a4, a5, a6, a7, a8]) : denote_Judge.f L df a0 a1 a2 a3 a4 a5 a6 a7 a8 = some (judgeV L df a0 a1 [a3, a4, a5, a6, a7, a8], 0) := by
  unfold denote_Judge.f
  rw [if_pos ⟨polOk_K h, polOk_small h, hd⟩, judgeR_of ((polOk_iff (polOk_K h)).2 h)]
theorem Right_f {L : List S40} {df : Int} (h : polK L df) : H.hurdleref10_Right.f L df = some (polB L df) := by
  unfold H.hurdleref10_Right.f
  rw [if_pos h]
end Go.Proofs.Ytekpbgmmogpbdaa.H
