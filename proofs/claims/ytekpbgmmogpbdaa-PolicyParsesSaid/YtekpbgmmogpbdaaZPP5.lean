/- Lemmas for this claim: A text is the policy that the document says, or the place and the error are told (any text of up to 25000 bytes). (Some lines were printed for this seat by the kit's print.sh; wip/pack.py has put the needed ones together.) -/
import Derived.Deep.QuietTactic
import Derived.LoopTactic
import Derived.Test.YtekpbgmmogpbdaaZPP0
import Derived.Test.YtekpbgmmogpbdaaZPP1
import Derived.Test.YtekpbgmmogpbdaaZPP2
import Derived.Test.YtekpbgmmogpbdaaZPP4
set_option linter.unusedVariables false
set_option linter.unusedSimpArgs false
set_option maxRecDepth 100000
namespace Go.Proofs.Ytekpbgmmogpbdaa.H
open Go.RowKit Go.Proofs.YtekpbgmmogpbdaaW.PrintWords Go.Proofs.YtekpbgmmogpbdaaW.PrintLast Go.Proofs.YtekpbgmmogpbdaaW.PrintMore
attribute [local go_sem] max2_int min2_int max_two min_two max_three min_three max_four min_four
structure PI (w : World) (gi gr gp : Nat) (s : ByteArray) (pos : Nat) (slv : Value) (L : List P.S40) (df : Int) (W : World) : Prop where
 it : W.heap[gi]? = some (.stringIter s pos)
 rr : W.heap[gr]? = some (.cells #[.slice none 0 0, .int .u32 0] 25 (0, 0))
 pr : W.heap[gp]? = some (.cells #[slv, .int .u32 df] 25 (0, 0))
 sl : Kd.S P.k40 40 W w.heap.size (fun _ => True) slv L
 bl : Below w.heap.size w W
 gei : w.heap.size ≤ gi
 ger : w.heap.size ≤ gr
 gep : w.heap.size ≤ gp
 ne : gr ≠ gp
section
variable {w W W1 : World} {gi gr gp g : Nat} {s : ByteArray} {pos : Nat} {slv : Value} {L : List P.S40} {df : Int}
theorem PI.keep {cs : Array Value} (h : PI w gi gr gp s pos slv L df W) (hk : KeepBut W W1 g none) (hg : W.heap[g]? = some (.cells cs 65 (0, 0))) (hb : Below w.heap.size w W1) : PI w gi gr gp s pos slv L df W1 where
 it := KeepBut.blk hk h.it (fun e => by have := h.it; rw [e, hg] at this; simp at this) (by simp)
 rr := KeepBut.blk hk h.rr (fun e => by have := h.rr; rw [e, hg] at this; simp at this) (by simp)
 pr := KeepBut.blk hk h.pr (fun e => by have := h.pr; rw [e, hg] at this; simp at this) (by simp)
 sl := Kd.S_mono (Kd.S_keep (Kd.S_types h.sl hg (by decide)) hk (fun _ hk => hk.2)) (fun _ _ => trivial)
 bl := hb
 gei := h.gei
 ger := h.ger
 gep := h.gep
 ne := h.ne
theorem PI.below (h : PI w gi gr gp s pos slv L df W) (hb : Below W.heap.size W W1) : PI w gi gr gp s pos slv L df W1 where
 it := blk_below h.it hb
 rr := blk_below h.rr hb
 pr := blk_below h.pr hb
 sl := Kd.S_below h.sl hb
 bl := below_step h.bl hb
 gei := h.gei
 ger := h.ger
 gep := h.gep
 ne := h.ne
theorem PI.drew (h : PI w gi gr gp s pos slv L df W) : PI w gi gr gp s pos slv L df W.drew := h.below (below_drew (Below.refl _ _))
theorem PI.drewN (h : PI w gi gr gp s pos slv L df W) (m : Nat) : PI w gi gr gp s pos slv L df (W.drewN m) := h.below (pw_below_drewN (Below.refl _ _) m)
theorem PI.alloc (h : PI w gi gr gp s pos slv L df W) (o : Obj) : PI w gi gr gp s pos slv L df (W.alloc o) := h.below (below_alloc (Below.refl _ _) o)
theorem PI.setRd {cs : Array Value} (h : PI w gi gr gp s pos slv L df W) (hg : W.heap[g]? = some (.cells cs 65 (0, 0))) (hge : w.heap.size ≤ g) (j : Nat) (u : Value) : PI w gi gr gp s pos slv L df (W.setCell ⟨g, j, none⟩ u) where
 it := (Below.heap_setCell W ⟨g, j, none⟩ u gi (fun e => by have e : gi = g := e; have := h.it; rw [e, hg] at this; simp at this)).trans h.it
 rr := (Below.heap_setCell W ⟨g, j, none⟩ u gr (fun e => by have e : gr = g := e; have := h.rr; rw [e, hg] at this; simp at this)).trans h.rr
 pr := (Below.heap_setCell W ⟨g, j, none⟩ u gp (fun e => by have e : gp = g := e; have := h.pr; rw [e, hg] at this; simp at this)).trans h.pr
 sl := Kd.S_set h.sl hg (by decide) j u
 bl := below_set h.bl hge
 gei := h.gei
 ger := h.ger
 gep := h.gep
 ne := h.ne
theorem PI.setP (h : PI w gi gr gp s pos slv L df W) (v : Int) : PI w gi gr gp s pos slv L v (W.setCell ⟨gp, 1, none⟩ (.int .u32 v)) where
 it := (Below.heap_setCell W ⟨gp, 1, none⟩ _ gi (fun e => by have e : gi = gp := e; have := h.it; rw [e, h.pr] at this; simp at this)).trans h.it
 rr := (Below.heap_setCell W ⟨gp, 1, none⟩ _ gr (fun e => h.ne e)).trans h.rr
 pr := blk_put (cs := #[slv, .int .u32 df]) h.pr 1 _ rfl
 sl := Kd.S_set h.sl h.pr (by decide) 1 _
 bl := below_set h.bl h.gep
 gei := h.gei
 ger := h.ger
 gep := h.gep
 ne := h.ne
theorem PI.setS (h : PI w gi gr gp s pos slv L df W) {v : Value} {L2 : List P.S40} (hg : W.grownBy W1 slv.ownBlock) (hs : Kd.S P.k40 40 W1 w.heap.size (fun _ => True) v L2) (hb : Below w.heap.size w W1) : PI w gi gr gp s pos v L2 df (W1.setCell ⟨gp, 0, none⟩ v) := by
 have hit : some gi ≠ slv.ownBlock := fun e => by
  obtain ⟨cells, hc⟩ := Kd.S_typed h.sl gi e.symm
  rw [h.it] at hc; simp at hc
 have i1 := blk_grown h.it hg hit
 have r1 := blk_grown h.rr hg (Kd.S_ne h.sl h.rr (by decide))
 have p1 := blk_grown h.pr hg (Kd.S_ne h.sl h.pr (by decide))
 exact ⟨(Below.heap_setCell W1 ⟨gp, 0, none⟩ _ gi (fun e => by have e : gi = gp := e; have := i1; rw [e, p1] at this; simp at this)).trans i1,
  (Below.heap_setCell W1 ⟨gp, 0, none⟩ _ gr (fun e => h.ne e)).trans r1, blk_put (cs := #[slv, .int .u32 df]) p1 0 _ rfl, Kd.S_set hs p1 (by decide) 0 _, below_set hb h.gep, h.gei, h.ger, h.gep, h.ne⟩
theorem PI.next (h : PI w gi gr gp s pos slv L df W) (p' : Nat) : PI w gi gr gp s p' slv L df (setIter W gi s p') where
 it := setIter_same W gi s pos p' h.it
 rr := (setIter_other W gi gr s p' (fun e => by have := h.rr; rw [e, h.it] at this; simp at this)).trans h.rr
 pr := (setIter_other W gi gp s p' (fun e => by have := h.pr; rw [e, h.it] at this; simp at this)).trans h.pr
 sl := Kd.S_step (Kd.S_bound h.sl) (fun k hk hlt => setIter_other W gi k s p' (fun e => by obtain ⟨_, _, _, q, _, cells, hc⟩ := hk; rw [e, h.it] at hc; simp at hc)) |> fun x => Kd.S_mono x (fun _ _ => trivial)
 bl := h.bl.trans ⟨rfl, rfl, rfl, by simp [setIter], fun k hk => setIter_other W gi k s p' (by have := h.gei; omega)⟩
 gei := h.gei
 ger := h.ger
 gep := h.gep
 ne := h.ne
end
theorem PI.pos_ {w W : World} {gi gr gp : Nat} {s : ByteArray} {pos : Nat} {slv : Value} {L : List P.S40} {df : Int} (h : PI w gi gr gp s pos slv L df W) : W.iterPos gi = pos := by simp [World.iterPos, h.it]
theorem ba_slice (s : ByteArray) (a p : Nat) : (s.extract a p).data.toList = (s.data.toList.drop a).take (p - a) := by
 simp [ByteArray.data_extract]
theorem drop_parts (l : List UInt8) (a p : Nat) (hp : p < l.length) (ha : a ≤ p) : l.drop a = (l.drop a).take (p - a) ++ l[p] :: l.drop (p + 1) := by
 have h1 : l.drop p = l[p] :: l.drop (p + 1) := List.drop_eq_getElem_cons hp
 rw [← h1]
 have h2 : l.drop p = (l.drop a).drop (p - a) := by rw [List.drop_drop]; congr 1; omega
 rw [h2, List.take_append_drop]
theorem no10 (s : ByteArray) (a p : Nat) (hb : ∀ j (hj : j < s.size), a ≤ j → j < p → (s[j]'hj).toNat ≠ 10) : (10 : UInt8) ∉ (s.data.toList.drop a).take (p - a) := by
 intro hm
 obtain ⟨j, hj⟩ := List.mem_iff_getElem?.1 hm
 rw [List.getElem?_take] at hj
 split at hj
 · rename_i hlt
   rw [List.getElem?_drop] at hj
   by_cases h : a + j < s.size
   rotate_left
   · rw [List.getElem?_eq_none (by simp; omega)] at hj
     simp at hj
   rw [ba_get s _ h] at hj
   injection hj with hj
   exact hb _ h (by omega) (by omega) (by rw [hj]; rfl)
 · simp at hj
theorem spl_line (s : ByteArray) (a p : Nat) (hp : p < s.size) (ha : a ≤ p) (h10 : (s[p]'hp).toNat = 10) (hb : ∀ j (hj : j < s.size), a ≤ j → j < p → (s[j]'hj).toNat ≠ 10) :
 spl 10 (s.data.toList.drop a) = (s.extract a p).data.toList :: spl 10 (s.data.toList.drop (p + 1)) := by
 have hp' : p < s.data.toList.length := by simpa using hp
 have e : s.data.toList[p] = 10 := by
  have := ba_get s p hp
  rw [List.getElem?_eq_getElem hp'] at this
  injection this with this
  rw [this]
  exact UInt8.toNat_inj.1 h10
 rw [drop_parts _ a p hp' ha, e, spl_cons _ _ _ (no10 s a p hb), ba_slice]
theorem spl_last (s : ByteArray) (a : Nat) (hb : ∀ j (hj : j < s.size), a ≤ j → j < s.size → (s[j]'hj).toNat ≠ 10) : spl 10 (s.data.toList.drop a) = [s.data.toList.drop a] := by
 have h := no10 s a s.size hb
 rw [List.take_of_length_le (by rw [List.length_drop]; simp)] at h
 exact spl_none _ _ h
theorem plines_step (n : Nat) (l : List UInt8) (ls : List (List UInt8)) (hls : ls ≠ []) (at_ : Nat) (done : Bool) (L : List P.S40) (df : Int) :
 plines n (l :: ls) at_ done L df = if done = true then ([], 0, (at_ : Int), 2) else match lineV l with
  | none => ([], 0, (at_ : Int), 2)
  | some (.inl x) => if L.length = 64 then ([], 0, (at_ : Int), 3) else plines n ls (at_ + l.length + 1) false (L ++ [x]) df
  | some (.inr v) => plines n ls (at_ + l.length + 1) true L v := by
 rw [plines, if_neg hls]
 first | rfl | (cases done <;> simp <;> cases lineV l <;> rfl)
def PRel (w : World) (gi gr gp : Nat) (s : ByteArray) (res : List P.S40 × Int × Int × Int) (v6 v7 : Value) (W : World) : Prop :=
 ∃ (pos at_ : Nat) (done : Bool) (slv : Value) (L : List P.S40) (df : Int), v6 = .int .i64 at_ ∧ v7 = .bool done ∧ Aside0 (PI w gi gr gp s pos slv L df W) ∧ at_ ≤ pos ∧ pos ≤ s.size ∧ L.length ≤ 64 ∧
  Aside0 (∀ j (hj : j < s.size), at_ ≤ j → j < pos → (s[j]'hj).toNat ≠ 10) ∧ Aside0 (plines s.size (spl 10 (s.data.toList.drop at_)) at_ done L df = res)
def PEnd (w : World) (r : List P.S40 × Int × Int × Int) (e : Ending) (w' : World) : Prop :=
 ∃ v : Value, e = .returned (.tuple #[.agg #[v, .int .u32 r.2.1], .int .i64 r.2.2.1, .int .i64 r.2.2.2]) ∧ Kd.S P.k40 40 w' w.heap.size (fun _ => True) v r.1 ∧ Below w.heap.size w w'
theorem err_row {W : World} {gr : Nat} {v : Value} {d : Int} (h : W.heap[gr]? = some (.cells #[v, .int .u32 d] 25 (0, 0))) (u : Value) (x : Int) :
 ((W.setCell ⟨gr, 0, none⟩ u).setCell ⟨gr, 1, none⟩ (.int .u32 x)).heap[gr]? = some (.cells #[u, .int .u32 x] 25 (0, 0)) :=
 blk_put (cs := #[u, .int .u32 d]) (blk_put (cs := #[v, .int .u32 d]) h 0 _ rfl) 1 _ rfl
section
variable {P : Program} {ops : Array Oper} {rest : List Oper} {o : Oper} {a : Act} {Q : Exit → Act → World → Prop}
theorem iter_event {W : World} (hgd : o.guard = none) {N : Tmp} (_hd : o.dst = some N) {s : ByteArray}
 (hrun : (execOp a.eval o).run P W = .ok (.value (.pointer (some ⟨W.heap.size, 0, none⟩))) (W.alloc (.stringIter s 0)))
 (h : ∀ g, g = W.heap.size → ∀ w1, w1.heap[g]? = some (.stringIter s 0) → Below W.heap.size W w1 → wpList P ops Q rest (a.put o.dst (.pointer (some ⟨g, 0, none⟩))) w1) : wpList P ops Q (o :: rest) a W :=
 Kd.event_run hgd hrun (h _ rfl _ (blk_new W _) (below_alloc (Below.refl _ _) _))
end
set_option maxHeartbeats 4000000 in
theorem policyParse_big (s : ByteArray) (hb : 20000 < s.size) (hs : s.size ≤ 140737488351232) (w : World) :
 Calls Try.prog 20 #[.string s] w (PEnd w ([], 0, 0, 3)) := by
 have hu25 := Try.underlying25
 have c2b0 : decide (20000 < (s.size : Int)) = true := decide_eq_true (by omega)
 have c2b1 : decide (20000 < s.size) = true := decide_eq_true (by omega)
 have HB := aM (Below.refl w.heap.size w)
 go_enter Try.func20, Try.ntmps20
 go_wp2_with (first | ((with_reducible refine gate_dst (N := 2) rfl ?_); refine box_event ?hg (N := 2) ?hd (cs := #[.slice none 0 0, .int .u32 0]) (t := 25) ?hr ?_; (case hd => rfl); (case hg => rfl); (case hr => first | (go_simp; done) | (go_simp; rfl)); intro gr hg w3 hbox hb2; have n0_ := aM (below_step HB.out hb2); have n1_ := aM hbox; have n2_ := aM (by rw [hg]; exact Nat.le_refl _ : w.heap.size ≤ gr); clear HB; have HB := n0_; have BKR := n1_; have GER := n2_; clear n0_ n1_ n2_; clear hb2 hbox hg; have hcz0 : w3.cell? ⟨gr, 0, none⟩ = some (.slice none 0 0) := (blk_cell BKR.out 0).trans rfl; have hcz1 : w3.cell? ⟨gr, 1, none⟩ = some (.int .u32 0) := (blk_cell BKR.out 1).trans rfl; have hfz0 := blk_frozen BKR.out 0; have hfz1 := blk_frozen BKR.out 1))
 go_wp2_with (first | ((with_reducible refine bpI ?_); refine bodyPost_ret (results_ctt rfl _ _ gr 25 #[.slice none 0 0, .int .u32 0] (0, 0) _ rfl (err_row BKR.out _ _) Try.underlying25 rfl kR) rfl ?_; exact ⟨_, rfl, Kd.S_nil _ _ _ _ _, below_set (below_set HB.out GER.out) GER.out⟩) | go_in)
set_option maxHeartbeats 8000000 in
theorem policyParse_go (s : ByteArray) (hsz : s.size ≤ 20000) (res : List P.S40 × Int × Int × Int) (hres : plines s.size (spl 10 s.data.toList) 0 false [] 0 = res) (w : World) :
 Calls Try.prog 20 #[.string s] w (PEnd w res) := by
 have hu25 := Try.underlying25
 have c2b0 : decide (20000 < (s.size : Int)) = false := decide_eq_false (by omega)
 have c2b1 : decide (20000 < s.size) = false := decide_eq_false (by omega)
 have HB := aM (Below.refl w.heap.size w)
 have HRES := aM hres
 clear hres
 go_enter Try.func20, Try.ntmps20
 go_wp2_with (first | ((with_reducible refine gate_dst (N := 2) rfl ?_); (try (refine gate_guard (by rfl) ?_; dsimp only)); refine box_event ?hg (N := 2) ?hd (cs := #[.slice none 0 0, .int .u32 0]) (t := 25) ?hr ?_; (case hd => rfl); (case hg => rfl); (case hr => first | (go_simp; done) | (go_simp; rfl)); intro gr hgx w1 hbox hbx; have n0_ := aM (below_step HB.out hbx); have n1_ := aM hbox; have n2_ := aM (by rw [hgx]; exact Nat.le_refl _ : w.heap.size ≤ gr); clear HB; have HB := n0_; have BKR := n1_; have GER := n2_; clear n0_ n1_ n2_; clear hbx hbox hgx) | ((with_reducible refine gate_dst (N := 5) rfl ?_); (try (refine gate_guard (by rfl) ?_; dsimp only)); refine box_event ?hg (N := 5) ?hd (cs := #[.slice none 0 0, .int .u32 0]) (t := 25) ?hr ?_; (case hd => rfl); (case hg => rfl); (case hr => first | (go_simp; done) | (go_simp; rfl)); intro gp hgx w2 hbox hbx; have n0_ := aM (below_step bl0 hbx); have n1_ := aM hbox; have n2_ := aM (by rw [hgx]; exact (below_size bl0) : w.heap.size ≤ gp); have n3_ := aM (blk_below BKR.out hbx); have n4_ := aM (by rw [hgx]; exact Nat.ne_of_lt (blk_lt BKR.out) : gr ≠ gp); clear HB; clear BKR; have HB := n0_; have BKP := n1_; have GEP := n2_; have BKR := n3_; have NRP := n4_; clear n0_ n1_ n2_ n3_ n4_; clear hbx hbox hgx) | ((with_reducible refine gate_dst (N := 20) rfl ?_); refine iter_event ?hg (N := 20) ?hd (s := s) ?hr ?_; (case hd => rfl); (case hg => rfl); (case hr => first | (go_simp; done) | (go_simp; rfl)); intro gi hgx w3 hbox hbx; have HP := aM (PI.mk hbox (blk_below BKR.out hbx) (blk_below BKP.out hbx) (Kd.S_nil _ _ _ _ _) (below_step bl0 hbx) (by rw [hgx]; exact (below_size bl0)) GER.out GEP.out NRP.out : PI w gi gr gp s 0 (.slice none 0 0) [] 0 w3); clear HB BKR BKP GER GEP NRP; clear hbx hbox hgx; go_simp))
 go_loopw [6, 7] (fun v6 v7 wr => PRel w gi gr gp s res v6 v7 wr) (fun _ _ wr => s.size - wr.iterPos gi)
 case atStart => exact ⟨0, 0, false, _, [], 0, rfl, rfl, HP, Nat.le_refl _, Nat.zero_le _, by simp, ⟨fun j hj h1 h2 => by omega⟩, ⟨by simpa using HRES.out⟩⟩
 case round =>
  clear HP HRES
  obtain ⟨pos, at_, done, slv, L, df, rfl, rfl, HP, hap, hps, hL, HBF, HRES⟩ := hrel
  have HPOS := Lib.hid HP.out.pos_
  by_cases hlt : pos < s.size
  rotate_left
  · have hnx : ∀ ty, (Instr.next (.pointer (some ⟨gi, 0, none⟩)) true ty).run Try.prog wr = .ok (.tuple #[.bool false]) wr := fun ty => next_at_end wr gi s pos ty HP.out.it hlt
    have HLN := Lib.hid (spl_last s at_ (fun j hj h1 h2 => HBF.out j hj h1 (by omega)))
    have hdl : (s.data.toList.drop at_).length = s.size - at_ := by simp
    by_cases hat : at_ < s.size
    · have hres : res = ([], 0, (at_ : Int), 2) := by
       have h := HRES.out
       rw [HLN.out, plines, if_pos rfl, if_pos (by intro e; rw [e] at hdl; simp at hdl; omega)] at h
       exact h.symm
      subst hres
      have hd1 : decide ((at_ : Int) < (s.size : Int)) = true := decide_eq_true (by omega)
      have hd2 : decide (at_ < s.size) = true := decide_eq_true (by omega)
      clear HLN hdl
      have hcz0 : wr.cell? ⟨gr, 0, none⟩ = some (.slice none 0 0) := (blk_cell HP.out.rr 0).trans rfl
      have hcz1 : wr.cell? ⟨gr, 1, none⟩ = some (.int .u32 0) := (blk_cell HP.out.rr 1).trans rfl
      have hfz0 : wr.frozen? ⟨gr, 0, none⟩ = false := blk_frozen HP.out.rr 0
      have hfz1 : wr.frozen? ⟨gr, 1, none⟩ = false := blk_frozen HP.out.rr 1
      go_wp2_with (first | ((with_reducible refine bpI ?_); refine bodyPost_ret (results_ctt rfl _ _ gr 25 #[.slice none 0 0, .int .u32 0] (0, 0) _ rfl (err_row HP.out.rr _ _) Try.underlying25 rfl kR) rfl ?_; exact ⟨_, rfl, Kd.S_nil _ _ _ _ _, below_set (below_set HP.out.bl HP.out.ger) HP.out.ger⟩) | go_in)
    have hnil : s.data.toList.drop at_ = [] := List.eq_nil_of_length_eq_zero (by omega)
    have hd1 : decide ((at_ : Int) < (s.size : Int)) = false := decide_eq_false (by omega)
    have hd2 : decide (at_ < s.size) = false := decide_eq_false (by omega)
    have hres : res = if done = true then (L, df, 0, 0) else ([], 0, (s.size : Int), 5) := by
     have h := HRES.out
     rw [HLN.out, plines, if_pos rfl, if_neg (by rw [hnil]; simp)] at h
     exact h.symm
    clear HLN hdl hnil
    cases done with
    | false =>
     replace hres : res = ([], 0, (s.size : Int), 5) := by simpa using hres
     subst hres
     have hcz0 : wr.cell? ⟨gr, 0, none⟩ = some (.slice none 0 0) := (blk_cell HP.out.rr 0).trans rfl
     have hcz1 : wr.cell? ⟨gr, 1, none⟩ = some (.int .u32 0) := (blk_cell HP.out.rr 1).trans rfl
     have hfz0 : wr.frozen? ⟨gr, 0, none⟩ = false := blk_frozen HP.out.rr 0
     have hfz1 : wr.frozen? ⟨gr, 1, none⟩ = false := blk_frozen HP.out.rr 1
     go_wp2_with (first | ((with_reducible refine bpI ?_); refine bodyPost_ret (results_ctt rfl _ _ gr 25 #[.slice none 0 0, .int .u32 0] (0, 0) _ rfl (err_row HP.out.rr _ _) Try.underlying25 rfl kR) rfl ?_; exact ⟨_, rfl, Kd.S_nil _ _ _ _ _, below_set (below_set HP.out.bl HP.out.ger) HP.out.ger⟩) | go_in)
    | true =>
     replace hres : res = (L, df, 0, 0) := by simpa using hres
     subst hres
     obtain ⟨Ao, co, rfl⟩ := Kd.S_slice HP.out.sl
     have hcz0 : wr.cell? ⟨gr, 0, none⟩ = some (.slice none 0 0) := (blk_cell HP.out.rr 0).trans rfl
     have hcz1 : wr.cell? ⟨gr, 1, none⟩ = some (.int .u32 0) := (blk_cell HP.out.rr 1).trans rfl
     have hfz0 : wr.frozen? ⟨gr, 0, none⟩ = false := blk_frozen HP.out.rr 0
     have hfz1 : wr.frozen? ⟨gr, 1, none⟩ = false := blk_frozen HP.out.rr 1
     have hcp0 : wr.cell? ⟨gp, 0, none⟩ = some (.slice Ao L.length co) := (blk_cell HP.out.pr 0).trans rfl
     have hcp1 : wr.cell? ⟨gp, 1, none⟩ = some (.int .u32 df) := (blk_cell HP.out.pr 1).trans rfl
     go_wp2_with (first | ((with_reducible refine bpI ?_); refine bodyPost_ret (results_ctt rfl _ _ gr 25 #[.slice Ao L.length co, .int .u32 df] (0, 0) _ rfl (err_row HP.out.rr _ _) Try.underlying25 rfl kR) rfl ?_; exact ⟨_, rfl, Kd.S_set (Kd.S_set HP.out.sl HP.out.rr (by decide) 0 _) (blk_put (cs := #[.slice none 0 0, .int .u32 0]) HP.out.rr 0 _ rfl) (by decide) 1 _, below_set (below_set HP.out.bl HP.out.ger) HP.out.ger⟩) | go_in)
  by_cases ha : (s[pos]'hlt).toNat < 128
  rotate_left
  · obtain ⟨w5, hw5⟩ : ∃ w5, setIter wr gi s (pos + (Utf8.decode s pos).2) = w5 := ⟨_, rfl⟩
    have hnx : ∀ ty, (Instr.next (.pointer (some ⟨gi, 0, none⟩)) true ty).run Try.prog wr = .ok (.tuple #[.bool true, .int .i64 pos, .int .i32 (Utf8.decode s pos).1]) w5 := fun ty => by
     rw [next_at wr gi s pos ty HP.out.it hlt, hw5]
    have HP5 := aM (hw5 ▸ HP.out.next (pos + (Utf8.decode s pos).2))
    have hb := decode_high s pos hlt (by omega)
    have HS := Lib.hid (decode_span s pos hlt (by omega))
    clear ha hw5 HP
    generalize (Utf8.decode s pos).1 = c at *
    generalize (Utf8.decode s pos).2 = p2 at *
    have h10' : ((c : Int) == 10) = false := by simp; omega
    have h10n : ((c : Int) != 10) = true := by simp; omega
    go_wp2_with fail
    go_roundw
    case rel => exact ⟨pos + p2, at_, done, slv, L, df, rfl, rfl, HP5, by omega, HS.out.2.1, hL, ⟨fun j hj h1 h2 => by
     by_cases e : j < pos
     · exact HBF.out j hj h1 e
     have := HS.out.2.2 j hj (by omega) h2; omega⟩, HRES⟩
    case measure => rw [HPOS.out, HP5.out.pos_]; have := HS.out.2.1; have := HS.out.1; omega
  obtain ⟨w5, hw5⟩ : ∃ w5, setIter wr gi s (pos + 1) = w5 := ⟨_, rfl⟩
  have hnx : ∀ ty, (Instr.next (.pointer (some ⟨gi, 0, none⟩)) true ty).run Try.prog wr = .ok (.tuple #[.bool true, .int .i64 pos, .int .i32 (s[pos]'hlt).toNat]) w5 := fun ty => by
   rw [next_at wr gi s pos ty HP.out.it hlt, decode_ascii s pos hlt ha, hw5]
  have HP5 := aM (hw5 ▸ HP.out.next (pos + 1))
  obtain ⟨c, hc⟩ : ∃ c, (s[pos]'hlt).toNat = c := ⟨_, rfl⟩
  rw [hc] at hnx
  have HC := Lib.hid hc
  clear hc ha hw5 HP
  by_cases h10 : c = 10
  rotate_left
  · have h10' : ((c : Int) == 10) = false := by simp; omega
    have h10n : ((c : Int) != 10) = true := by simp; omega
    go_wp2_with fail
    go_roundw
    case rel => exact ⟨pos + 1, at_, done, slv, L, df, rfl, rfl, HP5, by omega, by omega, hL, ⟨fun j hj h1 h2 => by
     by_cases e : j = pos
     · subst e; rw [HC.out]; exact h10
     exact HBF.out j hj h1 (by omega)⟩, HRES⟩
    case measure => rw [HPOS.out, HP5.out.pos_]; omega
  subst h10
  obtain ⟨line, hline⟩ : ∃ l, s.extract at_ pos = l := ⟨_, rfl⟩
  have hsp := spl_line s at_ pos hlt hap HC.out HBF.out
  rw [hline] at hsp
  have hll : line.data.toList.length = pos - at_ := by rw [← hline, ba_slice, List.length_take, List.length_drop, ← size_list]; omega
  have hlz : line.size ≤ 20000 := by rw [size_list]; omega
  obtain ⟨wd, s1, e1, b1, A10, z1, y1, q1, d1, g1⟩ := word_ev line false false _ (.inr ⟨rfl, rfl⟩) (by omega)
  obtain ⟨w0, ws, hws⟩ : ∃ w0 ws, spl 32 line.data.toList = w0 :: ws := by
   cases h : spl 32 line.data.toList with
   | nil => exact absurd h (spl_ne _ _)
   | cons a b => exact ⟨a, b, rfl⟩
  rw [hws] at q1 d1 g1
  obtain rfl : b1 = false := by rw [g1]; rfl
  simp only [List.tail_cons, List.headD_cons] at q1 d1
  have hst := HRES.out
  rw [hsp, plines_step _ _ _ (spl_ne _ _), hll, show at_ + (pos - at_) + 1 = pos + 1 by omega] at hst
  rw [lineV_of hws] at hst
  have HST := aM hst
  have A1 := aM A10
  have HQ1 := aM q1
  have HY1 := aM y1
  have hpi : (0 : Int) ≤ (at_ : Int) ∧ (at_ : Int) ≤ (pos : Int) ∧ (pos : Int) ≤ (s.size : Int) := by omega
  obtain ⟨hp1, hp2, hp3⟩ := hpi
  have hE1 : (wd.toList == ([111, 110] : List UInt8)) = decide (w0 = [111, 110]) := by rw [ByteArray.toList_eq, d1]; exact Bool.eq_iff_iff.2 (by simp)
  have hE2 : (wd.toList == ([100, 101, 102, 97, 117, 108, 116] : List UInt8)) = decide (w0 = [100, 101, 102, 97, 117, 108, 116]) := by rw [ByteArray.toList_eq, d1]; exact Bool.eq_iff_iff.2 (by simp)
  clear hst A10 q1 y1 z1 g1 hws hsp
  have HLL := Lib.hid hll
  clear hll
  have HP := HP5
  clear HP5
  cases done with
  | true =>
   have hres : res = ([], 0, (at_ : Int), 2) := by have h := HST.out; rw [if_pos rfl] at h; exact h.symm
   subst hres
   clear HST
   by_cases hon : w0 = [111, 110]
   · have hE1b := hE1.trans (decide_eq_true hon)
     have hE2b := hE2.trans (decide_eq_false (by rw [hon]; decide))
     clear hE1 hE2
     go_wp2_with (first | ((with_reducible refine bpI ?_); refine bodyPost_ret (results_ctt rfl _ _ gr 25 #[.slice none 0 0, .int .u32 0] (0, 0) _ rfl (err_row HP9.out.rr _ _) Try.underlying25 rfl kR) rfl ?_; exact ⟨_, rfl, Kd.S_nil _ _ _ _ _, below_set (below_set HP9.out.bl HP9.out.ger) HP9.out.ger⟩) | ((with_reducible refine gate_dst (N := 32) rfl ?_); (try (refine gate_guard (by rfl) ?_; dsimp only)); refine box_event ?hg (N := 32) ?hd (cs := #[.string line, .bool false, .bool false]) (t := 65) ?hr ?_; (case hd => rfl); (case hg => rfl); (case hr => first | (go_simp; done) | (go_simp; rfl)); intro g hgx w6 hbox hbx; have n0_ := aM (PI.below piA hbx); have n1_ := aM (⟨hbox, by rw [hgx]; exact (PI.bl piA).size⟩ : P.IsS65 w w6 g line false false); have NRG := aM (by rw [hgx]; exact Nat.ne_of_lt (blk_lt (PI.rr piA)) : gr ≠ g); have NPG := aM (by rw [hgx]; exact Nat.ne_of_lt (blk_lt (PI.pr piA)) : gp ≠ g); clear HP hbx hbox hgx; have HP := n0_; have HR := n1_; clear n0_ n1_) | ((with_reducible refine gate_callee (f := 37) rfl ?_); refine goesL_ (some 34) rfl rfl Try.func37 kR rfl #[.pointer (some ⟨g, 0, none⟩)] rfl mpA ?_; (with_reducible refine (policy_reader_word.calls g line false false wd s1 e1 false w _ ?side1 ?side2 A1.out).mono ?_); (case side1 => exact HR.out); (case side2 => exact (PI.bl piA)); rintro e w7 ⟨rfl, hi, hb, hk⟩; refine ⟨_, rfl, ?_⟩; have n0_ := aM hi; have n1_ := aM (PI.keep piA hk HR.out.1 hb); clear HR HP hi hb hk; have HR := n0_; have HP := n1_; clear n0_ n1_; have hng1 := NRG.out; have hng2 := NRG.out.symm; have hng3 := NPG.out; have hng4 := NPG.out.symm; have hc0 : w7.cell? ⟨g, 0, none⟩ = some (.string s1) := P.cellS65_0 HR.out.1; have hc1 : w7.cell? ⟨g, 1, none⟩ = some (.bool e1) := P.cellS65_1 HR.out.1; have hc2 : w7.cell? ⟨g, 2, none⟩ = some (.bool false) := P.cellS65_2 HR.out.1; have hf2 : w7.frozen? ⟨g, 2, none⟩ = false := blk_frozen HR.out.1 2; have hcz0 : w7.cell? ⟨gr, 0, none⟩ = some (.slice none 0 0) := (blk_cell HP.out.rr 0).trans rfl; have hcz1 : w7.cell? ⟨gr, 1, none⟩ = some (.int .u32 0) := (blk_cell HP.out.rr 1).trans rfl; have hfz0 : w7.frozen? ⟨gr, 0, none⟩ = false := blk_frozen HP.out.rr 0; have hfz1 : w7.frozen? ⟨gr, 1, none⟩ = false := blk_frozen HP.out.rr 1; have HP9 := aM (PI.setRd HP.out HR.out.1 HR.out.2 2 (.bool true))))
   have hE1b := hE1.trans (decide_eq_false hon)
   by_cases hdf : w0 = [100, 101, 102, 97, 117, 108, 116]
   · have hE2b := hE2.trans (decide_eq_true hdf)
     clear hE1 hE2
     go_wp2_with (first | ((with_reducible refine bpI ?_); refine bodyPost_ret (results_ctt rfl _ _ gr 25 #[.slice none 0 0, .int .u32 0] (0, 0) _ rfl (err_row HP9.out.rr _ _) Try.underlying25 rfl kR) rfl ?_; exact ⟨_, rfl, Kd.S_nil _ _ _ _ _, below_set (below_set HP9.out.bl HP9.out.ger) HP9.out.ger⟩) | ((with_reducible refine gate_dst (N := 32) rfl ?_); (try (refine gate_guard (by rfl) ?_; dsimp only)); refine box_event ?hg (N := 32) ?hd (cs := #[.string line, .bool false, .bool false]) (t := 65) ?hr ?_; (case hd => rfl); (case hg => rfl); (case hr => first | (go_simp; done) | (go_simp; rfl)); intro g hgx w6 hbox hbx; have n0_ := aM (PI.below piA hbx); have n1_ := aM (⟨hbox, by rw [hgx]; exact (PI.bl piA).size⟩ : P.IsS65 w w6 g line false false); have NRG := aM (by rw [hgx]; exact Nat.ne_of_lt (blk_lt (PI.rr piA)) : gr ≠ g); have NPG := aM (by rw [hgx]; exact Nat.ne_of_lt (blk_lt (PI.pr piA)) : gp ≠ g); clear HP hbx hbox hgx; have HP := n0_; have HR := n1_; clear n0_ n1_) | ((with_reducible refine gate_callee (f := 37) rfl ?_); refine goesL_ (some 34) rfl rfl Try.func37 kR rfl #[.pointer (some ⟨g, 0, none⟩)] rfl mpA ?_; (with_reducible refine (policy_reader_word.calls g line false false wd s1 e1 false w _ ?side1 ?side2 A1.out).mono ?_); (case side1 => exact HR.out); (case side2 => exact (PI.bl piA)); rintro e w7 ⟨rfl, hi, hb, hk⟩; refine ⟨_, rfl, ?_⟩; have n0_ := aM hi; have n1_ := aM (PI.keep piA hk HR.out.1 hb); clear HR HP hi hb hk; have HR := n0_; have HP := n1_; clear n0_ n1_; have hng1 := NRG.out; have hng2 := NRG.out.symm; have hng3 := NPG.out; have hng4 := NPG.out.symm; have hc0 : w7.cell? ⟨g, 0, none⟩ = some (.string s1) := P.cellS65_0 HR.out.1; have hc1 : w7.cell? ⟨g, 1, none⟩ = some (.bool e1) := P.cellS65_1 HR.out.1; have hc2 : w7.cell? ⟨g, 2, none⟩ = some (.bool false) := P.cellS65_2 HR.out.1; have hf2 : w7.frozen? ⟨g, 2, none⟩ = false := blk_frozen HR.out.1 2; have hcz0 : w7.cell? ⟨gr, 0, none⟩ = some (.slice none 0 0) := (blk_cell HP.out.rr 0).trans rfl; have hcz1 : w7.cell? ⟨gr, 1, none⟩ = some (.int .u32 0) := (blk_cell HP.out.rr 1).trans rfl; have hfz0 : w7.frozen? ⟨gr, 0, none⟩ = false := blk_frozen HP.out.rr 0; have hfz1 : w7.frozen? ⟨gr, 1, none⟩ = false := blk_frozen HP.out.rr 1; have HP9 := aM (PI.setRd HP.out HR.out.1 HR.out.2 2 (.bool true))))
   have hE2b := hE2.trans (decide_eq_false hdf)
   clear hE1 hE2
   go_wp2_with (first | ((with_reducible refine bpI ?_); refine bodyPost_ret (results_ctt rfl _ _ gr 25 #[.slice none 0 0, .int .u32 0] (0, 0) _ rfl (err_row HP9.out.rr _ _) Try.underlying25 rfl kR) rfl ?_; exact ⟨_, rfl, Kd.S_nil _ _ _ _ _, below_set (below_set HP9.out.bl HP9.out.ger) HP9.out.ger⟩) | ((with_reducible refine gate_dst (N := 32) rfl ?_); (try (refine gate_guard (by rfl) ?_; dsimp only)); refine box_event ?hg (N := 32) ?hd (cs := #[.string line, .bool false, .bool false]) (t := 65) ?hr ?_; (case hd => rfl); (case hg => rfl); (case hr => first | (go_simp; done) | (go_simp; rfl)); intro g hgx w6 hbox hbx; have n0_ := aM (PI.below piA hbx); have n1_ := aM (⟨hbox, by rw [hgx]; exact (PI.bl piA).size⟩ : P.IsS65 w w6 g line false false); have NRG := aM (by rw [hgx]; exact Nat.ne_of_lt (blk_lt (PI.rr piA)) : gr ≠ g); have NPG := aM (by rw [hgx]; exact Nat.ne_of_lt (blk_lt (PI.pr piA)) : gp ≠ g); clear HP hbx hbox hgx; have HP := n0_; have HR := n1_; clear n0_ n1_) | ((with_reducible refine gate_callee (f := 37) rfl ?_); refine goesL_ (some 34) rfl rfl Try.func37 kR rfl #[.pointer (some ⟨g, 0, none⟩)] rfl mpA ?_; (with_reducible refine (policy_reader_word.calls g line false false wd s1 e1 false w _ ?side1 ?side2 A1.out).mono ?_); (case side1 => exact HR.out); (case side2 => exact (PI.bl piA)); rintro e w7 ⟨rfl, hi, hb, hk⟩; refine ⟨_, rfl, ?_⟩; have n0_ := aM hi; have n1_ := aM (PI.keep piA hk HR.out.1 hb); clear HR HP hi hb hk; have HR := n0_; have HP := n1_; clear n0_ n1_; have hng1 := NRG.out; have hng2 := NRG.out.symm; have hng3 := NPG.out; have hng4 := NPG.out.symm; have hc0 : w7.cell? ⟨g, 0, none⟩ = some (.string s1) := P.cellS65_0 HR.out.1; have hc1 : w7.cell? ⟨g, 1, none⟩ = some (.bool e1) := P.cellS65_1 HR.out.1; have hc2 : w7.cell? ⟨g, 2, none⟩ = some (.bool false) := P.cellS65_2 HR.out.1; have hf2 : w7.frozen? ⟨g, 2, none⟩ = false := blk_frozen HR.out.1 2; have hcz0 : w7.cell? ⟨gr, 0, none⟩ = some (.slice none 0 0) := (blk_cell HP.out.rr 0).trans rfl; have hcz1 : w7.cell? ⟨gr, 1, none⟩ = some (.int .u32 0) := (blk_cell HP.out.rr 1).trans rfl; have hfz0 : w7.frozen? ⟨gr, 0, none⟩ = false := blk_frozen HP.out.rr 0; have hfz1 : w7.frozen? ⟨gr, 1, none⟩ = false := blk_frozen HP.out.rr 1; have HP9 := aM (PI.setRd HP.out HR.out.1 HR.out.2 2 (.bool true))))
  | false =>
   have hst := HST.out
   rw [if_neg (by decide)] at hst
   clear HST
   by_cases hon : w0 = [111, 110]
   · have hE1b := hE1.trans (decide_eq_true hon)
     have hE2b := hE2.trans (decide_eq_false (by rw [hon]; decide))
     clear hE1 hE2
     rw [show lineW w0 ws = (ruleV ws).map Sum.inl by unfold lineW; rw [if_pos hon]] at hst
     obtain ⟨Ao, co, rfl⟩ := Kd.S_slice HP.out.sl
     obtain ⟨k, x0, x1, x2, x3, s2, e2, b2, A20, hrule⟩ := rest_ev s1 e1 ws HQ1.out HY1.out
     have A2 := aM A20
     clear A20
     obtain ⟨L2, hL2⟩ : ∃ y, y = L ++ [(⟨x0, x1, x2, x3⟩ : P.S40)] := ⟨_, rfl⟩
     have HL2 := aM hL2
     cases b2 with
     | true =>
      have hrv : ruleV ws = none := by
       cases h : ruleV ws with
       | none => rfl
       | some x => rw [h] at hrule; simp at hrule
      rw [hrv] at hst
      subst hst
      clear hrule hrv hL2
      go_wp2_with (first | ((with_reducible refine gate_dst (N := 32) rfl ?_); (try (refine gate_guard (by rfl) ?_; dsimp only)); refine box_event ?hg (N := 32) ?hd (cs := #[.string line, .bool false, .bool false]) (t := 65) ?hr ?_; (case hd => rfl); (case hg => rfl); (case hr => first | (go_simp; done) | (go_simp; rfl)); intro g hgx w6 hbox hbx; have n0_ := aM (PI.below piA hbx); have n1_ := aM (⟨hbox, by rw [hgx]; exact (PI.bl piA).size⟩ : P.IsS65 w w6 g line false false); have NRG := aM (by rw [hgx]; exact Nat.ne_of_lt (blk_lt (PI.rr piA)) : gr ≠ g); have NPG := aM (by rw [hgx]; exact Nat.ne_of_lt (blk_lt (PI.pr piA)) : gp ≠ g); clear HP hbx hbox hgx; have HP := n0_; have HR := n1_; clear n0_ n1_) | ((with_reducible refine gate_callee (f := 37) rfl ?_); refine goesL_ (some 34) rfl rfl Try.func37 kR rfl #[.pointer (some ⟨g, 0, none⟩)] rfl mpA ?_; (with_reducible refine (policy_reader_word.calls g line false false wd s1 e1 false w _ ?side1 ?side2 A1.out).mono ?_); (case side1 => exact HR.out); (case side2 => exact (PI.bl piA)); rintro e w7 ⟨rfl, hi, hb, hk⟩; refine ⟨_, rfl, ?_⟩; have n0_ := aM hi; have n1_ := aM (PI.keep piA hk HR.out.1 hb); clear HR HP hi hb hk; have HR := n0_; have HP := n1_; clear n0_ n1_) | ((with_reducible refine gate_callee (f := 38) rfl ?_); refine goesL_ (some 46) rfl rfl Try.func38 kR rfl #[.pointer (some ⟨g, 0, none⟩)] rfl mpA ?_; (with_reducible refine (P.policy_reader_rest.calls k g s1 e1 false x0 x1 x2 x3 s2 e2 true w _ ?side1 ?side2 A2.out).mono ?_); (case side1 => exact HR.out); (case side2 => exact (PI.bl piA)); rintro e w8 ⟨v2, rfl, hq, hi, hb, hk⟩; refine ⟨_, rfl, ?_⟩; obtain ⟨Ax, cx, ex⟩ := Kd.R_slice hq; subst ex; have n0_ := aM hi; have n1_ := aM (PI.keep piA hk HR.out.1 hb); have n2_ : Aside0 (Kd.S P.k40 40 w8 w.heap.size (fun k_ => some k_ ≠ (.slice Ax x2.length cx : Value).ownBlock) (.slice Ao L.length co) L) := ⟨Kd.S_mono (Kd.S_told (Kd.S_oldK (Kd.S_types (PI.sl piA) HR.out.1 (by decide)) hk) (Kd.R_base hq)) (fun _ h_ => h_.1.2)⟩; have n3_ : Aside0 (Kd.R P.k61 61 w8 w.heap.size (fun _ => True) (.slice Ax x2.length cx) x2) := ⟨Kd.R_lower hq (PI.bl piA).size⟩; clear HR HP hi hb hk hq; have HR := n0_; have HP := n1_; have HS := n2_; have HQ := n3_; clear n0_ n1_ n2_ n3_) | ((with_reducible refine gate_dst (N := 12) rfl ?_); (try (refine gate_guard (by rfl) ?_; dsimp only)); refine box_event ?hg (N := 12) ?hd (cs := #[.int .u32 0, .int .u32 0, .slice none 0 0, .int .u32 0]) (t := 40) ?hr ?_; (case hd => rfl); (case hg => rfl); (case hr => first | (go_simp; done) | (go_simp; rfl)); intro gx hgx w9 hbox hbx; have HX : Aside0 (Below w8.heap.size w8 w9) := ⟨hbx⟩; have HGX : Aside0 (w8.heap.size ≤ gx) := ⟨by rw [hgx]; exact Nat.le_refl _⟩; have BKX := aM hbox; clear hbx hbox hgx; have hcx0 : w9.cell? ⟨gx, 0, none⟩ = some (.int .u32 0) := (blk_cell BKX.out 0).trans rfl; have hfx0 := blk_frozen BKX.out 0; have hcx1 : w9.cell? ⟨gx, 1, none⟩ = some (.int .u32 0) := (blk_cell BKX.out 1).trans rfl; have hfx1 := blk_frozen BKX.out 1; have hcx2 : w9.cell? ⟨gx, 2, none⟩ = some (.slice none 0 0) := (blk_cell BKX.out 2).trans rfl; have hfx2 := blk_frozen BKX.out 2; have hcx3 : w9.cell? ⟨gx, 3, none⟩ = some (.int .u32 0) := (blk_cell BKX.out 3).trans rfl; have hfx3 := blk_frozen BKX.out 3) | ((with_reducible refine gate_store (t := 40) (p := 12) rfl ?_); refine store_event (t := 40) (p := 12) (v := ?vo_) (w1 := ((((w9.setCell ⟨gx, 0, none⟩ (.int .u32 x0)).setCell ⟨gx, 1, none⟩ (.int .u32 x1)).setCell ⟨gx, 2, none⟩ (.slice Ax x2.length cx)).setCell ⟨gx, 3, none⟩ (.int .u32 x3))) ?hg ?ho ?hn ?hr ?_; (case ho => rfl); (case hg => rfl); (case hn => rfl); (case hr => first | (go_simp; done) | (go_simp; rfl)); intro w10 hw; have n0_ : Aside0 (Below w8.heap.size w8 w10) := ⟨by rw [hw]; exact below_set (below_set (below_set (below_set HX.out HGX.out) HGX.out) HGX.out) HGX.out⟩; have n1_ : Aside0 (w10.heap[gx]? = some (.cells #[.int .u32 x0, .int .u32 x1, .slice Ax x2.length cx, .int .u32 x3] 40 (0, 0))) := ⟨by rw [hw]; exact blk_put (cs := #[.int .u32 x0, .int .u32 x1, .slice Ax x2.length cx, .int .u32 0]) (blk_put (cs := #[.int .u32 x0, .int .u32 x1, .slice none 0 0, .int .u32 0]) (blk_put (cs := #[.int .u32 x0, .int .u32 0, .slice none 0 0, .int .u32 0]) (blk_put (cs := #[.int .u32 0, .int .u32 0, .slice none 0 0, .int .u32 0]) BKX.out 0 _ rfl) 1 _ rfl) 2 _ rfl) 3 _ rfl⟩; have NGX : Aside0 (gx ≠ g) := ⟨fun e_ => by have := P.IsS65.lt HR.out; have := HGX.out; omega⟩; have NPX : Aside0 (gx ≠ gp) := ⟨fun e_ => by have := blk_lt HP.out.pr; have := HGX.out; omega⟩; have NRX : Aside0 (gx ≠ gr) := ⟨fun e_ => by have := blk_lt HP.out.rr; have := HGX.out; omega⟩; have n2_ := aM (PI.below HP.out n0_.out); have n3_ := aM (P.IsS65.below HR.out n0_.out); have n4_ := aM (Kd.S_below HS.out n0_.out); have n5_ := aM (Kd.R_below HQ.out n0_.out); clear hw HX HGX BKX HP HR HS HQ n0_; have BKX := n1_; have HP := n2_; have HR := n3_; have HS := n4_; have HQ := n5_; clear n1_ n2_ n3_ n4_ n5_; clear hcx0 hcx1 hcx2 hcx3 hfx0 hfx1 hfx2 hfx3; have hng1 := NRG.out; have hng2 := NRG.out.symm; have hng3 := NPG.out; have hng4 := NPG.out.symm; have hnx1 := NGX.out; have hnx2 := NGX.out.symm; have hnx3 := NPX.out; have hnx4 := NPX.out.symm; have hnx5 := NRX.out; have hnx6 := NRX.out.symm; have hrp := (PI.ne HP.out); have hrp2 := (PI.ne HP.out).symm; have hc0 : w10.cell? ⟨g, 0, none⟩ = some (.string s2) := P.cellS65_0 HR.out.1; have hc1 : w10.cell? ⟨g, 1, none⟩ = some (.bool e2) := P.cellS65_1 HR.out.1; have hc2 : w10.cell? ⟨g, 2, none⟩ = some (.bool true) := P.cellS65_2 HR.out.1; have hf2 : w10.frozen? ⟨g, 2, none⟩ = false := blk_frozen HR.out.1 2; have hcz0 : w10.cell? ⟨gr, 0, none⟩ = some (.slice none 0 0) := (blk_cell HP.out.rr 0).trans rfl; have hcz1 : w10.cell? ⟨gr, 1, none⟩ = some (.int .u32 0) := (blk_cell HP.out.rr 1).trans rfl; have hfz0 : w10.frozen? ⟨gr, 0, none⟩ = false := blk_frozen HP.out.rr 0; have hfz1 : w10.frozen? ⟨gr, 1, none⟩ = false := blk_frozen HP.out.rr 1; have hcp0 : w10.cell? ⟨gp, 0, none⟩ = some (.slice Ao L.length co) := (blk_cell HP.out.pr 0).trans rfl; have hfp0 : w10.frozen? ⟨gp, 0, none⟩ = false := blk_frozen HP.out.pr 0; have hcx0 : w10.cell? ⟨gx, 0, none⟩ = some (.int .u32 x0) := (blk_cell BKX.out 0).trans rfl; have hcx1 : w10.cell? ⟨gx, 1, none⟩ = some (.int .u32 x1) := (blk_cell BKX.out 1).trans rfl; have hcx2 : w10.cell? ⟨gx, 2, none⟩ = some (.slice Ax x2.length cx) := (blk_cell BKX.out 2).trans rfl; have hcx3 : w10.cell? ⟨gx, 3, none⟩ = some (.int .u32 x3) := (blk_cell BKX.out 3).trans rfl) | ((with_reducible refine gate_builtin (b := .append) (xs := #[.tmp 61, .tmp 63]) rfl ?_); at_builtin; refine Kd.S_append P.k40 (w0 := w) w.heap.size rfl (.tmp 61) (.tmp 63) 22 40 (.agg #[(.int .u32 0), (.int .u32 0), (.slice none 0 0), (.int .u32 0)]) 40 rfl Try.underlying22 P.info40 rfl (by decide) (by omega) (.slice Ao L.length co) L (⟨x0, x1, x2, x3⟩ : P.S40) [.int .u32 x0, .int .u32 x1, .slice Ax x2.length cx, .int .u32 x3] (fun _ => True) (fun k_ => some k_ = (.slice Ax x2.length cx : Value).ownBlock) rfl rfl ?aP (fun k_ hk_ => ⟨trivial, ((Kd.R_apart' HQ.out (Kd.S_typed HS.out) (by decide)).1 k_ hk_.symm).2⟩) (fun _ _ => trivial) ?aO ?aB ?aS ?aL ?_; (case aP => exact P.k40_mkM _ _ _ (⟨x0, x1, x2, x3⟩ : P.S40) (Kd.R_tight rfl HQ.out)); (case aB => exact (PI.bl piA)); (case aO => exact Kd.S_mono HS.out (fun k_ hk_ => ⟨trivial, fun e_ => hk_ e_⟩)); (case aS => exact (PI.bl piA).size); (case aL => omega); intro v3 w11 ho hb hg hat; rw [← HL2.out] at ho; obtain ⟨A3, c3, e3⟩ := Kd.S_slice ho; subst e3; have HP12 := aM (PI.setS HP.out hg ho hb); have n0_ := aM (P.IsS65.grown HR.out hg (P.IsS65.own_neS HR.out HS.out (by decide))); have n1_ := aM (blk_grown HP.out.pr hg (Kd.S_ne HP.out.sl HP.out.pr (by decide))); have n2_ := aM (blk_grown HP.out.rr hg (Kd.S_ne HP.out.sl HP.out.rr (by decide))); clear HR HP HS HQ ho hb hg hat hc0 hc1 hc2 hf2 hcz0 hcz1 hfz0 hfz1 hcp0 hfp0 hcx0 hcx1 hcx2 hcx3; have HR := n0_; clear n0_; have hc0 : w11.cell? ⟨g, 0, none⟩ = some (.string s2) := P.cellS65_0 HR.out.1; have hc1 : w11.cell? ⟨g, 1, none⟩ = some (.bool e2) := P.cellS65_1 HR.out.1; have hc2 : w11.cell? ⟨g, 2, none⟩ = some (.bool true) := P.cellS65_2 HR.out.1; have hf2 : w11.frozen? ⟨g, 2, none⟩ = false := blk_frozen HR.out.1 2; have hcp0 : w11.cell? ⟨gp, 0, none⟩ = some (.slice Ao L.length co) := (blk_cell n1_.out 0).trans rfl; have hfp0 : w11.frozen? ⟨gp, 0, none⟩ = false := blk_frozen n1_.out 0; have hcz0 : w11.cell? ⟨gr, 0, none⟩ = some (.slice none 0 0) := (blk_cell n2_.out 0).trans rfl; have hcz1 : w11.cell? ⟨gr, 1, none⟩ = some (.int .u32 0) := (blk_cell n2_.out 1).trans rfl; have hfz0 : w11.frozen? ⟨gr, 0, none⟩ = false := blk_frozen n2_.out 0; have hfz1 : w11.frozen? ⟨gr, 1, none⟩ = false := blk_frozen n2_.out 1; clear n1_ n2_))
      all_goals (refine bodyPost_ret (results_ctt rfl _ _ gr 25 #[.slice none 0 0, .int .u32 0] (0, 0) _ rfl (err_row HP12.out.rr _ _) Try.underlying25 rfl kR) rfl ?_; exact ⟨_, rfl, Kd.S_nil _ _ _ _ _, below_set (below_set HP12.out.bl HP12.out.ger) HP12.out.ger⟩)
     | false =>
      have hrv : ruleV ws = some (⟨x0, x1, x2, x3⟩ : P.S40) := by
       cases h : ruleV ws with
       | none => rw [h] at hrule; simp at hrule
       | some x => rw [h] at hrule; exact congrArg some hrule.2.symm
      rw [hrv] at hst
      simp only [Option.map_some] at hst
      clear hrule hrv
      by_cases h64 : L.length = 64
      · rw [if_pos h64] at hst
        subst hst
        clear hL2
        have h64a : ((L.length : Int) == 64) = true := by rw [h64]; rfl
        have h64b : decide ((L.length : Int) = 64) = true := by rw [h64]; rfl
        have h64c : (L.length == 64) = true := by rw [h64]; rfl
        clear h64
        go_wp2_with (first | ((with_reducible refine bpI ?_); refine bodyPost_ret (results_ctt rfl _ _ gr 25 #[.slice none 0 0, .int .u32 0] (0, 0) _ rfl (err_row HP.out.rr _ _) Try.underlying25 rfl kR) rfl ?_; exact ⟨_, rfl, Kd.S_nil _ _ _ _ _, below_set (below_set HP.out.bl HP.out.ger) HP.out.ger⟩) | ((with_reducible refine gate_dst (N := 32) rfl ?_); (try (refine gate_guard (by rfl) ?_; dsimp only)); refine box_event ?hg (N := 32) ?hd (cs := #[.string line, .bool false, .bool false]) (t := 65) ?hr ?_; (case hd => rfl); (case hg => rfl); (case hr => first | (go_simp; done) | (go_simp; rfl)); intro g hgx w6 hbox hbx; have n0_ := aM (PI.below piA hbx); have n1_ := aM (⟨hbox, by rw [hgx]; exact (PI.bl piA).size⟩ : P.IsS65 w w6 g line false false); have NRG := aM (by rw [hgx]; exact Nat.ne_of_lt (blk_lt (PI.rr piA)) : gr ≠ g); have NPG := aM (by rw [hgx]; exact Nat.ne_of_lt (blk_lt (PI.pr piA)) : gp ≠ g); clear HP hbx hbox hgx; have HP := n0_; have HR := n1_; clear n0_ n1_) | ((with_reducible refine gate_callee (f := 37) rfl ?_); refine goesL_ (some 34) rfl rfl Try.func37 kR rfl #[.pointer (some ⟨g, 0, none⟩)] rfl mpA ?_; (with_reducible refine (policy_reader_word.calls g line false false wd s1 e1 false w _ ?side1 ?side2 A1.out).mono ?_); (case side1 => exact HR.out); (case side2 => exact (PI.bl piA)); rintro e w7 ⟨rfl, hi, hb, hk⟩; refine ⟨_, rfl, ?_⟩; have n0_ := aM hi; have n1_ := aM (PI.keep piA hk HR.out.1 hb); clear HR HP hi hb hk; have HR := n0_; have HP := n1_; clear n0_ n1_) | ((with_reducible refine gate_callee (f := 38) rfl ?_); refine goesL_ (some 46) rfl rfl Try.func38 kR rfl #[.pointer (some ⟨g, 0, none⟩)] rfl mpA ?_; (with_reducible refine (P.policy_reader_rest.calls k g s1 e1 false x0 x1 x2 x3 s2 e2 false w _ ?side1 ?side2 A2.out).mono ?_); (case side1 => exact HR.out); (case side2 => exact (PI.bl piA)); rintro e w8 ⟨v2, rfl, hq, hi, hb, hk⟩; refine ⟨_, rfl, ?_⟩; obtain ⟨Ax, cx, ex⟩ := Kd.R_slice hq; subst ex; have n0_ := aM hi; have n1_ := aM (PI.keep piA hk HR.out.1 hb); have n2_ : Aside0 (Kd.S P.k40 40 w8 w.heap.size (fun k_ => some k_ ≠ (.slice Ax x2.length cx : Value).ownBlock) (.slice Ao L.length co) L) := ⟨Kd.S_mono (Kd.S_told (Kd.S_oldK (Kd.S_types (PI.sl piA) HR.out.1 (by decide)) hk) (Kd.R_base hq)) (fun _ h_ => h_.1.2)⟩; have n3_ : Aside0 (Kd.R P.k61 61 w8 w.heap.size (fun _ => True) (.slice Ax x2.length cx) x2) := ⟨Kd.R_lower hq (PI.bl piA).size⟩; clear HR HP hi hb hk hq; have HR := n0_; have HP := n1_; have HS := n2_; have HQ := n3_; clear n0_ n1_ n2_ n3_) | ((with_reducible refine gate_dst (N := 12) rfl ?_); (try (refine gate_guard (by rfl) ?_; dsimp only)); refine box_event ?hg (N := 12) ?hd (cs := #[.int .u32 0, .int .u32 0, .slice none 0 0, .int .u32 0]) (t := 40) ?hr ?_; (case hd => rfl); (case hg => rfl); (case hr => first | (go_simp; done) | (go_simp; rfl)); intro gx hgx w9 hbox hbx; have HX : Aside0 (Below w8.heap.size w8 w9) := ⟨hbx⟩; have HGX : Aside0 (w8.heap.size ≤ gx) := ⟨by rw [hgx]; exact Nat.le_refl _⟩; have BKX := aM hbox; clear hbx hbox hgx; have hcx0 : w9.cell? ⟨gx, 0, none⟩ = some (.int .u32 0) := (blk_cell BKX.out 0).trans rfl; have hfx0 := blk_frozen BKX.out 0; have hcx1 : w9.cell? ⟨gx, 1, none⟩ = some (.int .u32 0) := (blk_cell BKX.out 1).trans rfl; have hfx1 := blk_frozen BKX.out 1; have hcx2 : w9.cell? ⟨gx, 2, none⟩ = some (.slice none 0 0) := (blk_cell BKX.out 2).trans rfl; have hfx2 := blk_frozen BKX.out 2; have hcx3 : w9.cell? ⟨gx, 3, none⟩ = some (.int .u32 0) := (blk_cell BKX.out 3).trans rfl; have hfx3 := blk_frozen BKX.out 3) | ((with_reducible refine gate_store (t := 40) (p := 12) rfl ?_); refine store_event (t := 40) (p := 12) (v := ?vo_) (w1 := ((((w9.setCell ⟨gx, 0, none⟩ (.int .u32 x0)).setCell ⟨gx, 1, none⟩ (.int .u32 x1)).setCell ⟨gx, 2, none⟩ (.slice Ax x2.length cx)).setCell ⟨gx, 3, none⟩ (.int .u32 x3))) ?hg ?ho ?hn ?hr ?_; (case ho => rfl); (case hg => rfl); (case hn => rfl); (case hr => first | (go_simp; done) | (go_simp; rfl)); intro w10 hw; have n0_ : Aside0 (Below w8.heap.size w8 w10) := ⟨by rw [hw]; exact below_set (below_set (below_set (below_set HX.out HGX.out) HGX.out) HGX.out) HGX.out⟩; have n1_ : Aside0 (w10.heap[gx]? = some (.cells #[.int .u32 x0, .int .u32 x1, .slice Ax x2.length cx, .int .u32 x3] 40 (0, 0))) := ⟨by rw [hw]; exact blk_put (cs := #[.int .u32 x0, .int .u32 x1, .slice Ax x2.length cx, .int .u32 0]) (blk_put (cs := #[.int .u32 x0, .int .u32 x1, .slice none 0 0, .int .u32 0]) (blk_put (cs := #[.int .u32 x0, .int .u32 0, .slice none 0 0, .int .u32 0]) (blk_put (cs := #[.int .u32 0, .int .u32 0, .slice none 0 0, .int .u32 0]) BKX.out 0 _ rfl) 1 _ rfl) 2 _ rfl) 3 _ rfl⟩; have NGX : Aside0 (gx ≠ g) := ⟨fun e_ => by have := P.IsS65.lt HR.out; have := HGX.out; omega⟩; have NPX : Aside0 (gx ≠ gp) := ⟨fun e_ => by have := blk_lt HP.out.pr; have := HGX.out; omega⟩; have NRX : Aside0 (gx ≠ gr) := ⟨fun e_ => by have := blk_lt HP.out.rr; have := HGX.out; omega⟩; have n2_ := aM (PI.below HP.out n0_.out); have n3_ := aM (P.IsS65.below HR.out n0_.out); have n4_ := aM (Kd.S_below HS.out n0_.out); have n5_ := aM (Kd.R_below HQ.out n0_.out); clear hw HX HGX BKX HP HR HS HQ n0_; have BKX := n1_; have HP := n2_; have HR := n3_; have HS := n4_; have HQ := n5_; clear n1_ n2_ n3_ n4_ n5_; clear hcx0 hcx1 hcx2 hcx3 hfx0 hfx1 hfx2 hfx3; have hng1 := NRG.out; have hng2 := NRG.out.symm; have hng3 := NPG.out; have hng4 := NPG.out.symm; have hnx1 := NGX.out; have hnx2 := NGX.out.symm; have hnx3 := NPX.out; have hnx4 := NPX.out.symm; have hnx5 := NRX.out; have hnx6 := NRX.out.symm; have hrp := (PI.ne HP.out); have hrp2 := (PI.ne HP.out).symm; have hc0 : w10.cell? ⟨g, 0, none⟩ = some (.string s2) := P.cellS65_0 HR.out.1; have hc1 : w10.cell? ⟨g, 1, none⟩ = some (.bool e2) := P.cellS65_1 HR.out.1; have hc2 : w10.cell? ⟨g, 2, none⟩ = some (.bool false) := P.cellS65_2 HR.out.1; have hf2 : w10.frozen? ⟨g, 2, none⟩ = false := blk_frozen HR.out.1 2; have hcz0 : w10.cell? ⟨gr, 0, none⟩ = some (.slice none 0 0) := (blk_cell HP.out.rr 0).trans rfl; have hcz1 : w10.cell? ⟨gr, 1, none⟩ = some (.int .u32 0) := (blk_cell HP.out.rr 1).trans rfl; have hfz0 : w10.frozen? ⟨gr, 0, none⟩ = false := blk_frozen HP.out.rr 0; have hfz1 : w10.frozen? ⟨gr, 1, none⟩ = false := blk_frozen HP.out.rr 1; have hcp0 : w10.cell? ⟨gp, 0, none⟩ = some (.slice Ao L.length co) := (blk_cell HP.out.pr 0).trans rfl; have hfp0 : w10.frozen? ⟨gp, 0, none⟩ = false := blk_frozen HP.out.pr 0; have hcx0 : w10.cell? ⟨gx, 0, none⟩ = some (.int .u32 x0) := (blk_cell BKX.out 0).trans rfl; have hcx1 : w10.cell? ⟨gx, 1, none⟩ = some (.int .u32 x1) := (blk_cell BKX.out 1).trans rfl; have hcx2 : w10.cell? ⟨gx, 2, none⟩ = some (.slice Ax x2.length cx) := (blk_cell BKX.out 2).trans rfl; have hcx3 : w10.cell? ⟨gx, 3, none⟩ = some (.int .u32 x3) := (blk_cell BKX.out 3).trans rfl) | ((with_reducible refine gate_builtin (b := .append) (xs := #[.tmp 61, .tmp 63]) rfl ?_); at_builtin; refine Kd.S_append P.k40 (w0 := w) w.heap.size rfl (.tmp 61) (.tmp 63) 22 40 (.agg #[(.int .u32 0), (.int .u32 0), (.slice none 0 0), (.int .u32 0)]) 40 rfl Try.underlying22 P.info40 rfl (by decide) (by omega) (.slice Ao L.length co) L (⟨x0, x1, x2, x3⟩ : P.S40) [.int .u32 x0, .int .u32 x1, .slice Ax x2.length cx, .int .u32 x3] (fun _ => True) (fun k_ => some k_ = (.slice Ax x2.length cx : Value).ownBlock) rfl rfl ?aP (fun k_ hk_ => ⟨trivial, ((Kd.R_apart' HQ.out (Kd.S_typed HS.out) (by decide)).1 k_ hk_.symm).2⟩) (fun _ _ => trivial) ?aO ?aB ?aS ?aL ?_; (case aP => exact P.k40_mkM _ _ _ (⟨x0, x1, x2, x3⟩ : P.S40) (Kd.R_tight rfl HQ.out)); (case aB => exact (PI.bl piA)); (case aO => exact Kd.S_mono HS.out (fun k_ hk_ => ⟨trivial, fun e_ => hk_ e_⟩)); (case aS => exact (PI.bl piA).size); (case aL => omega); intro v3 w11 ho hb hg hat; rw [← HL2.out] at ho; obtain ⟨A3, c3, e3⟩ := Kd.S_slice ho; subst e3; have HP12 := aM (PI.setS HP.out hg ho hb); have n0_ := aM (P.IsS65.grown HR.out hg (P.IsS65.own_neS HR.out HS.out (by decide))); have n1_ := aM (blk_grown HP.out.pr hg (Kd.S_ne HP.out.sl HP.out.pr (by decide))); have n2_ := aM (blk_grown HP.out.rr hg (Kd.S_ne HP.out.sl HP.out.rr (by decide))); clear HR HP HS HQ ho hb hg hat hc0 hc1 hc2 hf2 hcz0 hcz1 hfz0 hfz1 hcp0 hfp0 hcx0 hcx1 hcx2 hcx3; have HR := n0_; clear n0_; have hc0 : w11.cell? ⟨g, 0, none⟩ = some (.string s2) := P.cellS65_0 HR.out.1; have hc1 : w11.cell? ⟨g, 1, none⟩ = some (.bool e2) := P.cellS65_1 HR.out.1; have hc2 : w11.cell? ⟨g, 2, none⟩ = some (.bool false) := P.cellS65_2 HR.out.1; have hf2 : w11.frozen? ⟨g, 2, none⟩ = false := blk_frozen HR.out.1 2; have hcp0 : w11.cell? ⟨gp, 0, none⟩ = some (.slice Ao L.length co) := (blk_cell n1_.out 0).trans rfl; have hfp0 : w11.frozen? ⟨gp, 0, none⟩ = false := blk_frozen n1_.out 0; have hcz0 : w11.cell? ⟨gr, 0, none⟩ = some (.slice none 0 0) := (blk_cell n2_.out 0).trans rfl; have hcz1 : w11.cell? ⟨gr, 1, none⟩ = some (.int .u32 0) := (blk_cell n2_.out 1).trans rfl; have hfz0 : w11.frozen? ⟨gr, 0, none⟩ = false := blk_frozen n2_.out 0; have hfz1 : w11.frozen? ⟨gr, 1, none⟩ = false := blk_frozen n2_.out 1; clear n1_ n2_))
      rw [if_neg h64, ← hL2] at hst
      have HST := aM hst
      have HLE := aM (show L2.length ≤ 64 by rw [hL2]; simp; omega)
      clear hst hL2
      have h64a : ((L.length : Int) == 64) = false := by simp; omega
      have h64b : decide ((L.length : Int) = 64) = false := decide_eq_false (by omega)
      have h64c : (L.length == 64) = false := by simpa using h64
      go_wp2_with (first | ((with_reducible refine gate_dst (N := 32) rfl ?_); (try (refine gate_guard (by rfl) ?_; dsimp only)); refine box_event ?hg (N := 32) ?hd (cs := #[.string line, .bool false, .bool false]) (t := 65) ?hr ?_; (case hd => rfl); (case hg => rfl); (case hr => first | (go_simp; done) | (go_simp; rfl)); intro g hgx w6 hbox hbx; have n0_ := aM (PI.below piA hbx); have n1_ := aM (⟨hbox, by rw [hgx]; exact (PI.bl piA).size⟩ : P.IsS65 w w6 g line false false); have NRG := aM (by rw [hgx]; exact Nat.ne_of_lt (blk_lt (PI.rr piA)) : gr ≠ g); have NPG := aM (by rw [hgx]; exact Nat.ne_of_lt (blk_lt (PI.pr piA)) : gp ≠ g); clear HP hbx hbox hgx; have HP := n0_; have HR := n1_; clear n0_ n1_) | ((with_reducible refine gate_callee (f := 37) rfl ?_); refine goesL_ (some 34) rfl rfl Try.func37 kR rfl #[.pointer (some ⟨g, 0, none⟩)] rfl mpA ?_; (with_reducible refine (policy_reader_word.calls g line false false wd s1 e1 false w _ ?side1 ?side2 A1.out).mono ?_); (case side1 => exact HR.out); (case side2 => exact (PI.bl piA)); rintro e w7 ⟨rfl, hi, hb, hk⟩; refine ⟨_, rfl, ?_⟩; have n0_ := aM hi; have n1_ := aM (PI.keep piA hk HR.out.1 hb); clear HR HP hi hb hk; have HR := n0_; have HP := n1_; clear n0_ n1_) | ((with_reducible refine gate_callee (f := 38) rfl ?_); refine goesL_ (some 46) rfl rfl Try.func38 kR rfl #[.pointer (some ⟨g, 0, none⟩)] rfl mpA ?_; (with_reducible refine (P.policy_reader_rest.calls k g s1 e1 false x0 x1 x2 x3 s2 e2 false w _ ?side1 ?side2 A2.out).mono ?_); (case side1 => exact HR.out); (case side2 => exact (PI.bl piA)); rintro e w8 ⟨v2, rfl, hq, hi, hb, hk⟩; refine ⟨_, rfl, ?_⟩; obtain ⟨Ax, cx, ex⟩ := Kd.R_slice hq; subst ex; have n0_ := aM hi; have n1_ := aM (PI.keep piA hk HR.out.1 hb); have n2_ : Aside0 (Kd.S P.k40 40 w8 w.heap.size (fun k_ => some k_ ≠ (.slice Ax x2.length cx : Value).ownBlock) (.slice Ao L.length co) L) := ⟨Kd.S_mono (Kd.S_told (Kd.S_oldK (Kd.S_types (PI.sl piA) HR.out.1 (by decide)) hk) (Kd.R_base hq)) (fun _ h_ => h_.1.2)⟩; have n3_ : Aside0 (Kd.R P.k61 61 w8 w.heap.size (fun _ => True) (.slice Ax x2.length cx) x2) := ⟨Kd.R_lower hq (PI.bl piA).size⟩; clear HR HP hi hb hk hq; have HR := n0_; have HP := n1_; have HS := n2_; have HQ := n3_; clear n0_ n1_ n2_ n3_) | ((with_reducible refine gate_dst (N := 12) rfl ?_); (try (refine gate_guard (by rfl) ?_; dsimp only)); refine box_event ?hg (N := 12) ?hd (cs := #[.int .u32 0, .int .u32 0, .slice none 0 0, .int .u32 0]) (t := 40) ?hr ?_; (case hd => rfl); (case hg => rfl); (case hr => first | (go_simp; done) | (go_simp; rfl)); intro gx hgx w9 hbox hbx; have HX : Aside0 (Below w8.heap.size w8 w9) := ⟨hbx⟩; have HGX : Aside0 (w8.heap.size ≤ gx) := ⟨by rw [hgx]; exact Nat.le_refl _⟩; have BKX := aM hbox; clear hbx hbox hgx; have hcx0 : w9.cell? ⟨gx, 0, none⟩ = some (.int .u32 0) := (blk_cell BKX.out 0).trans rfl; have hfx0 := blk_frozen BKX.out 0; have hcx1 : w9.cell? ⟨gx, 1, none⟩ = some (.int .u32 0) := (blk_cell BKX.out 1).trans rfl; have hfx1 := blk_frozen BKX.out 1; have hcx2 : w9.cell? ⟨gx, 2, none⟩ = some (.slice none 0 0) := (blk_cell BKX.out 2).trans rfl; have hfx2 := blk_frozen BKX.out 2; have hcx3 : w9.cell? ⟨gx, 3, none⟩ = some (.int .u32 0) := (blk_cell BKX.out 3).trans rfl; have hfx3 := blk_frozen BKX.out 3) | ((with_reducible refine gate_store (t := 40) (p := 12) rfl ?_); refine store_event (t := 40) (p := 12) (v := ?vo_) (w1 := ((((w9.setCell ⟨gx, 0, none⟩ (.int .u32 x0)).setCell ⟨gx, 1, none⟩ (.int .u32 x1)).setCell ⟨gx, 2, none⟩ (.slice Ax x2.length cx)).setCell ⟨gx, 3, none⟩ (.int .u32 x3))) ?hg ?ho ?hn ?hr ?_; (case ho => rfl); (case hg => rfl); (case hn => rfl); (case hr => first | (go_simp; done) | (go_simp; rfl)); intro w10 hw; have n0_ : Aside0 (Below w8.heap.size w8 w10) := ⟨by rw [hw]; exact below_set (below_set (below_set (below_set HX.out HGX.out) HGX.out) HGX.out) HGX.out⟩; have n1_ : Aside0 (w10.heap[gx]? = some (.cells #[.int .u32 x0, .int .u32 x1, .slice Ax x2.length cx, .int .u32 x3] 40 (0, 0))) := ⟨by rw [hw]; exact blk_put (cs := #[.int .u32 x0, .int .u32 x1, .slice Ax x2.length cx, .int .u32 0]) (blk_put (cs := #[.int .u32 x0, .int .u32 x1, .slice none 0 0, .int .u32 0]) (blk_put (cs := #[.int .u32 x0, .int .u32 0, .slice none 0 0, .int .u32 0]) (blk_put (cs := #[.int .u32 0, .int .u32 0, .slice none 0 0, .int .u32 0]) BKX.out 0 _ rfl) 1 _ rfl) 2 _ rfl) 3 _ rfl⟩; have NGX : Aside0 (gx ≠ g) := ⟨fun e_ => by have := P.IsS65.lt HR.out; have := HGX.out; omega⟩; have NPX : Aside0 (gx ≠ gp) := ⟨fun e_ => by have := blk_lt HP.out.pr; have := HGX.out; omega⟩; have NRX : Aside0 (gx ≠ gr) := ⟨fun e_ => by have := blk_lt HP.out.rr; have := HGX.out; omega⟩; have n2_ := aM (PI.below HP.out n0_.out); have n3_ := aM (P.IsS65.below HR.out n0_.out); have n4_ := aM (Kd.S_below HS.out n0_.out); have n5_ := aM (Kd.R_below HQ.out n0_.out); clear hw HX HGX BKX HP HR HS HQ n0_; have BKX := n1_; have HP := n2_; have HR := n3_; have HS := n4_; have HQ := n5_; clear n1_ n2_ n3_ n4_ n5_; clear hcx0 hcx1 hcx2 hcx3 hfx0 hfx1 hfx2 hfx3; have hng1 := NRG.out; have hng2 := NRG.out.symm; have hng3 := NPG.out; have hng4 := NPG.out.symm; have hnx1 := NGX.out; have hnx2 := NGX.out.symm; have hnx3 := NPX.out; have hnx4 := NPX.out.symm; have hnx5 := NRX.out; have hnx6 := NRX.out.symm; have hrp := (PI.ne HP.out); have hrp2 := (PI.ne HP.out).symm; have hc0 : w10.cell? ⟨g, 0, none⟩ = some (.string s2) := P.cellS65_0 HR.out.1; have hc1 : w10.cell? ⟨g, 1, none⟩ = some (.bool e2) := P.cellS65_1 HR.out.1; have hc2 : w10.cell? ⟨g, 2, none⟩ = some (.bool false) := P.cellS65_2 HR.out.1; have hf2 : w10.frozen? ⟨g, 2, none⟩ = false := blk_frozen HR.out.1 2; have hcz0 : w10.cell? ⟨gr, 0, none⟩ = some (.slice none 0 0) := (blk_cell HP.out.rr 0).trans rfl; have hcz1 : w10.cell? ⟨gr, 1, none⟩ = some (.int .u32 0) := (blk_cell HP.out.rr 1).trans rfl; have hfz0 : w10.frozen? ⟨gr, 0, none⟩ = false := blk_frozen HP.out.rr 0; have hfz1 : w10.frozen? ⟨gr, 1, none⟩ = false := blk_frozen HP.out.rr 1; have hcp0 : w10.cell? ⟨gp, 0, none⟩ = some (.slice Ao L.length co) := (blk_cell HP.out.pr 0).trans rfl; have hfp0 : w10.frozen? ⟨gp, 0, none⟩ = false := blk_frozen HP.out.pr 0; have hcx0 : w10.cell? ⟨gx, 0, none⟩ = some (.int .u32 x0) := (blk_cell BKX.out 0).trans rfl; have hcx1 : w10.cell? ⟨gx, 1, none⟩ = some (.int .u32 x1) := (blk_cell BKX.out 1).trans rfl; have hcx2 : w10.cell? ⟨gx, 2, none⟩ = some (.slice Ax x2.length cx) := (blk_cell BKX.out 2).trans rfl; have hcx3 : w10.cell? ⟨gx, 3, none⟩ = some (.int .u32 x3) := (blk_cell BKX.out 3).trans rfl) | ((with_reducible refine gate_builtin (b := .append) (xs := #[.tmp 61, .tmp 63]) rfl ?_); at_builtin; refine Kd.S_append P.k40 (w0 := w) w.heap.size rfl (.tmp 61) (.tmp 63) 22 40 (.agg #[(.int .u32 0), (.int .u32 0), (.slice none 0 0), (.int .u32 0)]) 40 rfl Try.underlying22 P.info40 rfl (by decide) (by omega) (.slice Ao L.length co) L (⟨x0, x1, x2, x3⟩ : P.S40) [.int .u32 x0, .int .u32 x1, .slice Ax x2.length cx, .int .u32 x3] (fun _ => True) (fun k_ => some k_ = (.slice Ax x2.length cx : Value).ownBlock) rfl rfl ?aP (fun k_ hk_ => ⟨trivial, ((Kd.R_apart' HQ.out (Kd.S_typed HS.out) (by decide)).1 k_ hk_.symm).2⟩) (fun _ _ => trivial) ?aO ?aB ?aS ?aL ?_; (case aP => exact P.k40_mkM _ _ _ (⟨x0, x1, x2, x3⟩ : P.S40) (Kd.R_tight rfl HQ.out)); (case aB => exact (PI.bl piA)); (case aO => exact Kd.S_mono HS.out (fun k_ hk_ => ⟨trivial, fun e_ => hk_ e_⟩)); (case aS => exact (PI.bl piA).size); (case aL => omega); intro v3 w11 ho hb hg hat; rw [← HL2.out] at ho; obtain ⟨A3, c3, e3⟩ := Kd.S_slice ho; subst e3; have HP12 := aM (PI.setS HP.out hg ho hb); have n0_ := aM (P.IsS65.grown HR.out hg (P.IsS65.own_neS HR.out HS.out (by decide))); have n1_ := aM (blk_grown HP.out.pr hg (Kd.S_ne HP.out.sl HP.out.pr (by decide))); have n2_ := aM (blk_grown HP.out.rr hg (Kd.S_ne HP.out.sl HP.out.rr (by decide))); clear HR HP HS HQ ho hb hg hat hc0 hc1 hc2 hf2 hcz0 hcz1 hfz0 hfz1 hcp0 hfp0 hcx0 hcx1 hcx2 hcx3; have HR := n0_; clear n0_; have hc0 : w11.cell? ⟨g, 0, none⟩ = some (.string s2) := P.cellS65_0 HR.out.1; have hc1 : w11.cell? ⟨g, 1, none⟩ = some (.bool e2) := P.cellS65_1 HR.out.1; have hc2 : w11.cell? ⟨g, 2, none⟩ = some (.bool false) := P.cellS65_2 HR.out.1; have hf2 : w11.frozen? ⟨g, 2, none⟩ = false := blk_frozen HR.out.1 2; have hcp0 : w11.cell? ⟨gp, 0, none⟩ = some (.slice Ao L.length co) := (blk_cell n1_.out 0).trans rfl; have hfp0 : w11.frozen? ⟨gp, 0, none⟩ = false := blk_frozen n1_.out 0; have hcz0 : w11.cell? ⟨gr, 0, none⟩ = some (.slice none 0 0) := (blk_cell n2_.out 0).trans rfl; have hcz1 : w11.cell? ⟨gr, 1, none⟩ = some (.int .u32 0) := (blk_cell n2_.out 1).trans rfl; have hfz0 : w11.frozen? ⟨gr, 0, none⟩ = false := blk_frozen n2_.out 0; have hfz1 : w11.frozen? ⟨gr, 1, none⟩ = false := blk_frozen n2_.out 1; clear n1_ n2_))
      go_roundw
      case rel => exact ⟨pos + 1, pos + 1, false, _, L2, df, rfl, rfl, HP12, Nat.le_refl _, by omega, HLE.out, ⟨fun j hj h1 h2 => by omega⟩, HST⟩
      case measure => rw [HPOS.out, HP12.out.pos_]; omega
   have hE1b := hE1.trans (decide_eq_false hon)
   by_cases hdf : w0 = [100, 101, 102, 97, 117, 108, 116]
   rotate_left
   · have hE2b := hE2.trans (decide_eq_false hdf)
     clear hE1 hE2
     rw [show lineW w0 ws = none by unfold lineW; rw [if_neg hon, if_neg hdf]] at hst
     subst hst
     go_wp2_with (first | ((with_reducible refine bpI ?_); refine bodyPost_ret (results_ctt rfl _ _ gr 25 #[.slice none 0 0, .int .u32 0] (0, 0) _ rfl (err_row HP9.out.rr _ _) Try.underlying25 rfl kR) rfl ?_; exact ⟨_, rfl, Kd.S_nil _ _ _ _ _, below_set (below_set HP9.out.bl HP9.out.ger) HP9.out.ger⟩) | ((with_reducible refine gate_dst (N := 32) rfl ?_); (try (refine gate_guard (by rfl) ?_; dsimp only)); refine box_event ?hg (N := 32) ?hd (cs := #[.string line, .bool false, .bool false]) (t := 65) ?hr ?_; (case hd => rfl); (case hg => rfl); (case hr => first | (go_simp; done) | (go_simp; rfl)); intro g hgx w6 hbox hbx; have n0_ := aM (PI.below piA hbx); have n1_ := aM (⟨hbox, by rw [hgx]; exact (PI.bl piA).size⟩ : P.IsS65 w w6 g line false false); have NRG := aM (by rw [hgx]; exact Nat.ne_of_lt (blk_lt (PI.rr piA)) : gr ≠ g); have NPG := aM (by rw [hgx]; exact Nat.ne_of_lt (blk_lt (PI.pr piA)) : gp ≠ g); clear HP hbx hbox hgx; have HP := n0_; have HR := n1_; clear n0_ n1_) | ((with_reducible refine gate_callee (f := 37) rfl ?_); refine goesL_ (some 34) rfl rfl Try.func37 kR rfl #[.pointer (some ⟨g, 0, none⟩)] rfl mpA ?_; (with_reducible refine (policy_reader_word.calls g line false false wd s1 e1 false w _ ?side1 ?side2 A1.out).mono ?_); (case side1 => exact HR.out); (case side2 => exact (PI.bl piA)); rintro e w7 ⟨rfl, hi, hb, hk⟩; refine ⟨_, rfl, ?_⟩; have n0_ := aM hi; have n1_ := aM (PI.keep piA hk HR.out.1 hb); clear HR HP hi hb hk; have HR := n0_; have HP := n1_; clear n0_ n1_; have hng1 := NRG.out; have hng2 := NRG.out.symm; have hng3 := NPG.out; have hng4 := NPG.out.symm; have hc0 : w7.cell? ⟨g, 0, none⟩ = some (.string s1) := P.cellS65_0 HR.out.1; have hc1 : w7.cell? ⟨g, 1, none⟩ = some (.bool e1) := P.cellS65_1 HR.out.1; have hc2 : w7.cell? ⟨g, 2, none⟩ = some (.bool false) := P.cellS65_2 HR.out.1; have hf2 : w7.frozen? ⟨g, 2, none⟩ = false := blk_frozen HR.out.1 2; have hcz0 : w7.cell? ⟨gr, 0, none⟩ = some (.slice none 0 0) := (blk_cell HP.out.rr 0).trans rfl; have hcz1 : w7.cell? ⟨gr, 1, none⟩ = some (.int .u32 0) := (blk_cell HP.out.rr 1).trans rfl; have hfz0 : w7.frozen? ⟨gr, 0, none⟩ = false := blk_frozen HP.out.rr 0; have hfz1 : w7.frozen? ⟨gr, 1, none⟩ = false := blk_frozen HP.out.rr 1; have HP9 := aM (PI.setRd HP.out HR.out.1 HR.out.2 2 (.bool true))))
   have hE2b := hE2.trans (decide_eq_true hdf)
   clear hE1 hE2
   rw [show lineW w0 ws = (dfltV ws).map Sum.inr by unfold lineW; rw [if_neg hon, if_pos hdf]] at hst
   obtain ⟨w2, s2, e2, b2, A20, z2, y2, q2, d2, g2⟩ := word_ev s1 e1 false ws HQ1.out HY1.out
   obtain ⟨v, ev, hv⟩ : ∃ v ev, readAct w2 = (v, ev) := ⟨_, _, rfl⟩
   obtain ⟨b3, hb3⟩ : ∃ b3, (b2 || (ev != 0)) = b3 := ⟨_, rfl⟩
   have A2 := aM A20
   have A3 := aM (show names_ReadAction.f w2 = some (v, ev) by unfold names_ReadAction.f; rw [hv])
   have A4 := aM (show P.policy_reader_must.f s2 e2 b2 ev = some (s2, e2, b3) by rw [must_ev, hb3])
   have key : (b3 = false ∧ e2 = true ∧ dfltV ws = some v) ∨ ((b3 = true ∨ e2 = false) ∧ dfltV ws = none) := by
    rcases ws with _ | ⟨a, _ | ⟨b, r⟩⟩
    · exact .inr ⟨.inl (by rw [← hb3, g2]; rfl), rfl⟩
    · have i1 : w2 = ofBytes a := ba_eq (by rw [d2, data_of]; rfl)
      have i2 := q2.end_iff.2 rfl
      have i3 : b2 = false := by rw [g2]; rfl
      rw [i1] at hv
      rw [i3] at hb3
      by_cases h0 : ev = 0
      · exact .inl ⟨by rw [← hb3, h0]; rfl, i2, by simp only [dfltV, hv, h0, if_true]⟩
      exact .inr ⟨.inl (by rw [← hb3]; simpa using h0), by simp only [dfltV, hv, h0, if_false]⟩
    · refine .inr ⟨.inr ?_, rfl⟩
      cases e2 with
      | false => rfl
      | true => have := q2.end_iff.1 rfl; simp at this
   clear A20 z2 y2 q2 d2 g2 hv hb3
   rcases key with ⟨rfl, rfl, hk0⟩ | ⟨hk1, hk0⟩
   · rw [hk0] at hst
     have HST := aM (show plines s.size (spl 10 (s.data.toList.drop (pos + 1))) (pos + 1) true L v = res from hst)
     clear hst hk0
     go_wp2_with (first | ((with_reducible refine gate_dst (N := 32) rfl ?_); (try (refine gate_guard (by rfl) ?_; dsimp only)); refine box_event ?hg (N := 32) ?hd (cs := #[.string line, .bool false, .bool false]) (t := 65) ?hr ?_; (case hd => rfl); (case hg => rfl); (case hr => first | (go_simp; done) | (go_simp; rfl)); intro g hgx w6 hbox hbx; have n0_ := aM (PI.below piA hbx); have n1_ := aM (⟨hbox, by rw [hgx]; exact (PI.bl piA).size⟩ : P.IsS65 w w6 g line false false); have NRG := aM (by rw [hgx]; exact Nat.ne_of_lt (blk_lt (PI.rr piA)) : gr ≠ g); have NPG := aM (by rw [hgx]; exact Nat.ne_of_lt (blk_lt (PI.pr piA)) : gp ≠ g); clear HP hbx hbox hgx; have HP := n0_; have HR := n1_; clear n0_ n1_) | ((with_reducible refine gate_callee (f := 37) rfl ?_); refine goesL_ (some 34) rfl rfl Try.func37 kR rfl #[.pointer (some ⟨g, 0, none⟩)] rfl mpA ?_; (with_reducible refine (policy_reader_word.calls g line false false wd s1 e1 false w _ ?side1 ?side2 A1.out).mono ?_); (case side1 => exact HR.out); (case side2 => exact (PI.bl piA)); rintro e w7 ⟨rfl, hi, hb, hk⟩; refine ⟨_, rfl, ?_⟩; have n0_ := aM hi; have n1_ := aM (PI.keep piA hk HR.out.1 hb); clear HR HP hi hb hk; have HR := n0_; have HP := n1_; clear n0_ n1_) | ((with_reducible refine gate_callee (f := 37) rfl ?_); refine goesL_ (some 75) rfl rfl Try.func37 kR rfl #[.pointer (some ⟨g, 0, none⟩)] rfl mpA ?_; (with_reducible refine (policy_reader_word.calls g s1 e1 false w2 s2 true b2 w _ ?side1 ?side2 A2.out).mono ?_); (case side1 => exact HR.out); (case side2 => exact (PI.bl piA)); rintro e w8 ⟨rfl, hi, hb, hk⟩; refine ⟨_, rfl, ?_⟩; have n0_ := aM hi; have n1_ := aM (PI.keep piA hk HR.out.1 hb); clear HR HP hi hb hk; have HR := n0_; have HP := n1_; clear n0_ n1_) | ((with_reducible refine gate_callee (f := 39) rfl ?_); refine goesL_ (some 76) rfl rfl Try.func39 kR rfl #[.string w2] rfl mpA ?_; (with_reducible refine (names_ReadAction.calls w2 v ev _ A3.out).mono ?_); rintro e w9 ⟨rfl, hb⟩; refine ⟨_, rfl, ?_⟩; have n0_ := aM (PI.below piA hb); have n1_ := aM (P.IsS65.below HR.out hb); clear HR HP hb; have HP := n0_; have HR := n1_; clear n0_ n1_) | ((with_reducible refine gate_callee (f := 40) rfl ?_); refine goesL_ (some 81) rfl rfl Try.func40 kR rfl #[.pointer (some ⟨g, 0, none⟩), .int .i64 ev] rfl mpA ?_; (with_reducible refine (P.policy_reader_must.calls g s2 true b2 ev s2 true false w _ ?side1 ?side2 A4.out).mono ?_); (case side1 => exact HR.out); (case side2 => exact (PI.bl piA)); rintro e w10 ⟨rfl, hi, hb, hk⟩; refine ⟨_, rfl, ?_⟩; have n0_ := aM hi; have n1_ := aM (PI.keep piA hk HR.out.1 hb); clear HR HP hi hb hk; have HR := n0_; have HP := n1_; clear n0_ n1_; have hng1 := NRG.out; have hng2 := NRG.out.symm; have hng3 := NPG.out; have hng4 := NPG.out.symm; have hc0 : w10.cell? ⟨g, 0, none⟩ = some (.string s2) := P.cellS65_0 HR.out.1; have hc1 : w10.cell? ⟨g, 1, none⟩ = some (.bool true) := P.cellS65_1 HR.out.1; have hc2 : w10.cell? ⟨g, 2, none⟩ = some (.bool false) := P.cellS65_2 HR.out.1; have hf2 : w10.frozen? ⟨g, 2, none⟩ = false := blk_frozen HR.out.1 2; have hcz0 : w10.cell? ⟨gr, 0, none⟩ = some (.slice none 0 0) := (blk_cell HP.out.rr 0).trans rfl; have hcz1 : w10.cell? ⟨gr, 1, none⟩ = some (.int .u32 0) := (blk_cell HP.out.rr 1).trans rfl; have hfz0 : w10.frozen? ⟨gr, 0, none⟩ = false := blk_frozen HP.out.rr 0; have hfz1 : w10.frozen? ⟨gr, 1, none⟩ = false := blk_frozen HP.out.rr 1; have hrp := (PI.ne HP.out); have hrp2 := (PI.ne HP.out).symm; have hcp1 : w10.cell? ⟨gp, 1, none⟩ = some (.int .u32 df) := (blk_cell HP.out.pr 1).trans rfl; have hfp1 : w10.frozen? ⟨gp, 1, none⟩ = false := blk_frozen HP.out.pr 1; have HP11 := aM (PI.setP HP.out v); have HR11 := aM (P.IsS65.far (p := ⟨gp, 1, none⟩) HR.out hng4 (.int .u32 v)); have HP12 := fun x => aM (PI.setRd HP11.out HR11.out.1 HR11.out.2 2 (.bool x))))
     go_roundw
     case rel => exact ⟨pos + 1, pos + 1, true, _, L, v, rfl, rfl, HP12 false, Nat.le_refl _, by omega, hL, ⟨fun j hj h1 h2 => by omega⟩, HST⟩
     case measure => rw [HPOS.out, (HP12 false).out.pos_]; omega
   · rw [hk0] at hst
     subst hst
     clear hk0
     cases b3 with
     | true =>
      cases e2 with
      | true =>
       go_wp2_with (first | ((with_reducible refine bpI ?_); refine bodyPost_ret (results_ctt rfl _ _ gr 25 #[.slice none 0 0, .int .u32 0] (0, 0) _ rfl (err_row (HP12 true).out.rr _ _) Try.underlying25 rfl kR) rfl ?_; exact ⟨_, rfl, Kd.S_nil _ _ _ _ _, below_set (below_set (HP12 true).out.bl (HP12 true).out.ger) (HP12 true).out.ger⟩) | ((with_reducible refine gate_dst (N := 32) rfl ?_); (try (refine gate_guard (by rfl) ?_; dsimp only)); refine box_event ?hg (N := 32) ?hd (cs := #[.string line, .bool false, .bool false]) (t := 65) ?hr ?_; (case hd => rfl); (case hg => rfl); (case hr => first | (go_simp; done) | (go_simp; rfl)); intro g hgx w6 hbox hbx; have n0_ := aM (PI.below piA hbx); have n1_ := aM (⟨hbox, by rw [hgx]; exact (PI.bl piA).size⟩ : P.IsS65 w w6 g line false false); have NRG := aM (by rw [hgx]; exact Nat.ne_of_lt (blk_lt (PI.rr piA)) : gr ≠ g); have NPG := aM (by rw [hgx]; exact Nat.ne_of_lt (blk_lt (PI.pr piA)) : gp ≠ g); clear HP hbx hbox hgx; have HP := n0_; have HR := n1_; clear n0_ n1_) | ((with_reducible refine gate_callee (f := 37) rfl ?_); refine goesL_ (some 34) rfl rfl Try.func37 kR rfl #[.pointer (some ⟨g, 0, none⟩)] rfl mpA ?_; (with_reducible refine (policy_reader_word.calls g line false false wd s1 e1 false w _ ?side1 ?side2 A1.out).mono ?_); (case side1 => exact HR.out); (case side2 => exact (PI.bl piA)); rintro e w7 ⟨rfl, hi, hb, hk⟩; refine ⟨_, rfl, ?_⟩; have n0_ := aM hi; have n1_ := aM (PI.keep piA hk HR.out.1 hb); clear HR HP hi hb hk; have HR := n0_; have HP := n1_; clear n0_ n1_) | ((with_reducible refine gate_callee (f := 37) rfl ?_); refine goesL_ (some 75) rfl rfl Try.func37 kR rfl #[.pointer (some ⟨g, 0, none⟩)] rfl mpA ?_; (with_reducible refine (policy_reader_word.calls g s1 e1 false w2 s2 true b2 w _ ?side1 ?side2 A2.out).mono ?_); (case side1 => exact HR.out); (case side2 => exact (PI.bl piA)); rintro e w8 ⟨rfl, hi, hb, hk⟩; refine ⟨_, rfl, ?_⟩; have n0_ := aM hi; have n1_ := aM (PI.keep piA hk HR.out.1 hb); clear HR HP hi hb hk; have HR := n0_; have HP := n1_; clear n0_ n1_) | ((with_reducible refine gate_callee (f := 39) rfl ?_); refine goesL_ (some 76) rfl rfl Try.func39 kR rfl #[.string w2] rfl mpA ?_; (with_reducible refine (names_ReadAction.calls w2 v ev _ A3.out).mono ?_); rintro e w9 ⟨rfl, hb⟩; refine ⟨_, rfl, ?_⟩; have n0_ := aM (PI.below piA hb); have n1_ := aM (P.IsS65.below HR.out hb); clear HR HP hb; have HP := n0_; have HR := n1_; clear n0_ n1_) | ((with_reducible refine gate_callee (f := 40) rfl ?_); refine goesL_ (some 81) rfl rfl Try.func40 kR rfl #[.pointer (some ⟨g, 0, none⟩), .int .i64 ev] rfl mpA ?_; (with_reducible refine (P.policy_reader_must.calls g s2 true b2 ev s2 true true w _ ?side1 ?side2 A4.out).mono ?_); (case side1 => exact HR.out); (case side2 => exact (PI.bl piA)); rintro e w10 ⟨rfl, hi, hb, hk⟩; refine ⟨_, rfl, ?_⟩; have n0_ := aM hi; have n1_ := aM (PI.keep piA hk HR.out.1 hb); clear HR HP hi hb hk; have HR := n0_; have HP := n1_; clear n0_ n1_; have hng1 := NRG.out; have hng2 := NRG.out.symm; have hng3 := NPG.out; have hng4 := NPG.out.symm; have hc0 : w10.cell? ⟨g, 0, none⟩ = some (.string s2) := P.cellS65_0 HR.out.1; have hc1 : w10.cell? ⟨g, 1, none⟩ = some (.bool true) := P.cellS65_1 HR.out.1; have hc2 : w10.cell? ⟨g, 2, none⟩ = some (.bool true) := P.cellS65_2 HR.out.1; have hf2 : w10.frozen? ⟨g, 2, none⟩ = false := blk_frozen HR.out.1 2; have hcz0 : w10.cell? ⟨gr, 0, none⟩ = some (.slice none 0 0) := (blk_cell HP.out.rr 0).trans rfl; have hcz1 : w10.cell? ⟨gr, 1, none⟩ = some (.int .u32 0) := (blk_cell HP.out.rr 1).trans rfl; have hfz0 : w10.frozen? ⟨gr, 0, none⟩ = false := blk_frozen HP.out.rr 0; have hfz1 : w10.frozen? ⟨gr, 1, none⟩ = false := blk_frozen HP.out.rr 1; have hrp := (PI.ne HP.out); have hrp2 := (PI.ne HP.out).symm; have hcp1 : w10.cell? ⟨gp, 1, none⟩ = some (.int .u32 df) := (blk_cell HP.out.pr 1).trans rfl; have hfp1 : w10.frozen? ⟨gp, 1, none⟩ = false := blk_frozen HP.out.pr 1; have HP11 := aM (PI.setP HP.out v); have HR11 := aM (P.IsS65.far (p := ⟨gp, 1, none⟩) HR.out hng4 (.int .u32 v)); have HP12 := fun x => aM (PI.setRd HP11.out HR11.out.1 HR11.out.2 2 (.bool x))))
      | false =>
       go_wp2_with (first | ((with_reducible refine bpI ?_); refine bodyPost_ret (results_ctt rfl _ _ gr 25 #[.slice none 0 0, .int .u32 0] (0, 0) _ rfl (err_row (HP12 true).out.rr _ _) Try.underlying25 rfl kR) rfl ?_; exact ⟨_, rfl, Kd.S_nil _ _ _ _ _, below_set (below_set (HP12 true).out.bl (HP12 true).out.ger) (HP12 true).out.ger⟩) | ((with_reducible refine gate_dst (N := 32) rfl ?_); (try (refine gate_guard (by rfl) ?_; dsimp only)); refine box_event ?hg (N := 32) ?hd (cs := #[.string line, .bool false, .bool false]) (t := 65) ?hr ?_; (case hd => rfl); (case hg => rfl); (case hr => first | (go_simp; done) | (go_simp; rfl)); intro g hgx w6 hbox hbx; have n0_ := aM (PI.below piA hbx); have n1_ := aM (⟨hbox, by rw [hgx]; exact (PI.bl piA).size⟩ : P.IsS65 w w6 g line false false); have NRG := aM (by rw [hgx]; exact Nat.ne_of_lt (blk_lt (PI.rr piA)) : gr ≠ g); have NPG := aM (by rw [hgx]; exact Nat.ne_of_lt (blk_lt (PI.pr piA)) : gp ≠ g); clear HP hbx hbox hgx; have HP := n0_; have HR := n1_; clear n0_ n1_) | ((with_reducible refine gate_callee (f := 37) rfl ?_); refine goesL_ (some 34) rfl rfl Try.func37 kR rfl #[.pointer (some ⟨g, 0, none⟩)] rfl mpA ?_; (with_reducible refine (policy_reader_word.calls g line false false wd s1 e1 false w _ ?side1 ?side2 A1.out).mono ?_); (case side1 => exact HR.out); (case side2 => exact (PI.bl piA)); rintro e w7 ⟨rfl, hi, hb, hk⟩; refine ⟨_, rfl, ?_⟩; have n0_ := aM hi; have n1_ := aM (PI.keep piA hk HR.out.1 hb); clear HR HP hi hb hk; have HR := n0_; have HP := n1_; clear n0_ n1_) | ((with_reducible refine gate_callee (f := 37) rfl ?_); refine goesL_ (some 75) rfl rfl Try.func37 kR rfl #[.pointer (some ⟨g, 0, none⟩)] rfl mpA ?_; (with_reducible refine (policy_reader_word.calls g s1 e1 false w2 s2 false b2 w _ ?side1 ?side2 A2.out).mono ?_); (case side1 => exact HR.out); (case side2 => exact (PI.bl piA)); rintro e w8 ⟨rfl, hi, hb, hk⟩; refine ⟨_, rfl, ?_⟩; have n0_ := aM hi; have n1_ := aM (PI.keep piA hk HR.out.1 hb); clear HR HP hi hb hk; have HR := n0_; have HP := n1_; clear n0_ n1_) | ((with_reducible refine gate_callee (f := 39) rfl ?_); refine goesL_ (some 76) rfl rfl Try.func39 kR rfl #[.string w2] rfl mpA ?_; (with_reducible refine (names_ReadAction.calls w2 v ev _ A3.out).mono ?_); rintro e w9 ⟨rfl, hb⟩; refine ⟨_, rfl, ?_⟩; have n0_ := aM (PI.below piA hb); have n1_ := aM (P.IsS65.below HR.out hb); clear HR HP hb; have HP := n0_; have HR := n1_; clear n0_ n1_) | ((with_reducible refine gate_callee (f := 40) rfl ?_); refine goesL_ (some 81) rfl rfl Try.func40 kR rfl #[.pointer (some ⟨g, 0, none⟩), .int .i64 ev] rfl mpA ?_; (with_reducible refine (P.policy_reader_must.calls g s2 false b2 ev s2 false true w _ ?side1 ?side2 A4.out).mono ?_); (case side1 => exact HR.out); (case side2 => exact (PI.bl piA)); rintro e w10 ⟨rfl, hi, hb, hk⟩; refine ⟨_, rfl, ?_⟩; have n0_ := aM hi; have n1_ := aM (PI.keep piA hk HR.out.1 hb); clear HR HP hi hb hk; have HR := n0_; have HP := n1_; clear n0_ n1_; have hng1 := NRG.out; have hng2 := NRG.out.symm; have hng3 := NPG.out; have hng4 := NPG.out.symm; have hc0 : w10.cell? ⟨g, 0, none⟩ = some (.string s2) := P.cellS65_0 HR.out.1; have hc1 : w10.cell? ⟨g, 1, none⟩ = some (.bool false) := P.cellS65_1 HR.out.1; have hc2 : w10.cell? ⟨g, 2, none⟩ = some (.bool true) := P.cellS65_2 HR.out.1; have hf2 : w10.frozen? ⟨g, 2, none⟩ = false := blk_frozen HR.out.1 2; have hcz0 : w10.cell? ⟨gr, 0, none⟩ = some (.slice none 0 0) := (blk_cell HP.out.rr 0).trans rfl; have hcz1 : w10.cell? ⟨gr, 1, none⟩ = some (.int .u32 0) := (blk_cell HP.out.rr 1).trans rfl; have hfz0 : w10.frozen? ⟨gr, 0, none⟩ = false := blk_frozen HP.out.rr 0; have hfz1 : w10.frozen? ⟨gr, 1, none⟩ = false := blk_frozen HP.out.rr 1; have hrp := (PI.ne HP.out); have hrp2 := (PI.ne HP.out).symm; have hcp1 : w10.cell? ⟨gp, 1, none⟩ = some (.int .u32 df) := (blk_cell HP.out.pr 1).trans rfl; have hfp1 : w10.frozen? ⟨gp, 1, none⟩ = false := blk_frozen HP.out.pr 1; have HP11 := aM (PI.setP HP.out v); have HR11 := aM (P.IsS65.far (p := ⟨gp, 1, none⟩) HR.out hng4 (.int .u32 v)); have HP12 := fun x => aM (PI.setRd HP11.out HR11.out.1 HR11.out.2 2 (.bool x))))
     | false =>
      obtain rfl : e2 = false := by rcases hk1 with h | h; cases h; exact h
      go_wp2_with (first | ((with_reducible refine bpI ?_); refine bodyPost_ret (results_ctt rfl _ _ gr 25 #[.slice none 0 0, .int .u32 0] (0, 0) _ rfl (err_row (HP12 true).out.rr _ _) Try.underlying25 rfl kR) rfl ?_; exact ⟨_, rfl, Kd.S_nil _ _ _ _ _, below_set (below_set (HP12 true).out.bl (HP12 true).out.ger) (HP12 true).out.ger⟩) | ((with_reducible refine gate_dst (N := 32) rfl ?_); (try (refine gate_guard (by rfl) ?_; dsimp only)); refine box_event ?hg (N := 32) ?hd (cs := #[.string line, .bool false, .bool false]) (t := 65) ?hr ?_; (case hd => rfl); (case hg => rfl); (case hr => first | (go_simp; done) | (go_simp; rfl)); intro g hgx w6 hbox hbx; have n0_ := aM (PI.below piA hbx); have n1_ := aM (⟨hbox, by rw [hgx]; exact (PI.bl piA).size⟩ : P.IsS65 w w6 g line false false); have NRG := aM (by rw [hgx]; exact Nat.ne_of_lt (blk_lt (PI.rr piA)) : gr ≠ g); have NPG := aM (by rw [hgx]; exact Nat.ne_of_lt (blk_lt (PI.pr piA)) : gp ≠ g); clear HP hbx hbox hgx; have HP := n0_; have HR := n1_; clear n0_ n1_) | ((with_reducible refine gate_callee (f := 37) rfl ?_); refine goesL_ (some 34) rfl rfl Try.func37 kR rfl #[.pointer (some ⟨g, 0, none⟩)] rfl mpA ?_; (with_reducible refine (policy_reader_word.calls g line false false wd s1 e1 false w _ ?side1 ?side2 A1.out).mono ?_); (case side1 => exact HR.out); (case side2 => exact (PI.bl piA)); rintro e w7 ⟨rfl, hi, hb, hk⟩; refine ⟨_, rfl, ?_⟩; have n0_ := aM hi; have n1_ := aM (PI.keep piA hk HR.out.1 hb); clear HR HP hi hb hk; have HR := n0_; have HP := n1_; clear n0_ n1_) | ((with_reducible refine gate_callee (f := 37) rfl ?_); refine goesL_ (some 75) rfl rfl Try.func37 kR rfl #[.pointer (some ⟨g, 0, none⟩)] rfl mpA ?_; (with_reducible refine (policy_reader_word.calls g s1 e1 false w2 s2 false b2 w _ ?side1 ?side2 A2.out).mono ?_); (case side1 => exact HR.out); (case side2 => exact (PI.bl piA)); rintro e w8 ⟨rfl, hi, hb, hk⟩; refine ⟨_, rfl, ?_⟩; have n0_ := aM hi; have n1_ := aM (PI.keep piA hk HR.out.1 hb); clear HR HP hi hb hk; have HR := n0_; have HP := n1_; clear n0_ n1_) | ((with_reducible refine gate_callee (f := 39) rfl ?_); refine goesL_ (some 76) rfl rfl Try.func39 kR rfl #[.string w2] rfl mpA ?_; (with_reducible refine (names_ReadAction.calls w2 v ev _ A3.out).mono ?_); rintro e w9 ⟨rfl, hb⟩; refine ⟨_, rfl, ?_⟩; have n0_ := aM (PI.below piA hb); have n1_ := aM (P.IsS65.below HR.out hb); clear HR HP hb; have HP := n0_; have HR := n1_; clear n0_ n1_) | ((with_reducible refine gate_callee (f := 40) rfl ?_); refine goesL_ (some 81) rfl rfl Try.func40 kR rfl #[.pointer (some ⟨g, 0, none⟩), .int .i64 ev] rfl mpA ?_; (with_reducible refine (P.policy_reader_must.calls g s2 false b2 ev s2 false false w _ ?side1 ?side2 A4.out).mono ?_); (case side1 => exact HR.out); (case side2 => exact (PI.bl piA)); rintro e w10 ⟨rfl, hi, hb, hk⟩; refine ⟨_, rfl, ?_⟩; have n0_ := aM hi; have n1_ := aM (PI.keep piA hk HR.out.1 hb); clear HR HP hi hb hk; have HR := n0_; have HP := n1_; clear n0_ n1_; have hng1 := NRG.out; have hng2 := NRG.out.symm; have hng3 := NPG.out; have hng4 := NPG.out.symm; have hc0 : w10.cell? ⟨g, 0, none⟩ = some (.string s2) := P.cellS65_0 HR.out.1; have hc1 : w10.cell? ⟨g, 1, none⟩ = some (.bool false) := P.cellS65_1 HR.out.1; have hc2 : w10.cell? ⟨g, 2, none⟩ = some (.bool false) := P.cellS65_2 HR.out.1; have hf2 : w10.frozen? ⟨g, 2, none⟩ = false := blk_frozen HR.out.1 2; have hcz0 : w10.cell? ⟨gr, 0, none⟩ = some (.slice none 0 0) := (blk_cell HP.out.rr 0).trans rfl; have hcz1 : w10.cell? ⟨gr, 1, none⟩ = some (.int .u32 0) := (blk_cell HP.out.rr 1).trans rfl; have hfz0 : w10.frozen? ⟨gr, 0, none⟩ = false := blk_frozen HP.out.rr 0; have hfz1 : w10.frozen? ⟨gr, 1, none⟩ = false := blk_frozen HP.out.rr 1; have hrp := (PI.ne HP.out); have hrp2 := (PI.ne HP.out).symm; have hcp1 : w10.cell? ⟨gp, 1, none⟩ = some (.int .u32 df) := (blk_cell HP.out.pr 1).trans rfl; have hfp1 : w10.frozen? ⟨gp, 1, none⟩ = false := blk_frozen HP.out.pr 1; have HP11 := aM (PI.setP HP.out v); have HR11 := aM (P.IsS65.far (p := ⟨gp, 1, none⟩) HR.out hng4 (.int .u32 v)); have HP12 := fun x => aM (PI.setRd HP11.out HR11.out.1 HR11.out.2 2 (.bool x))))
theorem policyParse_walk (s : ByteArray) (hs : s.size ≤ 140737488351232) (w : World) :
 Calls Try.prog 20 #[.string s] w (PEnd w (parseV s.data.toList)) := by
 unfold parseV
 rw [← size_list]
 by_cases hb : 20000 < s.size
 · rw [if_pos hb]; exact policyParse_big s hb hs w
 rw [if_neg hb]; exact policyParse_go s (by omega) _ rfl w
def policy_Parse.f (a0 : ByteArray) : Option (List P.S40 × Int × Int × Int) := if a0.size ≤ 140737488351232 then some (parseV a0.data.toList) else none
theorem policy_Parse.calls (a0 : ByteArray) (r1 : List P.S40) (r2 : Int) (r3 : Int) (r4 : Int) (w : World) (h : policy_Parse.f a0 = some (r1, r2, r3, r4)) :
 Calls Try.prog 20 #[.string a0] w fun e w' => ∃ v : Value, e = .returned (.tuple #[.agg #[v, .int .u32 r2], .int .i64 r3, .int .i64 r4]) ∧ Kd.S P.k40 40 w' w.heap.size (fun _ => True) v r1 ∧ Below w.heap.size w w' := by
 unfold policy_Parse.f at h
 split at h
 · rename_i hs
   have hw := Option.some.inj h
   have := policyParse_walk a0 hs w
   rw [hw] at this
   exact this
 · simp at h
end Go.Proofs.Ytekpbgmmogpbdaa.H
