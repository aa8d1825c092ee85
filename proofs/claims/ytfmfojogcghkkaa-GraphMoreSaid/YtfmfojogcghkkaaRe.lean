/- graph.Reach: its walk: a queue in a box that is copied every round, a row of truth values, a range over graph.next. -/
import Derived.Test.YtfmfojogcghkkaaIt
import Derived.Test.YtfmfojogcghkkaaSn
namespace Go.Proofs.Ytfmfojogcghkkaa.P
open Go.RowKit Go.Shelf Go.Proofs.YtfmfojogcghkkaaW.PrintWords Go.Proofs.YtfmfojogcghkkaaW.PrintLast Go.Proofs.YtfmfojogcghkkaaW.PrintMore
open Go.Proofs.Ytfmfojogcghkkaa.Bf Go.Proofs.Ytfmfojogcghkkaa.Pp
set_option linter.unusedVariables false
attribute [local go_sem] Oper.semAt_some

/-- Who has been seen. -/
def seenL (N : Int) (st : St) : List Bool := (List.range N.toNat).map fun v : Nat => (st.2 (v : Int)).isSome
def visitC (u : Int) (st : St) (c : Int × Nat × Bool) : St := visit u c.2.1 st c.1 c.2.2
theorem cdsK_succ (l : List S41) (F : List Int) (u : Int) (i : Nat) : cdsK l F u (i + 1) = match cand l F u i with
    | none => cdsK l F u i
    | some (v, b) => cdsK l F u i ++ [(v, i, b)] := rfl
theorem scanK_fold (l : List S41) (F : List Int) (u : Int) (st : St) : ∀ i, scanK l F u st i = (cdsK l F u i).foldl (visitC u) st
  | 0 => rfl
  | i + 1 => by
    show scan1 l F u (scanK l F u st i) i = _
    rw [scanK_fold l F u st i, cdsK_succ]
    unfold scan1
    cases cand l F u i with
    | none => rfl
    | some x => simp only [List.foldl_append]; rfl
theorem seenL_len (N : Int) (st : St) : (seenL N st).length = N.toNat := by simp [seenL]
theorem seenL_rd {N : Int} {st : St} {v : Int} (h0 : 0 ≤ v) (h1 : v < N) : rdOf false (seenL N st) v = (st.2 v).isSome := by
  unfold rdOf seenL
  rw [List.getD_eq_getElem?_getD, List.getElem?_map, List.getElem?_range (by omega)]
  simp [Int.toNat_of_nonneg h0]
theorem seenL_put {N : Int} {st : St} {u v : Int} {i : Nat} {b : Bool} (h0 : 0 ≤ v) (h1 : v < N) (hn : (st.2 v).isSome = false) : seenL N (visit u i st v b) = (seenL N st).set v.toNat true ∧ (visit u i st v b).1 = st.1 ++ [v] := by
  have e : Bf.visit u i st v b = (st.1 ++ [v], fun x => if x = v then some ⟨u, i, b⟩ else st.2 x) := by unfold Bf.visit; rw [if_neg (by rw [hn]; simp)]
  rw [e]
  refine ⟨?_, rfl⟩
  apply List.ext_getElem
  · simp [seenL]
  · intro k a1 a2
    have hk : k < N.toNat := by simpa [seenL] using a1
    rw [List.getElem_set]
    simp only [seenL, List.getElem_map, List.getElem_range]
    by_cases c : v.toNat = k
    · rw [if_pos c, if_pos (by omega)]; rfl
    · rw [if_neg c, if_neg (by omega)]
theorem fold_len (u : Int) : ∀ (cs : List (Int × Nat × Bool)) (st : St), (cs.foldl (visitC u) st).1.length ≤ st.1.length + cs.length
  | [], st => by simp
  | c :: cs, st => by
    have ih := fold_len u cs (visitC u st c)
    have : (visitC u st c).1.length ≤ st.1.length + 1 := by
      unfold visitC visit
      split
      · omega
      · simp
    simp only [List.foldl_cons, List.length_cons]
    omega

theorem fold_le (u : Int) : ∀ (cs : List (Int × Nat × Bool)) (st : St), st.1.length ≤ (cs.foldl (visitC u) st).1.length
  | [], st => Nat.le_refl _
  | c :: cs, st => by
    have ih := fold_le u cs (visitC u st c)
    have := (visit_ext u c.2.1 st c.1 c.2.2).len
    exact Nat.le_trans this ih
def graph_Reach.f (k : Nat) (a0_0 : Int) (l0_1 : List (S41)) (l1 : List Int) (a2 : Int) : Option (List Bool) :=
  (graph_fits.f k a0_0 l0_1 l1).bind fun g => if g = true then (if wth a2 0 (a0_0 - 1) = true then some (seenL a0_0 (bfs l0_1 l1 a2 a0_0)) else some []) else some []
theorem graph_Reach.mono : ∀ a0 a1 a2 a3 k, LeO (graph_Reach.f k a0 a1 a2 a3) (graph_Reach.f (k + 1) a0 a1 a2 a3) := by
  intro a0 a1 a2 a3 k
  unfold graph_Reach.f
  exact LeO.bind (graph_fits.mono _ _ _ _) (fun g => LeO.refl _)

/-- What Reach has in memory. -/
structure Rw (w0 : World) (N : Int) (A : Option Addr) (n c g cap b7 b8 : Nat) (S : List Bool) (q : List Int) (v8 : Value) (ok : Nat → Prop) (W : World) : Prop where
  bel : Below w0.heap.size w0 W
  box : W.heap[w0.heap.size]? = some (.cells #[.int .i64 N, .slice A n c] 24)
  x7 : W.heap[b7]? = some (.cells #[.slice (some ⟨g, 0, none⟩) N.toNat cap] 26)
  x8 : W.heap[b8]? = some (.cells #[v8] 25)
  lo8 : w0.heap.size ≤ b8
  ln : S.length = N.toNat
  seen : Kd.R Kd.bool 4 W w0.heap.size (fun _ => True) (.slice (some ⟨g, 0, none⟩) N.toNat cap) S
  q : Kd.Q (Kd.int .i64) 3 W w0.heap.size ok v8 q
section
variable {w0 : World} {N : Int} {A : Option Addr} {n c g cap b7 b8 : Nat} {S : List Bool} {q : List Int} {v8 : Value} {ok : Nat → Prop} {W W' : World}
theorem Rw.below (h : Rw w0 N A n c g cap b7 b8 S q v8 ok W) (hb : Below W.heap.size W W') : Rw w0 N A n c g cap b7 b8 S q v8 ok W' :=
  ⟨h.bel.trans (hb.mono h.bel.size), (hb.block _ (blk_lt h.box)).trans h.box, (hb.block _ (blk_lt h.x7)).trans h.x7, (hb.block _ (blk_lt h.x8)).trans h.x8, h.lo8, h.ln, Kd.R_below h.seen hb, Kd.Q_below h.q hb⟩
theorem Rw.alloc (h : Rw w0 N A n c g cap b7 b8 S q v8 ok W) (o : Obj) : Rw w0 N A n c g cap b7 b8 S q v8 ok (W.alloc o) := h.below ((Below.refl _ _).alloc (Nat.le_refl _) o)
theorem Rw.gBlk (h : Rw w0 N A n c g cap b7 b8 S q v8 ok W) : ∃ cells, W.heap[g]? = some (.cells cells 4 (0, 0)) := Kd.R_typed h.seen g (by simp [Value.ownBlock])
/-- A block that is no cells is turned. -/
theorem Rw.own (h : Rw w0 N A n c g cap b7 b8 S q v8 ok W) {row : Option Nat} (hg : W.grownBy W' row) (hr : ∀ r, row = some r → w0.heap.size ≤ r ∧ ∃ o : Obj, W.heap[r]? = some o ∧ o.isCells = false) : Rw w0 N A n c g cap b7 b8 S q v8 ok W' := by
  have key : ∀ (k : Nat) (cs : Array Value) (t : TypeId), W.heap[k]? = some (Obj.cells cs t (0, 0)) → W'.heap[k]? = some (Obj.cells cs t (0, 0)) := fun k cs t hk =>
    (hg.block k (blk_lt hk) (fun e => by
      obtain ⟨o, ho, hc⟩ := (hr k e.symm).2
      rw [hk] at ho; cases ho; cases hc)).trans hk
  refine ⟨h.bel.grown hg h.bel.size (fun k e => (hr k e).1), key _ _ _ h.box, key _ _ _ h.x7, key _ _ _ h.x8, h.lo8, h.ln, ?_, ?_⟩
  · exact Kd.R_mono (Kd.R_move (Kd.R_bound h.seen) (fun k hk => by obtain ⟨_, _, _, _, _, cells, hc⟩ := hk; exact (key _ _ _ hc).trans hc.symm)) (fun _ _ => trivial)
  · exact Kd.Q_mono (Kd.Q_move (Kd.Q_bound h.q) (fun k hk => by obtain ⟨_, _, _, _, _, cells, hc⟩ := hk; exact (key _ _ _ hc).trans hc.symm)) (fun _ hk => hk.1)
theorem Rw.okm {ok' : Nat → Prop} (h : Rw w0 N A n c g cap b7 b8 S q v8 ok W) (hq : Kd.Q (Kd.int .i64) 3 W w0.heap.size ok' v8 q) : Rw w0 N A n c g cap b7 b8 S q v8 ok' W := ⟨h.bel, h.box, h.x7, h.x8, h.lo8, h.ln, h.seen, hq⟩
/-- One more has been seen. -/
theorem Rw.mark (h : Rw w0 N A n c g cap b7 b8 S q v8 ok W) (v : Int) : Rw w0 N A n c g cap b7 b8 (S.set v.toNat true) q v8 ok (W.setCell ⟨g, v.toNat, none⟩ (.bool true)) := by
  obtain ⟨cells, hgc⟩ := h.gBlk
  have ne : ∀ (k : Nat) (cs : Array Value) (t : TypeId), W.heap[k]? = some (Obj.cells cs t (0, 0)) → t ≠ 4 → k ≠ g := fun k cs t hk ht e => by
    subst e; rw [hk] at hgc; injection hgc with hgc; injection hgc with _ hgc; exact ht hgc
  have hgb : w0.heap.size ≤ g := Kd.R_base h.seen g (by simp [Value.ownBlock])
  exact ⟨h.bel.setCell hgb _, blk_far h.box (ne _ _ _ h.box (by decide)) _, blk_far h.x7 (ne _ _ _ h.x7 (by decide)) _, blk_far h.x8 (ne _ _ _ h.x8 (by decide)) _, h.lo8, by rw [List.length_set]; exact h.ln,
    Kd.R_putn h.seen v true, Kd.Q_set h.q hgc (by intro q hq; simp [Kd.int, Kd.scalar] at hq; omega) _ _⟩
theorem Rw.cellsS (h : Rw w0 N A n c g cap b7 b8 S q v8 ok W) {v : Int} (h0 : 0 ≤ v) (h1 : v < N) : W.cell? ⟨g, v.toNat, none⟩ = some (.bool (rdOf false S v)) ∧ W.frozen? ⟨g, v.toNat, none⟩ = false := Kd.R_celln false h.seen v h0 (by omega)
theorem Rw.cells (h : Rw w0 N A n c g cap b7 b8 S q v8 ok W) : W.cell? ⟨w0.heap.size, 0, none⟩ = some (.int .i64 N) ∧ W.cell? ⟨w0.heap.size, 1, none⟩ = some (.slice A n c) ∧ W.cell? ⟨b7, 0, none⟩ = some (.slice (some ⟨g, 0, none⟩) N.toNat cap) ∧ W.cell? ⟨b8, 0, none⟩ = some v8 ∧ W.frozen? ⟨b8, 0, none⟩ = false :=
  ⟨(blk_cell h.box 0).trans rfl, (blk_cell h.box 1).trans rfl, (blk_cell h.x7 0).trans rfl, (blk_cell h.x8 0).trans rfl, blk_frozen h.x8 0⟩
/-- The queue's box is written. -/
theorem Rw.put8 (h : Rw w0 N A n c g cap b7 b8 S q v8 ok W) {q' : List Int} {v9 : Value} (hq : Kd.Q (Kd.int .i64) 3 W w0.heap.size ok v9 q') : Rw w0 N A n c g cap b7 b8 S q' v9 ok (W.setCell ⟨b8, 0, none⟩ v9) := by
  have ne : ∀ (k : Nat) (cs : Array Value) (t : TypeId), W.heap[k]? = some (Obj.cells cs t (0, 0)) → t ≠ 25 → k ≠ b8 := fun k cs t hk ht e => by
    subst e
    have h8 := h.x8
    rw [hk] at h8; injection h8 with h8; injection h8 with _ h8; exact ht h8
  exact ⟨h.bel.setCell h.lo8 _, blk_far h.box (ne _ _ _ h.box (by decide)) _, blk_far h.x7 (ne _ _ _ h.x7 (by decide)) _, blk_put h.x8 0 _ rfl, h.lo8, h.ln, Kd.R_set h.seen h.x8 (by intro q hq; simp [Kd.bool, Kd.scalar] at hq; omega) _ _, Kd.Q_set hq h.x8 (by intro q hq; simp [Kd.int, Kd.scalar] at hq; omega) _ _⟩
/-- The queue's row has grown; its box is to be written yet. -/
theorem Rw.app (h : Rw w0 N A n c g cap b7 b8 S q v8 ok W) {q' : List Int} {v9 : Value} (hq : Kd.Q (Kd.int .i64) 3 W' w0.heap.size ok v9 q') (hb : Below w0.heap.size w0 W') (hg : W.grownBy W' v8.ownBlock) : Rw w0 N A n c g cap b7 b8 S q' v9 ok (W'.setCell ⟨b8, 0, none⟩ v9) ∧ W'.cell? ⟨b8, 0, none⟩ = some v8 ∧ W'.frozen? ⟨b8, 0, none⟩ = false := by
  have key : ∀ (k : Nat) (cs : Array Value) (t : TypeId), W.heap[k]? = some (Obj.cells cs t (0, 0)) → t ≠ 3 → W'.heap[k]? = some (Obj.cells cs t (0, 0)) := fun k cs t hk ht =>
    (hg.block k (blk_lt hk) (fun e => by
      obtain ⟨cells, hc⟩ := Kd.Q_typed h.q k e.symm
      rw [hk] at hc; injection hc with hc; injection hc with _ hc; exact ht hc)).trans hk
  have h8 := key _ _ _ h.x8 (by decide)
  have ne : ∀ (k : Nat) (cs : Array Value) (t : TypeId), W'.heap[k]? = some (Obj.cells cs t (0, 0)) → t ≠ 25 → k ≠ b8 := fun k cs t hk ht e => by
    subst e
    rw [hk] at h8; injection h8 with h8; injection h8 with _ h8; exact ht h8
  refine ⟨⟨hb.setCell h.lo8 _, blk_far (key _ _ _ h.box (by decide)) (ne _ _ _ (key _ _ _ h.box (by decide)) (by decide)) _, blk_far (key _ _ _ h.x7 (by decide)) (ne _ _ _ (key _ _ _ h.x7 (by decide)) (by decide)) _, blk_put h8 0 _ rfl, h.lo8, h.ln, ?_, ?_⟩, (blk_cell h8 0).trans rfl, blk_frozen h8 0⟩
  · refine Kd.R_set (w := W') ?_ h8 (by intro q hq; simp [Kd.bool, Kd.scalar] at hq; omega) _ _
    refine Kd.R_mono (Kd.R_move (Kd.R_bound h.seen) (fun k hk => ?_)) (fun _ _ => trivial)
    obtain ⟨_, _, _, p, hp, cells, hc⟩ := hk
    exact (key _ _ _ hc (by intro e; subst e; simp [Kd.bool, Kd.scalar] at hp)).trans hc.symm
  · exact Kd.Q_set hq h8 (by intro q hq; simp [Kd.int, Kd.scalar] at hq; omega) _ _
/-- The queue's value stands in a new box. -/
theorem Rw.rebox (h : Rw w0 N A n c g cap b7 b8 S q v8 ok W) : Rw w0 N A n c g cap b7 W.heap.size S q v8 ok (W.alloc (.cells #[v8] 25)) := by
  have h' := h.alloc (.cells #[v8] 25)
  exact ⟨h'.bel, h'.box, h'.x7, heap_alloc_new _ _, h.bel.size, h'.ln, h'.seen, h'.q⟩
end

theorem Rw.start {w0 w2 : World} {N : Int} {A : Option Addr} {n c g cap : Nat} {S : List Bool} (hb : Below w0.heap.size w0 w2) (hbox : w2.heap[w0.heap.size]? = some (.cells #[.int .i64 N, .slice A n c] 24)) (hs : Kd.R Kd.bool 4 w2 w0.heap.size (fun _ => True) (.slice (some ⟨g, 0, none⟩) N.toNat cap) S) (ln : S.length = N.toNat) (s v : Int) :
    Rw w0 N A n c g cap w2.heap.size (w2.heap.size + 1 + 1) (S.set v.toNat true) [s] (.slice (some ⟨w2.heap.size + 1, 0, none⟩) 1 1) (fun _ => True) ((((w2.alloc (.cells #[.slice (some ⟨g, 0, none⟩) N.toNat cap] 26)).setCell ⟨g, v.toNat, none⟩ (.bool true)).alloc (.cells #[.int .i64 s] 3)).alloc (.cells #[.slice (some ⟨w2.heap.size + 1, 0, none⟩) 1 1] 25)) := by
  obtain ⟨cells, hgc⟩ := Kd.R_typed hs g (by simp [Value.ownBlock])
  have hgb : w0.heap.size ≤ g := Kd.R_base hs g (by simp [Value.ownBlock])
  have hgl := blk_lt hgc
  have hbl := blk_lt hbox
  have hne : w0.heap.size ≠ g := fun e => by rw [e] at hbox; rw [hbox] at hgc; injection hgc with hgc; injection hgc with _ hgc; cases hgc
  have a1 := hb.alloc hb.size (.cells #[.slice (some ⟨g, 0, none⟩) N.toNat cap] 26)
  have a2 := (Below.heap_alloc w2 (.cells #[.slice (some ⟨g, 0, none⟩) N.toNat cap] 26) _ hbl).trans hbox
  have a3 := heap_alloc_new w2 (.cells #[.slice (some ⟨g, 0, none⟩) N.toNat cap] 26)
  have a4 := Kd.R_below hs ((Below.refl w2.heap.size w2).alloc (Nat.le_refl _) (.cells #[.slice (some ⟨g, 0, none⟩) N.toNat cap] 26))
  have asz : (w2.alloc (.cells #[.slice (some ⟨g, 0, none⟩) N.toNat cap] 26)).heap.size = w2.heap.size + 1 := by simp
  generalize w2.alloc (.cells #[.slice (some ⟨g, 0, none⟩) N.toNat cap] 26) = wa at a1 a2 a3 a4 asz ⊢
  have b1 := a1.setCell (p := ⟨g, v.toNat, none⟩) hgb (.bool true)
  have b2 := blk_far a2 (p := ⟨g, v.toNat, none⟩) hne (.bool true)
  have b3 := blk_far a3 (p := ⟨g, v.toNat, none⟩) (show w2.heap.size ≠ g by omega) (.bool true)
  have b4 := Kd.R_putn a4 v true
  have bsz : (wa.setCell ⟨g, v.toNat, none⟩ (.bool true)).heap.size = w2.heap.size + 1 := by simp [World.setCell, asz]
  have e0 : (Value.bool true) = (fun b : Bool => Value.bool b) true := rfl
  generalize hwb : wa.setCell ⟨g, v.toNat, none⟩ (.bool true) = wb at b1 b2 b3 bsz ⊢
  have b4 : Kd.R Kd.bool 4 wb w0.heap.size (fun _ => True) (.slice (some ⟨g, 0, none⟩) N.toNat cap) (S.set v.toNat true) := by rw [← hwb]; exact b4
  have c1 := b1.alloc b1.size (.cells #[.int .i64 s] 3)
  have c2 := (Below.heap_alloc wb (.cells #[.int .i64 s] 3) _ (blk_lt b2)).trans b2
  have c3 := (Below.heap_alloc wb (.cells #[.int .i64 s] 3) _ (blk_lt b3)).trans b3
  have c4 := Kd.R_below b4 ((Below.refl wb.heap.size wb).alloc (Nat.le_refl _) (.cells #[.int .i64 s] 3))
  have c5 := heap_alloc_new wb (.cells #[.int .i64 s] 3)
  have csz : (wb.alloc (.cells #[.int .i64 s] 3)).heap.size = w2.heap.size + 1 + 1 := by simp [bsz]
  rw [bsz] at c5
  generalize wb.alloc (.cells #[.int .i64 s] 3) = wc at c1 c2 c3 c4 c5 csz ⊢
  have hq : Kd.Q (Kd.int .i64) 3 wc w0.heap.size (fun _ => True) (.slice (some ⟨w2.heap.size + 1, 0, none⟩) 1 1) [s] := by
    refine Kd.Q_of_R ⟨fun _ _ => trivial, [.int .i64 s], ⟨rfl, .inr ⟨w2.heap.size + 1, 1, #[.int .i64 s], rfl, by have := hb.size; omega, c5, Nat.le_refl _, by decide, rfl, rfl⟩⟩, rfl, fun j p hj => ?_⟩
    match j, hj with
    | 0, hj =>
      simp at hj
      subst hj
      rfl
  have hd := (Below.refl wc.heap.size wc).alloc (Nat.le_refl _) (.cells #[.slice (some ⟨w2.heap.size + 1, 0, none⟩) 1 1] 25)
  refine ⟨c1.alloc c1.size _, (Below.heap_alloc wc _ _ (blk_lt c2)).trans c2, (Below.heap_alloc wc _ _ (blk_lt c3)).trans c3, ?_, by have := hb.size; omega, by rw [List.length_set]; exact ln, Kd.R_below c4 hd, Kd.Q_below hq hd⟩
  rw [← csz]
  exact heap_alloc_new wc _

/-- The marks of the loops that are over: each is shut. -/
theorem leave_marks {F : Fence} {n : Nat} {P : Program} {fn : Func} {tmps : Array Value} {R : Ending → World → Prop} (n0 : Nat) (J : World → Prop) (v : Value) (hJ : ∀ (W : World) (D : Nat), J W → n0 ≤ D → W.heap[D]? = some (.deferred (some [])) → J (W.putObj D (.deferred none)))
    (hres : ∀ W, (results fn tmps).run P W = .ok v W) (hR : ∀ W, J W → R (.returned v) W) : ∀ (ds : List Nat) (W : World), ds.Nodup → (∀ D ∈ ds, n0 ≤ D ∧ W.heap[D]? = some (.deferred (some []))) → J W → LeavesInM F n P fn tmps R (ds.map fun D => { target := .collected D, args := #[] }) .returning W
  | [], W, _, _, h => ⟨v, hres W, hR W h⟩
  | D :: ds, W, hn, hd, h => by
    rw [List.nodup_cons] at hn
    have h1 := hd D (List.mem_cons_self)
    refine ⟨by simp, .inl ⟨D, W.putObj D (.deferred none), rfl, run_takeDeferred h1.2, ?_⟩⟩
    refine leave_marks n0 J v hJ hres hR ds _ hn.2 (fun D' hD' => ?_) (hJ W D h h1.1 h1.2)
    have h2 := hd D' (List.mem_cons_of_mem _ hD')
    exact ⟨h2.1, (World.putObj_heap_other (fun e => hn.1 (by rw [← e]; exact hD'))).trans h2.2⟩
theorem rd_drop_ (q : List Int) (k : Nat) : rd (q.drop k) 0 = rd q k := by
  unfold rd
  rw [Int.toNat_natCast, List.getD_eq_getElem?_getD, List.getD_eq_getElem?_getD, List.getElem?_drop]; rfl
theorem Nx.below {w0 : World} {Bn : Nat} {N : Int} {A : Option Addr} {n c : Nat} {A1 : Option Addr} {n1 c1 : Nat} {u : Int} {W W' : World} (h : Nx w0 Bn N A n c A1 n1 c1 u W) (hb : Below W.heap.size W W') : Nx w0 Bn N A n c A1 n1 c1 u W' :=
  ⟨h.bel.trans (hb.mono h.bel.size), (hb.block _ (blk_lt h.b0)).trans h.b0, (hb.block _ (blk_lt h.b1)).trans h.b1, (hb.block _ (blk_lt h.b2)).trans h.b2⟩
theorem nx_new {w0 W : World} (hb : Below w0.heap.size w0 W) (N : Int) (A : Option Addr) (n c : Nat) (A1 : Option Addr) (n1 c1 : Nat) (u : Int) :
    Nx w0 W.heap.size N A n c A1 n1 c1 u (((W.alloc (.cells #[.int .i64 N, .slice A n c] 24)).alloc (.cells #[.slice A1 n1 c1] 25)).alloc (.cells #[.int .i64 u] 3)) := by
  have s1 : (W.alloc (.cells #[.int .i64 N, .slice A n c] 24)).heap.size = W.heap.size + 1 := by simp
  have s2 : ((W.alloc (.cells #[.int .i64 N, .slice A n c] 24)).alloc (.cells #[.slice A1 n1 c1] 25)).heap.size = W.heap.size + 2 := by simp
  have h1 := heap_alloc_new W (.cells #[.int .i64 N, .slice A n c] 24)
  have h2 := heap_alloc_new (W.alloc (.cells #[.int .i64 N, .slice A n c] 24)) (.cells #[.slice A1 n1 c1] 25)
  have h3 := heap_alloc_new ((W.alloc (.cells #[.int .i64 N, .slice A n c] 24)).alloc (.cells #[.slice A1 n1 c1] 25)) (.cells #[.int .i64 u] 3)
  rw [s1] at h2
  rw [s2] at h3
  exact ⟨((hb.alloc hb.size _).alloc (by have := hb.size; omega) _).alloc (by have := hb.size; omega) _, (Below.heap_alloc _ _ _ (by omega)).trans ((Below.heap_alloc _ _ _ (by omega)).trans h1), (Below.heap_alloc _ _ _ (by omega)).trans h2, h3⟩
section
variable {P : Program} {ops : Array Oper} {rest : List Oper} {o : Oper} {a : Act} {Q' : Exit → Act → World → Prop} {α : Type} {F : Fence} {nF : Nat}
theorem wpListIn_Q_append (d : Kd α) {w0 W : World} (base : Nat) (hgd : o.guard = none) (s x : Operand) (t e : TypeId) (z : Value) (bytes : Nat)
    (ho : o.op = .call { callee := .builtin .append, args := #[s, x], argTypes := #[t, t] })
    (ht : P.underlying t = some (.slice e)) (hinfo : (P.info? e).map (fun i => (i.zero, i.size, i.bytes)) = some (some z, d.sz, bytes)) (hz : z.cells.size = d.sz) (hs0 : 0 < d.sz) (hb0 : 0 < bytes)
    (v : Value) (xs : List α) (p : α) (cs : List Value) (ok okp : Nat → Prop) (hs : a.eval s = v) (hx : a.eval x = .slice (some ⟨W.heap.size, 0, none⟩) 1 1) (hp : d.M W base okp p cs) (hokp : ∀ k, okp k → ok k ∧ some k ≠ v.ownBlock) (hfresh : ∀ k, W.heap.size ≤ k → ok k)
    (HO : d.Q e W base ok v xs) (HB : Below base w0 W) (hbase : base ≤ W.heap.size) (hl : (xs.length + 1) * bytes ≤ 140737488355328)
    (h : ∀ v1 w1, d.Q e w1 base ok v1 (xs ++ [p]) → Below base w0 w1 → W.grownBy w1 v.ownBlock → wpListIn F nF P ops Q' rest (a.put o.dst v1) w1) :
    wpListIn F nF P ops Q' (o :: rest) a (W.alloc (.cells cs.toArray e)) := by
  obtain ⟨v1, w1, hr, h1, h2, h3, h4⟩ := Kd.Q_run (P := P) d base t o.type e z bytes ht hinfo hz hs0 hb0 v xs p cs ok okp hp hokp hfresh HO HB hbase hl
  refine wpListIn_plain hgd fun K hK => ?_
  unfold Oper.wpIn
  refine ⟨by simp [Oper.about, ho, resolve, Target.leads, Sem.run_pure], ?_⟩
  rw [Oper.semAt_plain F _ _ (by rw [ho]; intro c hc'; cases hc')]
  unfold execOp
  simp only [ho, resolve, invoke, builtin, Sem.run_bind, Sem.run_pure, Result.andThen_ok, List.map_toArray, List.map_cons, List.map_nil, hs, hx, hr]
  exact hK _ _ (h v1 w1 h1 h2 h3)
end
theorem drop_app2_ {q : List Int} {k : Nat} (h : k ≤ q.length) (v : Int) : (q ++ [v]).drop k = q.drop k ++ [v] := by
  rw [List.drop_append, show k - q.length = 0 by omega]; rfl
def ReachPost (r : List Bool) (w : World) (e : Ending) (w' : World) : Prop := ∃ v0_ : Value, e = .returned (v0_) ∧ Kd.R Kd.bool 4 w' w.heap.size (fun _ => True) v0_ r ∧ Below w.heap.size w w'

set_option maxHeartbeats 4000000 in
set_option maxRecDepth 100000 in
theorem reach_walk (N : Int) (A : Option Addr) (c : Nat) (l : List S41) (A1 : Option Addr) (c1 : Nat) (F : List Int) (s : Int) (k : Nat) (w : World) (hr : Kd.C k41 w A l.length l) (hc : l.length ≤ c) (hr1 : Kd.C (Kd.int .i64) w A1 F.length F) (hc1 : F.length ≤ c1)
    (hG : graph_fits.f k N l F = some true) (hs : wth s 0 (N - 1) = true) :
    Calls Try.prog 20 #[.agg #[.int .i64 N, .slice A l.length c], .slice A1 F.length c1, .int .i64 s] w (ReachPost (seenL N (bfs l F s N)) w) := by
  have hb0 : Below w.heap.size w (w.alloc (.cells #[.int .i64 N, .slice A l.length c] 24)) := (Below.refl _ _).alloc (Nat.le_refl _) _
  have hgood := graph_fits.calls k N A c l A1 c1 F true (w.alloc (.cells #[.int .i64 N, .slice A l.length c] 24)) (Kd.C_below hr hb0) hc (Kd.C_below hr1 hb0) hc1 hG
  obtain ⟨n0, n1, hll, hE, hl⟩ := fits_seen hG
  have hsb := (wth_iff s 0 (N - 1)).1 hs
  have HB0 := Lib.hid hb0
  have HR := Lib.hid hr
  have HR1 := Lib.hid hr1
  have HE := Lib.hid hE
  have HL := Lib.hid hl
  have hbox0 : (w.alloc (.cells #[.int .i64 N, .slice A l.length c] 24)).heap[w.heap.size]? = some (.cells #[.int .i64 N, .slice A l.length c] 24) := heap_alloc_new _ _
  have HBox0 := Lib.hid hbox0
  have hwN : wrap64 (N - 1) = N - 1 := w64 (by omega) (by omega)
  clear hb0 hr hr1 hE hl hG hbox0
  refine (callsIn_wide (n := 9)).1 ?_
  refine callsIn_of_wp_marks Try.func20 rfl trivial ?_ rfl
  simp only [Try.ntmps20, List.size_toArray, List.length_cons, List.length_nil, Nat.reduceAdd, Nat.reduceSub, Array.replicate_succ, Array.replicate_zero, List.push_toArray, List.append_toArray, List.nil_append, List.cons_append]
  refine wpIn_wide.2 ?_
  go_wp2_with (first
    | (go_at_call 44; refine hgood.mono ?_; rintro e w1 ⟨rfl, hb1⟩; have HB1 := Lib.hid (HB0.out.trans (hb1.mono HB0.out.size)); have hbx := (hb1.block w.heap.size (by simp)).trans HBox0.out; have hcx0 : w1.cell? ⟨w.heap.size, 0, none⟩ = some (.int .i64 N) := (by simp [World.cell?, hbx]); have HBx := Lib.hid hbx; clear hb1 hbx)
    | (go_at_call 41; have hw_ := wth_any s 0 (N - 1) w1; rw [hs] at hw_; refine hw_.mono ?_; clear hw_; rintro e w' ⟨rfl, rfl⟩)
    | (refine Kd.R_make (w0 := w) Kd.bool w.heap.size 4 rfl (N := 25) rfl 26 _ _ rfl N rfl rfl Try.underlying26 (.bool false) 1 info4 rfl (by decide) (by decide) false (ok := fun _ => True) (okp := fun _ => True) rfl (fun _ hk => hk) trivial (by omega) (by omega) HB1.out HB1.out.size ?_; intro v7 w2 ho hb hg hnew; have HB2 := Lib.hid hb; have HBx2 := Lib.hid ((hg.block w.heap.size (Array.getElem?_eq_some_iff.1 HBx.out).1 (by simp)).trans HBx.out); obtain ⟨g, cap, ev, hgb, hgl, hgc⟩ := Kd.R_form ho (by simp; omega); rw [List.length_replicate] at ev; subst ev; have HS := Lib.hid ho; have hcel := Kd.R_celln false (Kd.R_below ho (below_alloc (Below.refl _ _) (.cells #[.slice (some ⟨g, 0, none⟩) N.toNat cap] 26))) s (by omega) (by omega); obtain ⟨hce0, hce1⟩ := hcel; have HGC := Lib.hid (And.intro hgb (And.intro hgl hgc)); clear ho hb hg hnew hgb hgl hgc))
  have hb7 : Hid (w.heap.size ≤ w2.heap.size) := Lib.hid HB2.out.size
  have HSa : Hid (Rw w N A l.length c g cap w2.heap.size (w2.heap.size + 1 + 1) (seenL N (bfsK l F s 0)) ((bfsK l F s 0).1.drop 0) (.slice (some ⟨w2.heap.size + 1, 0, none⟩) 1 1) (fun _ => True) ((((w2.alloc (.cells #[.slice (some ⟨g, 0, none⟩) N.toNat cap] 26)).setCell ⟨g, s.toNat, none⟩ (.bool true)).alloc (.cells #[.int .i64 s] 3)).alloc (.cells #[.slice (some ⟨w2.heap.size + 1, 0, none⟩) 1 1] 25))) := by
    have h := Rw.start HB2.out HBx2.out HS.out (by simp) s s
    have e : (List.replicate N.toNat false).set s.toNat true = seenL N (bfsK l F s 0) := by
      apply List.ext_getElem
      · simp [seenL]
      · intro k a1 a2
        have hk : k < N.toNat := by simpa [seenL] using a2
        rw [List.getElem_set]
        simp only [seenL, List.getElem_map, List.getElem_range, List.getElem_replicate]
        show _ = Option.isSome (if (k : Int) = s then some (⟨0, 0, false⟩ : S66) else none)
        by_cases c : s.toNat = k
        · rw [if_pos c, if_pos (by omega)]; rfl
        · rw [if_neg c, if_neg (by omega)]; rfl
    rw [e] at h
    exact Lib.hid h
  generalize ((((w2.alloc (.cells #[.slice (some ⟨g, 0, none⟩) N.toNat cap] 26)).setCell ⟨g, s.toNat, none⟩ (.bool true)).alloc (.cells #[.int .i64 s] 3)).alloc (.cells #[.slice (some ⟨w2.heap.size + 1, 0, none⟩) 1 1] 25)) = w3 at HSa ⊢
  generalize w2.heap.size + 1 + 1 = b8 at HSa ⊢
  generalize w2.heap.size + 1 = bq at HSa ⊢
  generalize w2.heap.size = b7 at HSa hb7 ⊢
  clear HS HB2 HBx2 HB1 HBx HGC hce0 hce1 hcx0 hgood HB0 HBox0
  refine (wpIn_wide (n := 9)).1 ?_
  refine wpIn_loop (fun a_ w_ => ∃ (k : Nat) (ds : List Nat) (b8 : Nat) (v8 : Value), a_ = { tmps := #[.agg #[.int .i64 N, .slice A l.length c], .slice A1 F.length c1, .int .i64 s, .pointer (some ⟨w.heap.size, 0, none⟩), a_.tmps.getD 4 undef, a_.tmps.getD 5 undef, .slice none 0 0, .pointer (some ⟨b7, 0, none⟩), .pointer (some ⟨b8, 0, none⟩), a_.tmps.getD 9 undef, a_.tmps.getD 10 undef, a_.tmps.getD 11 undef, a_.tmps.getD 12 undef, a_.tmps.getD 13 undef, a_.tmps.getD 14 undef, a_.tmps.getD 15 undef, a_.tmps.getD 16 undef, a_.tmps.getD 17 undef, a_.tmps.getD 18 undef, a_.tmps.getD 19 undef, a_.tmps.getD 20 undef, a_.tmps.getD 21 undef, a_.tmps.getD 22 undef, a_.tmps.getD 23 undef, a_.tmps.getD 24 undef, a_.tmps.getD 25 undef, a_.tmps.getD 26 undef, a_.tmps.getD 27 undef, a_.tmps.getD 28 undef, a_.tmps.getD 29 undef, a_.tmps.getD 30 undef, a_.tmps.getD 31 undef, a_.tmps.getD 32 undef, a_.tmps.getD 33 undef, a_.tmps.getD 34 undef, a_.tmps.getD 35 undef, a_.tmps.getD 36 undef, a_.tmps.getD 37 undef, a_.tmps.getD 38 undef, a_.tmps.getD 39 undef, a_.tmps.getD 40 undef, a_.tmps.getD 41 undef, a_.tmps.getD 42 undef, a_.tmps.getD 43 undef, a_.tmps.getD 44 undef, a_.tmps.getD 45 undef, a_.tmps.getD 46 undef, a_.tmps.getD 47 undef, a_.tmps.getD 48 undef, a_.tmps.getD 49 undef, a_.tmps.getD 50 undef, a_.tmps.getD 51 undef, a_.tmps.getD 52 undef, a_.tmps.getD 53 undef, a_.tmps.getD 54 undef, a_.tmps.getD 55 undef, a_.tmps.getD 56 undef, a_.tmps.getD 57 undef], defers := ds.map fun D => { target := .collected D, args := #[] } } ∧ ds.length = k ∧ Hid (k ≤ (bfsK l F s k).1.length) ∧ Hid ds.Nodup ∧ Hid (∀ D ∈ ds, w.heap.size ≤ D ∧ w_.heap[D]? = some (.deferred (some []))) ∧ Hid (Rw w N A l.length c g cap b7 b8 (seenL N (bfsK l F s k)) ((bfsK l F s k).1.drop k) v8 (fun _ => True) w_)) (fun a_ _ => 65 - a_.defers.length) ?start ?round
  case start => exact ⟨0, [], b8, _, rfl, rfl, Lib.hid (Nat.zero_le _), Lib.hid List.nodup_nil, Lib.hid (fun D hD => by cases hD), HSa⟩
  case round =>
    clear HSa
    clear w3 bq b8
    rintro a_ wr ⟨k, ds, b8, v8, ha, hdl, HK, HN, HD, HS⟩
    generalize a_.tmps.getD 4 undef = y4 at ha
    generalize a_.tmps.getD 5 undef = y5 at ha
    generalize a_.tmps.getD 9 undef = y9 at ha
    generalize a_.tmps.getD 10 undef = y10 at ha
    generalize a_.tmps.getD 11 undef = y11 at ha
    generalize a_.tmps.getD 12 undef = y12 at ha
    generalize a_.tmps.getD 13 undef = y13 at ha
    generalize a_.tmps.getD 14 undef = y14 at ha
    generalize a_.tmps.getD 15 undef = y15 at ha
    generalize a_.tmps.getD 16 undef = y16 at ha
    generalize a_.tmps.getD 17 undef = y17 at ha
    generalize a_.tmps.getD 18 undef = y18 at ha
    generalize a_.tmps.getD 19 undef = y19 at ha
    generalize a_.tmps.getD 20 undef = y20 at ha
    generalize a_.tmps.getD 21 undef = y21 at ha
    generalize a_.tmps.getD 22 undef = y22 at ha
    generalize a_.tmps.getD 23 undef = y23 at ha
    generalize a_.tmps.getD 24 undef = y24 at ha
    generalize a_.tmps.getD 25 undef = y25 at ha
    generalize a_.tmps.getD 26 undef = y26 at ha
    generalize a_.tmps.getD 27 undef = y27 at ha
    generalize a_.tmps.getD 28 undef = y28 at ha
    generalize a_.tmps.getD 29 undef = y29 at ha
    generalize a_.tmps.getD 30 undef = y30 at ha
    generalize a_.tmps.getD 31 undef = y31 at ha
    generalize a_.tmps.getD 32 undef = y32 at ha
    generalize a_.tmps.getD 33 undef = y33 at ha
    generalize a_.tmps.getD 34 undef = y34 at ha
    generalize a_.tmps.getD 35 undef = y35 at ha
    generalize a_.tmps.getD 36 undef = y36 at ha
    generalize a_.tmps.getD 37 undef = y37 at ha
    generalize a_.tmps.getD 38 undef = y38 at ha
    generalize a_.tmps.getD 39 undef = y39 at ha
    generalize a_.tmps.getD 40 undef = y40 at ha
    generalize a_.tmps.getD 41 undef = y41 at ha
    generalize a_.tmps.getD 42 undef = y42 at ha
    generalize a_.tmps.getD 43 undef = y43 at ha
    generalize a_.tmps.getD 44 undef = y44 at ha
    generalize a_.tmps.getD 45 undef = y45 at ha
    generalize a_.tmps.getD 46 undef = y46 at ha
    generalize a_.tmps.getD 47 undef = y47 at ha
    generalize a_.tmps.getD 48 undef = y48 at ha
    generalize a_.tmps.getD 49 undef = y49 at ha
    generalize a_.tmps.getD 50 undef = y50 at ha
    generalize a_.tmps.getD 51 undef = y51 at ha
    generalize a_.tmps.getD 52 undef = y52 at ha
    generalize a_.tmps.getD 53 undef = y53 at ha
    generalize a_.tmps.getD 54 undef = y54 at ha
    generalize a_.tmps.getD 55 undef = y55 at ha
    generalize a_.tmps.getD 56 undef = y56 at ha
    generalize a_.tmps.getD 57 undef = y57 at ha
    subst ha
    obtain ⟨st, HST⟩ : ∃ st, Hid (bfsK l F s k = st) := ⟨_, rfl⟩
    have HI' : Hid (BInv l F s N st) := Lib.hid (by rw [← HST.out]; exact bfsK_inv HE.out ⟨hsb.1, by omega⟩ k)
    rw [HST.out] at HK HS
    have HLe := Lib.hid HI'.out.le
    obtain ⟨qs, HQS⟩ : ∃ qs, Hid (st.1.drop k = qs) := ⟨_, rfl⟩
    rw [HQS.out] at HS
    have hql : Hid (qs.length = st.1.length - k) := Lib.hid (by rw [← HQS.out, List.length_drop])
    obtain ⟨A8, c8, e8, hc8⟩ := Kd.Q_slice HS.out.q
    subst e8
    have hq64 : qs.length ≤ 64 := by have := hql.out; have := HLe.out; omega
    obtain ⟨x0, x1, x2, x3, x4⟩ := HS.out.cells
    by_cases hlt : 0 < qs.length
    · have hkl : k < st.1.length := by have := hql.out; omega
      obtain ⟨u, HU⟩ : ∃ u, Hid (rd st.1 k = u) := ⟨_, rfl⟩
      obtain ⟨ad8, rfl, hx8⟩ := Kd.at_int (Kd.Q_reads' HS.out.q).2.2 0 (by omega) (by omega)
      rw [show rd qs 0 = u by rw [← HQS.out, rd_drop_, HU.out]] at hx8
      have hx8' : wr.cell? ad8 = some (.int .i64 u) := by simpa [Addr.add] using hx8
      clear hx8
      have hcut := cut_from (P := Try.prog) 25 3 .i64 Try.underlying25 (show Try.prog.info? 3 = some Try.t3 by kernel_rfl) 1 rfl (some ad8) qs.length c8 1 (by omega) (by omega)
      have HQd := Lib.hid (Kd.Q_drop HS.out.q (k := 1) (by omega))
      obtain ⟨A10, HA10⟩ : ∃ a, Hid ((if c8 = (1 : Int).toNat then (some ad8) else (some ad8).map (·.add ((1 : Int).toNat * 1))) = a) := ⟨_, rfl⟩
      rw [HA10.out] at hcut
      have HQ9 : Kd.Q (Kd.int .i64) 3 wr w.heap.size (fun _ => True) (.slice A10 (qs.length - 1) (c8 - 1)) (qs.drop 1) := by rw [← HA10.out]; exact HQd.out
      have HS2 := Lib.hid (HS.out.put8 HQ9)
      clear HQ9 HQd
      obtain ⟨z0, z1, z2, z3, z4⟩ := HS2.out.cells
      have hk65 : k < 65 := by have := HLe.out; omega
      refine wpIn_wide.2 ?_
      go_wp2_with (go_at_call 45; refine (next_in 9 N A l.length c A1 F.length c1 u _).mono ?_; rintro e w9 ⟨rfl, rfl⟩)
      have hbs : (wr.setCell ⟨b8, 0, none⟩ (.slice A10 (qs.length - 1) (c8 - 1))).heap.size = wr.heap.size := by simp [World.setCell]
      have HS3 : Hid (Rw w N A l.length c g cap b7 b8 (seenL N st) (qs.drop 1) (.slice A10 (qs.length - 1) (c8 - 1)) (fun k => k < wr.heap.size ∨ wr.heap.size + 3 ≤ k) (wr.setCell ⟨b8, 0, none⟩ (.slice A10 (qs.length - 1) (c8 - 1)))) := Lib.hid (HS2.out.okm (Kd.Q_mono (Kd.Q_bound HS2.out.q) (fun k hk => .inl (by have := hk.2.2.1; omega))))
      have HDl : Hid (∀ D ∈ ds, D < wr.heap.size ∧ w.heap.size ≤ D ∧ (wr.setCell ⟨b8, 0, none⟩ (.slice A10 (qs.length - 1) (c8 - 1))).heap[D]? = some (.deferred (some []))) := Lib.hid (fun D hD => by
        obtain ⟨h1, h2⟩ := HD.out D hD
        refine ⟨(Array.getElem?_eq_some_iff.1 h2).1, h1, (Below.heap_setCell _ _ _ _ (fun e => ?_)).trans h2⟩
        have e : D = b8 := e
        rw [e, HS.out.x8] at h2; cases h2)
      have hgl : Hid (g < wr.heap.size ∧ b8 < wr.heap.size) := Lib.hid ⟨by obtain ⟨_, hg⟩ := HS.out.gBlk; exact blk_lt hg, blk_lt HS.out.x8⟩
      clear HS2 HS HD z0 z1 z2 z3 z4 x0 x1 x2 x3 x4 hx8' hcut
      have HX9 : Hid (Nx w wr.heap.size N A l.length c A1 F.length c1 u ((((wr.setCell ⟨b8, 0, none⟩ (.slice A10 (qs.length - 1) (c8 - 1))).alloc (.cells #[.int .i64 N, .slice A l.length c] 24)).alloc (.cells #[.slice A1 F.length c1] 25)).alloc (.cells #[.int .i64 u] 3))) := by
        have h := nx_new (w0 := w) (W := wr.setCell ⟨b8, 0, none⟩ (.slice A10 (qs.length - 1) (c8 - 1))) HS3.out.bel N A l.length c A1 F.length c1 u
        rw [hbs] at h
        exact Lib.hid h
      have HS4 := Lib.hid (((HS3.out.alloc (.cells #[.int .i64 N, .slice A l.length c] 24)).alloc (.cells #[.slice A1 F.length c1] 25)).alloc (.cells #[.int .i64 u] 3))
      have HD4 : Hid (∀ D ∈ ds, D < wr.heap.size ∧ w.heap.size ≤ D ∧ ((((wr.setCell ⟨b8, 0, none⟩ (.slice A10 (qs.length - 1) (c8 - 1))).alloc (.cells #[.int .i64 N, .slice A l.length c] 24)).alloc (.cells #[.slice A1 F.length c1] 25)).alloc (.cells #[.int .i64 u] 3)).heap[D]? = some (.deferred (some []))) := Lib.hid (fun D hD => by
        obtain ⟨h1, h2, h3⟩ := HDl.out D hD
        refine ⟨h1, h2, ?_⟩
        rw [Below.heap_alloc _ _ _ (by simp [hbs]; omega), Below.heap_alloc _ _ _ (by simp [hbs]; omega), Below.heap_alloc _ _ _ (by simp [hbs]; omega)]
        exact h3)
      have hsz9 : ((((wr.setCell ⟨b8, 0, none⟩ (.slice A10 (qs.length - 1) (c8 - 1))).alloc (.cells #[.int .i64 N, .slice A l.length c] 24)).alloc (.cells #[.slice A1 F.length c1] 25)).alloc (.cells #[.int .i64 u] 3)).heap.size = wr.heap.size + 3 := by simp [hbs]
      have hwsz : Hid (w.heap.size ≤ wr.heap.size) := Lib.hid (by have := HS3.out.bel.size; omega)
      clear HS3 HDl hbs
      generalize ((((wr.setCell ⟨b8, 0, none⟩ (.slice A10 (qs.length - 1) (c8 - 1))).alloc (.cells #[.int .i64 N, .slice A l.length c] 24)).alloc (.cells #[.slice A1 F.length c1] 25)).alloc (.cells #[.int .i64 u] 3)) = w9 at HX9 HS4 HD4 hsz9 ⊢
      generalize wr.heap.size = Bn at HX9 HS4 HD4 hgl hsz9 hwsz ⊢
      clear wr
      refine (wpIn_wide (n := 9)).1 ?_
      refine wpIn_rangeFunc_ownG (F := Fence.wide) rfl (by decide) (gf := 58) (lb := #[.pointer (some ⟨Bn, 0, none⟩), .pointer (some ⟨Bn + 2, 0, none⟩), .pointer (some ⟨Bn + 1, 0, none⟩)]) rfl trivial (enters_of Try.func58 (by kernel_rfl) rfl)
        (encs := fun x : Cd N => #[Value.int .i64 x.1.1]) (Kp := Kq w.heap.size Bn) (S := fun ys : List (Cd N) => ys.map (·.1) = cdsK l F u l.length) (Sp := fun _ => True) (N := l.length) (w0 := w9)
        (fun L J Jx W hW hJ hJx hY h0 => next1_in (9 - 1) (by decide) L Bn w N u A c l A1 c1 F HR.out HR1.out HL.out HE.out hll J Jx W hJ hwsz.out hY (HX9.out.below hW) h0)
        (fun h k => h.trans k) (fun W L o o' hL h1 h2 h3 => ⟨belowK_b (w := w9) HX9.out.bel.size W L o o' hL h1 h2 h3, fun k hk1 hk2 => World.putObj_heap_other (by omega)⟩) (Below.refl _ _) (fun _ => rfl)
        (fun pre W => (∃ v9, Rw w N A l.length c g cap b7 b8 (seenL N ((pre.map (·.1)).foldl (visitC u) st)) (((pre.map (·.1)).foldl (visitC u) st).1.drop (k + 1)) v9 (fun k => k < Bn ∨ Bn + 3 ≤ k) W) ∧ (∀ D ∈ ds, W.heap[D]? = some (.deferred (some []))) ∧ Bn + 3 ≤ W.heap.size)
        (fun _ _ _ => False) (fun pre W W' row hs hg hr => ?own) (fun _ _ _ _ _ hs _ _ => hs) ?init
        (fun x => { tmps := #[.agg #[.int .i64 N, .slice A l.length c], .slice A1 F.length c1, .int .i64 s, .pointer (some ⟨w.heap.size, 0, none⟩), y4, y5, .slice none 0 0, .pointer (some ⟨b7, 0, none⟩), .pointer (some ⟨b8, 0, none⟩), .int .i64 u, .int .i64 x.1.1, y11, y12, y13, y14, y15, y16, y17, y18, y19, y20, y21, y22, y23, y24, y25, y26, y27, y28, y29, y30, .slice (some ad8) qs.length c8, .int .i64 qs.length, .bool true, .slice (some ad8) qs.length c8, .pointer (some ad8), .int .i64 u, .slice (some ad8) qs.length c8, .slice A10 (qs.length - 1) (c8 - 1), .agg #[.int .i64 N, .slice A l.length c], .slice A1 F.length c1, .int .i64 u, .func (.func 58) #[] #[.pointer (some ⟨Bn, 0, none⟩), .pointer (some ⟨Bn + 2, 0, none⟩), .pointer (some ⟨Bn + 1, 0, none⟩)], .int .i64 x.1.1, y44, y45, y46, y47, y48, y49, y50, y51, y52, y53, y54, y55, y56, y57], defers := [] }) ?assign ?body ?done ?stop
      case own =>
        obtain ⟨⟨v9, h1⟩, h2, h3⟩ := hs
        refine ⟨⟨v9, h1.own hg (fun r e => ⟨by have := (hr r e).1; have := hwsz.out; omega, (hr r e).2⟩)⟩, fun D hD => ?_, Nat.le_trans h3 hg.size⟩
        have hl := (HD4.out D hD).1
        exact (hg.block D (by omega) (fun e => by have := (hr D e.symm).1; omega)).trans (h2 D hD)
      case init =>
        refine ⟨⟨.slice A10 (qs.length - 1) (c8 - 1), ?_⟩, fun D hD => (HD4.out D hD).2.2, by omega⟩
        have h := HS4.out
        have e : qs.drop 1 = st.1.drop (k + 1) := by rw [← HQS.out, List.drop_drop]
        rw [e] at h
        exact h
      case assign =>
        intro L x W K hK
        gi_wp2
        exact hK
      case body =>
        rintro L pre x W ⟨⟨v9, h1⟩, h2, h3⟩ hlt
        obtain ⟨sp, HSP⟩ : ∃ sp, Hid ((pre.map (·.1)).foldl (visitC u) st = sp) := ⟨_, rfl⟩
        rw [HSP.out] at h1
        obtain ⟨qs2, HQS2⟩ : ∃ q, Hid (sp.1.drop (k + 1) = q) := ⟨_, rfl⟩
        rw [HQS2.out] at h1
        obtain ⟨A9, c9, e9, hc9⟩ := Kd.Q_slice h1.q
        subst e9
        obtain ⟨⟨v, iE, b⟩, hx⟩ := x
        have hv : 0 ≤ v ∧ v < N := hx
        obtain ⟨hv0, hv1⟩ := hv
        have hv2 : v < (N.toNat : Int) := by omega
        obtain ⟨z0, z1, z2, z3, z4⟩ := h1.cells
        obtain ⟨hc0, hc1⟩ := h1.cellsS hv0 hv1
        have hnext : Hid (((pre ++ [(⟨(v, iE, b), hx⟩ : Cd N)]).map (·.1)).foldl (visitC u) st = visit u iE sp v b) := Lib.hid (by rw [List.map_append, List.foldl_append, HSP.out]; rfl)
        have hkl2 : Hid (k + 1 ≤ sp.1.length) := Lib.hid (by rw [← HSP.out]; exact Nat.le_trans hkl (fold_le u _ st))
        have hspl : Hid (sp.1.length ≤ 64 + 256) := Lib.hid (by have := fold_len u (pre.map (·.1)) st; rw [HSP.out, List.length_map] at this; have := HLe.out; omega)
        rw [seenL_rd hv0 hv1] at hc0
        cases hsn : (sp.2 v).isSome
        · rw [hsn] at hc0
          have HRw := Lib.hid h1
          have HMk := Lib.hid h2
          have HM := Lib.hid (h1.mark v)
          have hm := (h1.mark v).cells
          obtain ⟨m0, m1, m2, m3, m4⟩ := hm
          obtain ⟨hp1, hp2⟩ := seenL_put (u := u) (i := iE) (b := b) hv0 hv1 hsn
          have HP1 := Lib.hid hp1
          have HP2 := Lib.hid hp2
          clear h1 h2 hp1 hp2 z0 z1
          gi_wp2_with (gi_at_builtin; refine wpListIn_Q_append (Kd.int .i64) (w0 := w) w.heap.size rfl (.tmp 52) (.tmp 54) 25 3 (.int .i64 0) 8 rfl Try.underlying25 info3 rfl (by decide) (by omega) (.slice A9 qs2.length c9) qs2 v [.int .i64 v] (fun k => k < Bn ∨ Bn + 3 ≤ k) (fun _ => False) rfl (show Value.slice (some ⟨W.heap.size, 0, none⟩) 1 1 = _ by simp [World.setCell]) rfl (fun _ hk => hk.elim) (fun _ hk => .inr (by simp [World.setCell] at hk; omega)) HM.out.q HM.out.bel HM.out.bel.size (by have := hspl.out; rw [← HQS2.out, List.length_drop]; omega) ?_; intro v8' w5 ho hb hg5; obtain ⟨a1, a2, a3⟩ := HM.out.app ho hb hg5; have HA1 := Lib.hid a1; have HG5 := Lib.hid hg5; have HO5 := Lib.hid hb; obtain ⟨A11, c11, e11, hc11⟩ := Kd.Q_slice ho; subst e11; clear ho hb hg5 a1)
          have hgb : w.heap.size ≤ g := Kd.R_base HM.out.seen g (by simp [Value.ownBlock])
          have hKO : KeepsOthers W (w5.setCell ⟨b8, 0, none⟩ (.slice A11 (qs2.length + 1) c11)) := ((KeepsOthers.setCell W ⟨g, v.toNat, none⟩ (.bool true)).trans (KeepsOthers.of_grownBy HG5.out (fun j o ej hj => by
            obtain ⟨cells, hcc⟩ := Kd.Q_typed HM.out.q j ej
            rw [hcc] at hj; cases hj; rfl))).trans (KeepsOthers.setCell _ _ _)
          have hBW : Below w.heap.size W (w5.setCell ⟨b8, 0, none⟩ (.slice A11 (qs2.length + 1) c11)) := (((Below.refl _ W).setCell (p := ⟨g, v.toNat, none⟩) hgb (.bool true)).grown HG5.out (by have := HM.out.bel.size; exact this) (fun j ej => Kd.Q_base HM.out.q j ej)).setCell (p := ⟨b8, 0, none⟩) HM.out.lo8 _
          have hbx : ∀ j, Bn ≤ j → j < Bn + 3 → (w5.setCell ⟨b8, 0, none⟩ (.slice A11 (qs2.length + 1) c11)).heap[j]? = W.heap[j]? := fun j hj1 hj2 =>
            (Below.heap_setCell w5 ⟨b8, 0, none⟩ _ j (by have h := hgl.out.2; show j ≠ b8; omega)).trans ((HG5.out.block j (by simp [World.setCell]; omega) (fun e => by have h := HM.out.q.1 j e.symm; omega)).trans (Below.heap_setCell W ⟨g, v.toNat, none⟩ _ j (by have h := hgl.out.1; show j ≠ g; omega)))
          refine ⟨hKO.from _, ⟨hBW, hbx⟩, ⟨.slice A11 (qs2.length + 1) c11, ?_⟩, fun D hD => hKO.same D _ (HMk.out D hD) rfl, Nat.le_trans h3 hKO.size⟩
          rw [hnext.out, HP1.out, HP2.out, drop_app2_ hkl2.out, HQS2.out]
          have h := HA1.out
          rw [List.length_append] at h
          exact h
        · rw [hsn] at hc0
          have HRw := Lib.hid h1
          have HMk := Lib.hid h2
          clear h1 h2
          gi_wp2
          have ev : visit u iE sp v b = sp := by unfold visit; rw [if_pos hsn]
          exact ⟨KeepsFrom.refl _ _, Kq.refl _ _ _, ⟨_, by rw [hnext.out, ev, HQS2.out]; exact HRw.out⟩, HMk.out, h3⟩
      case done =>
        rintro D ys W hD hys ⟨⟨v9, h1⟩, h2, h3⟩ hKD
        rw [hys] at h1
        have hsK : (cdsK l F u l.length).foldl (visitC u) st = bfsK l F s (k + 1) := by rw [← scanK_fold, bfsK_next (by rw [HST.out]; exact hkl), HST.out, HU.out]
        rw [hsK] at h1
        obtain ⟨st2, HST2⟩ : ∃ st2, Hid (bfsK l F s (k + 1) = st2) := ⟨_, rfl⟩
        rw [HST2.out] at h1
        obtain ⟨qs2, HQS2⟩ : ∃ q, Hid (st2.1.drop (k + 1) = q) := ⟨_, rfl⟩
        rw [HQS2.out] at h1
        have hk2 : Hid (k + 1 ≤ st2.1.length) := Lib.hid (by have := (bfsK_ext l F s k).len; rw [HST.out, HST2.out] at this; omega)
        clear hsK
        obtain ⟨A9, c9, e9, hc9⟩ := Kd.Q_slice h1.q
        subst e9
        obtain ⟨z0, z1, z2, z3, z4⟩ := h1.cells
        have HRw := Lib.hid h1
        have HMk := Lib.hid h2
        have HYs := Lib.hid hys
        have HKD := Lib.hid hKD
        clear h1 h2 hys hKD z0 z1 z2
        gi_wp2
        go_wp2
        have hnD : ¬ D ∈ ds := fun h => by have := (HD4.out D h).1; omega
        have hDl : D < W.heap.size := (Array.getElem?_eq_some_iff.1 HKD.out).1
        refine ⟨⟨k + 1, D :: ds, W.heap.size, .slice A9 qs2.length c9, rfl, by simp [hdl], Lib.hid (by rw [HST2.out]; exact hk2.out), Lib.hid (List.nodup_cons.2 ⟨hnD, HN.out⟩), Lib.hid (fun D' hD' => ?_), Lib.hid ?_⟩, ?_⟩
        · rcases List.mem_cons.1 hD' with rfl | hD'
          · exact ⟨by have := hwsz.out; omega, (Below.heap_alloc _ _ _ hDl).trans HKD.out⟩
          · have h := HMk.out D' hD'
            exact ⟨(HD4.out D' hD').2.1, (Below.heap_alloc _ _ _ (Array.getElem?_eq_some_iff.1 h).1).trans h⟩
        · rw [HST2.out, HQS2.out]
          exact (HRw.out.okm (Kd.Q_mono HRw.out.q (fun _ _ => trivial))).rebox
        · simp only [List.length_cons, List.length_map]
          omega
      case stop =>
        rintro D c pre W _ _ h _
        exact h.elim
    · have hk0 : k = st.1.length := by have := hql.out; have := HK.out; omega
      have HF : Hid (bfs l F s N = st) := Lib.hid (by rw [← HST.out]; exact (bfs_at HE.out ⟨hsb.1, by omega⟩ (by rw [HST.out]; exact hk0)).symm)
      clear hk0
      have HSr := HS
      clear HS
      refine wpIn_wide.2 ?_
      go_wp2
      refine leave_marks w.heap.size (fun W => Below w.heap.size w W ∧ Kd.R Kd.bool 4 W w.heap.size (fun _ => True) (.slice (some ⟨g, 0, none⟩) N.toNat cap) (seenL N st)) (.slice (some ⟨g, 0, none⟩) N.toNat cap) ?_ (fun W => (results_tmp (show Try.f20.results = #[.tmp 6] from rfl) _ _ W).trans rfl) ?_ ds _ HN.out HD.out ⟨HSr.out.bel, HSr.out.seen⟩
      · rintro W D ⟨h1, h2⟩ hD hW
        have hg := grownBy_putObj' W D (.deferred none)
        refine ⟨h1.grown hg h1.size (fun j e => by cases e; exact hD), Kd.R_mono (Kd.R_move (Kd.R_bound h2) (fun j hj => ?_)) (fun _ _ => trivial)⟩
        obtain ⟨_, _, hj3, _, _, cells, hcc⟩ := hj
        exact hg.block j hj3 (fun e => by cases e; rw [hW] at hcc; cases hcc)
      · rintro W ⟨h1, h2⟩
        exact ⟨_, rfl, by rw [HF.out]; exact h2, h1⟩

set_option maxHeartbeats 1000000 in
set_option maxRecDepth 100000 in
theorem reach_no (N : Int) (A : Option Addr) (c : Nat) (l : List S41) (A1 : Option Addr) (c1 : Nat) (F : List Int) (s : Int) (k : Nat) (g : Bool) (w : World) (hr : Kd.C k41 w A l.length l) (hc : l.length ≤ c) (hr1 : Kd.C (Kd.int .i64) w A1 F.length F) (hc1 : F.length ≤ c1)
    (hG : graph_fits.f k N l F = some g) (hm : g = false ∨ wth s 0 (N - 1) = false) :
    Calls Try.prog 20 #[.agg #[.int .i64 N, .slice A l.length c], .slice A1 F.length c1, .int .i64 s] w (ReachPost [] w) := by
  have hb0 : Below w.heap.size w (w.alloc (.cells #[.int .i64 N, .slice A l.length c] 24)) := (Below.refl _ _).alloc (Nat.le_refl _) _
  have hgood := graph_fits.calls k N A c l A1 c1 F g (w.alloc (.cells #[.int .i64 N, .slice A l.length c] 24)) (Kd.C_below hr hb0) hc (Kd.C_below hr1 hb0) hc1 hG
  have HB0 := Lib.hid hb0
  have hbox0 : (w.alloc (.cells #[.int .i64 N, .slice A l.length c] 24)).heap[w.heap.size]? = some (.cells #[.int .i64 N, .slice A l.length c] 24) := heap_alloc_new _ _
  have HBox0 := Lib.hid hbox0
  clear hb0 hr hr1 hbox0
  cases g
  · clear hm hG
    go_enter Try.func20, Try.ntmps20
    go_wp2_with (go_at_call 44; refine hgood.mono ?_; rintro e w1 ⟨rfl, hb1⟩; have HB1 := Lib.hid hb1; clear hb1)
    go_ret
    exact ⟨_, rfl, Kd.R_nil _ _ _ _ _, HB0.out.trans (HB1.out.mono HB0.out.size)⟩
  · have hm : wth s 0 (N - 1) = false := by simpa using hm
    obtain ⟨n0, n1, hll, hE, hl⟩ := fits_seen hG
    have hwN : wrap64 (N - 1) = N - 1 := w64 (by omega) (by omega)
    clear hG hE hl
    go_enter Try.func20, Try.ntmps20
    go_wp2_with (first
      | (go_at_call 44; refine hgood.mono ?_; rintro e w1 ⟨rfl, hb1⟩; have HB1 := Lib.hid (HB0.out.trans (hb1.mono HB0.out.size)); have hbx := (hb1.block w.heap.size (by simp)).trans HBox0.out; have hcx0 : w1.cell? ⟨w.heap.size, 0, none⟩ = some (.int .i64 N) := (by simp [World.cell?, hbx]); clear hb1 hbx)
      | (go_at_call 41; have hw_ := wth_any s 0 (N - 1) w1; rw [hm] at hw_; refine hw_.mono ?_; clear hw_; rintro e w' ⟨rfl, rfl⟩))
    go_ret
    exact ⟨_, rfl, Kd.R_nil _ _ _ _ _, HB1.out⟩

theorem graph_Reach.calls (k : Nat) (a0_0 : Int) (A0_1 : Option Addr) (c0_1 : Nat) (l0_1 : List (S41)) (A1 : Option Addr) (c1 : Nat) (l1 : List Int) (a2 : Int) (r : List Bool) (w : World) (hr0_1 : Kd.C k41 w A0_1 l0_1.length l0_1) (hc0_1 : l0_1.length ≤ c0_1) (hr1 : Kd.C (Kd.int .i64) w A1 l1.length l1) (hc1 : l1.length ≤ c1) (h : graph_Reach.f k a0_0 l0_1 l1 a2 = some r) :
    Calls Try.prog 20 #[.agg #[.int .i64 a0_0, .slice A0_1 l0_1.length c0_1], .slice A1 l1.length c1, .int .i64 a2] w fun e w' => ∃ v0_ : Value, e = .returned (v0_) ∧ Kd.R Kd.bool 4 w' w.heap.size (fun _ => True) v0_ r ∧ Below w.heap.size w w' := by
  unfold graph_Reach.f at h
  obtain ⟨g, hG, h⟩ := Option.bind_eq_some_iff.1 h
  cases g with
  | false =>
    rw [if_neg (by simp)] at h
    injection h with h
    subst h
    exact reach_no _ _ _ _ _ _ _ _ k _ w hr0_1 hc0_1 hr1 hc1 hG (.inl rfl)
  | true =>
    rw [if_pos rfl] at h
    by_cases hm : wth a2 0 (a0_0 - 1) = true
    · rw [if_pos hm] at h
      injection h with h
      subst h
      exact reach_walk _ _ _ _ _ _ _ _ k w hr0_1 hc0_1 hr1 hc1 hG hm
    · rw [if_neg hm] at h
      injection h with h
      subst h
      exact reach_no _ _ _ _ _ _ _ _ k _ w hr0_1 hc0_1 hr1 hc1 hG (.inr (by simpa using hm))
#print axioms graph_Reach.calls
end Go.Proofs.Ytfmfojogcghkkaa.P
