/- share.Trim: what it gives to each bind in order. -/
import Derived.Test.YtpdgdogcfmfakaaTa
namespace Go.Proofs.Ytpdgdogcfmfakaa.P
open Go.RowKit Go.Proofs.YtpdgdogcfmfakaaW.PrintWords Go.Proofs.YtpdgdogcfmfakaaW.PrintLast Go.Proofs.YtpdgdogcfmfakaaW.PrintMore
open Go.Proofs.Ytpdgdogcfmfakaa.Mp
set_option linter.unusedSimpArgs false
set_option linter.unusedVariables false

/-- What the memory of a call of Trim holds while binds are given. -/
structure TS (w0 : World) (N Bt Bl Bm Bp g Ml Mw : Nat) (A : Option Addr) (c n : Nat) (fL fW : Value → Option Value) (nL nW : Nat) (part : List Int) (W : World) : Prop where
  bel : Below N w0 W
  hN : N ≤ Bt ∧ N ≤ Bl ∧ N ≤ Bm ∧ N ≤ Bp ∧ N ≤ g ∧ N ≤ Ml ∧ N ≤ Mw
  bt : W.heap[Bt]? = some (.cells #[.slice A n c] 23)
  bl : W.heap[Bl]? = some (.cells #[.map (some Ml)] 47)
  bm : W.heap[Bm]? = some (.cells #[.map (some Mw)] 49)
  bp : W.heap[Bp]? = some (.cells #[.slice (some ⟨g, 0, none⟩) n n] 22)
  gp : W.heap[g]? = some (.cells (part.map (Value.int .i64)).toArray 3)
  pl : part.length = n
  ml : Is Try.prog 9 W Ml nL fL
  mw : Is Try.prog 51 W Mw nW fW
  ne : Ml ≠ Mw

section
variable {w0 : World} {N Bt Bl Bm Bp g Ml Mw : Nat} {A : Option Addr} {c n : Nat} {fL fW : Value → Option Value} {nL nW : Nat} {part : List Int} {W W' : World}
theorem TS.lts (h : TS w0 N Bt Bl Bm Bp g Ml Mw A c n fL fW nL nW part W) : Bt < W.heap.size ∧ Bl < W.heap.size ∧ Bm < W.heap.size ∧ Bp < W.heap.size ∧ g < W.heap.size ∧ Ml < W.heap.size ∧ Mw < W.heap.size :=
  ⟨(Array.getElem?_eq_some_iff.1 h.bt).1, (Array.getElem?_eq_some_iff.1 h.bl).1, (Array.getElem?_eq_some_iff.1 h.bm).1, (Array.getElem?_eq_some_iff.1 h.bp).1, (Array.getElem?_eq_some_iff.1 h.gp).1, h.ml.lt, h.mw.lt⟩
theorem TS.keep (h : TS w0 N Bt Bl Bm Bp g Ml Mw A c n fL fW nL nW part W) (hb : Below W.heap.size W W') : TS w0 N Bt Bl Bm Bp g Ml Mw A c n fL fW nL nW part W' := by
  obtain ⟨l1, l2, l3, l4, l5, l6, l7⟩ := h.lts
  have hs := h.bel.size
  refine ⟨?_, h.hN, (hb.block _ l1).trans h.bt, (hb.block _ l2).trans h.bl, (hb.block _ l3).trans h.bm, (hb.block _ l4).trans h.bp, (hb.block _ l5).trans h.gp, h.pl, h.ml.of_block (hb.block _ l6), h.mw.of_block (hb.block _ l7), h.ne⟩
  by_cases hN : N ≤ W.heap.size
  · exact h.bel.trans (hb.mono hN)
  · exact absurd h.hN.1 (by omega)
theorem TS.alloc (h : TS w0 N Bt Bl Bm Bp g Ml Mw A c n fL fW nL nW part W) (o : Obj) : TS w0 N Bt Bl Bm Bp g Ml Mw A c n fL fW nL nW part (W.alloc o) := h.keep ((Below.refl _ _).alloc (Nat.le_refl _) o)
theorem TS.drewN (h : TS w0 N Bt Bl Bm Bp g Ml Mw A c n fL fW nL nW part W) (m : Nat) : TS w0 N Bt Bl Bm Bp g Ml Mw A c n fL fW nL nW part (W.drewN m) := h.keep ⟨rfl, rfl, rfl, Nat.le_refl _, fun _ _ => rfl⟩

theorem TS.setPart (h : TS w0 N Bt Bl Bm Bp g Ml Mw A c n fL fW nL nW part W) (i : Nat) (x : Int) : TS w0 N Bt Bl Bm Bp g Ml Mw A c n fL fW nL nW (part.set i x) (W.setCell ⟨g, i, none⟩ (.int .i64 x)) := by
  have ho : ∀ k, k ≠ g → (W.setCell ⟨g, i, none⟩ (.int .i64 x)).heap[k]? = W.heap[k]? := fun k hk => Below.heap_setCell _ _ _ _ hk
  have n1 : Bt ≠ g := by rintro rfl; have := h.bt.symm.trans h.gp; simp at this
  have n2 : Bl ≠ g := by rintro rfl; have := h.bl.symm.trans h.gp; simp at this
  have n3 : Bm ≠ g := by rintro rfl; have := h.bm.symm.trans h.gp; simp at this
  have n4 : Bp ≠ g := by rintro rfl; have := h.bp.symm.trans h.gp; simp at this
  have n5 : Ml ≠ g := by rintro rfl; obtain ⟨es, cl, e⟩ := h.ml.isMap; have := e.symm.trans h.gp; simp at this
  have n6 : Mw ≠ g := by rintro rfl; obtain ⟨es, cl, e⟩ := h.mw.isMap; have := e.symm.trans h.gp; simp at this
  refine ⟨h.bel.setCell h.hN.2.2.2.2.1 _, h.hN, (ho _ n1).trans h.bt, (ho _ n2).trans h.bl, (ho _ n3).trans h.bm, (ho _ n4).trans h.bp, ?_, by rw [List.length_set]; exact h.pl, h.ml.of_block (ho _ n5), h.mw.of_block (ho _ n6), h.ne⟩
  simp only [World.setCell, Array.getElem?_modify, h.gp]
  simp [List.map_set]

theorem TS.setLeft (h : TS w0 N Bt Bl Bm Bp g Ml Mw A c n fL fW nL nW part W) {fL' : Value → Option Value} {nL' : Nat} (hM : Is Try.prog 9 W' Ml nL' fL') (hg : W.grownBy W' (some Ml)) : TS w0 N Bt Bl Bm Bp g Ml Mw A c n fL' fW nL' nW part W' := by
  obtain ⟨l1, l2, l3, l4, l5, l6, l7⟩ := h.lts
  obtain ⟨es, cl, e⟩ := h.ml.isMap
  have n1 : Bt ≠ Ml := by rintro rfl; have := h.bt.symm.trans e; simp at this
  have n2 : Bl ≠ Ml := by rintro rfl; have := h.bl.symm.trans e; simp at this
  have n3 : Bm ≠ Ml := by rintro rfl; have := h.bm.symm.trans e; simp at this
  have n4 : Bp ≠ Ml := by rintro rfl; have := h.bp.symm.trans e; simp at this
  have n5 : g ≠ Ml := by rintro rfl; have := h.gp.symm.trans e; simp at this
  have ho : ∀ k, k < W.heap.size → k ≠ Ml → W'.heap[k]? = W.heap[k]? := fun k hk hne => hg.block k hk (by simpa using hne)
  exact ⟨h.bel.grown hg (by have := h.hN.1; omega) (fun k hk => by cases hk; exact h.hN.2.2.2.2.2.1), h.hN, (ho _ l1 n1).trans h.bt, (ho _ l2 n2).trans h.bl, (ho _ l3 n3).trans h.bm, (ho _ l4 n4).trans h.bp, (ho _ l5 n5).trans h.gp, h.pl, hM, h.mw.of_block (ho _ l7 (Ne.symm h.ne)), h.ne⟩
theorem TS.cells (h : TS w0 N Bt Bl Bm Bp g Ml Mw A c n fL fW nL nW part W) : W.cell? ⟨Bt, 0, none⟩ = some (.slice A n c) ∧ W.cell? ⟨Bl, 0, none⟩ = some (.map (some Ml)) ∧ W.cell? ⟨Bm, 0, none⟩ = some (.map (some Mw)) ∧ W.cell? ⟨Bp, 0, none⟩ = some (.slice (some ⟨g, 0, none⟩) n n) ∧
    ∀ i, i < n → W.cell? ⟨g, i, none⟩ = some (.int .i64 (rd part i)) ∧ W.frozen? ⟨g, i, none⟩ = false := by
  refine ⟨by simp [World.cell?, h.bt], by simp [World.cell?, h.bl], by simp [World.cell?, h.bm], by simp [World.cell?, h.bp], fun i hi => ⟨?_, by simp [World.frozen?, h.gp]⟩⟩
  have hp := h.pl
  simp [World.cell?, h.gp, rd, List.getD_eq_getElem?_getD, List.getElem?_eq_getElem (show i < part.length by omega)]
end
end Go.Proofs.Ytpdgdogcfmfakaa.P
