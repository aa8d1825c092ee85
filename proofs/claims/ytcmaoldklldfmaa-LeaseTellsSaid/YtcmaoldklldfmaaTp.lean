/- LeaseTells of layer 14 in plain terms: the two books hold the same grants. -/
import Derived.Test.YtcmaoldklldfmaaRb
namespace Go.Proofs.Ytcmaoldklldfmaa.P
open Go.RowKit Go.Proofs.YtcmaoldklldfmaaW.PrintWords Go.Proofs.YtcmaoldklldfmaaW.PrintLast Go.Proofs.YtcmaoldklldfmaaW.PrintMore

def stripG (g : Gr) : Int × Int × (ByteArray → Int) := (g.ver, g.til, g.cnt)
def toS (r : S62) : Int × Int × (ByteArray → Int) := (r.f0, r.f1, allC r.f2)
/-- The same grants, in the same order. -/
def Rel (gs : List Gr) (rs : List S62) : Prop := gs.map stripG = rs.map toS
theorem Rel.nil : Rel [] [] := rfl
theorem Rel.app {gs : List Gr} {rs : List S62} (h : Rel gs rs) (ver til : Int) (l : List S42) (m : Nat) : Rel (gs ++ [⟨ver, til, cntK l l.length, m⟩]) (rs ++ [⟨ver, til, l⟩]) := by
  unfold Rel at h ⊢
  rw [List.map_append, List.map_append, h]; rfl
theorem Rel.one (ver til : Int) (l : List S42) (m : Nat) : Rel [⟨ver, til, cntK l l.length, m⟩] [⟨ver, til, l⟩] := rfl
theorem Rel.filt {p : Gr → Bool} {q : S62 → Bool} (hpq : ∀ g r, stripG g = toS r → p g = q r) : ∀ {gs : List Gr} {rs : List S62}, Rel gs rs → Rel (gs.filter p) (rs.filter q)
  | [], [], _ => rfl
  | [], _ :: _, h => by simp [Rel] at h
  | _ :: _, [], h => by simp [Rel] at h
  | g :: gs, r :: rs, h => by
    unfold Rel at h
    rw [List.map_cons, List.map_cons] at h
    injection h with h1 h2
    have ih := Rel.filt hpq (gs := gs) (rs := rs) h2
    have e := hpq g r h1
    rw [List.filter_cons, List.filter_cons, e]
    by_cases c : q r = true
    · rw [if_pos c, if_pos c]
      unfold Rel at ih ⊢
      rw [List.map_cons, List.map_cons, h1, ih]
    · rw [if_neg c, if_neg c]; exact ih
theorem Rel.len {gs : List Gr} {rs : List S62} (h : Rel gs rs) : gs.length = rs.length := by
  have := congrArg List.length h
  simpa using this
theorem Rel.cnt {gs : List Gr} {rs : List S62} (h : Rel gs rs) {k : Nat} (hk : k < gs.length) : (rdG gs k).cnt = allC (rd_T62 rs k).f2 := by
  have hk2 : k < rs.length := by rw [← h.len]; exact hk
  rw [rdG_get hk, rd62_get hk2]
  have e := congrArg (fun l => l[k]?) h
  simp only [List.getElem?_map, List.getElem?_eq_getElem hk, List.getElem?_eq_getElem hk2, Option.map_some, Option.some.injEq] at e
  unfold stripG toS at e
  injection e with _ e
  injection e with _ e
theorem Rel.heldK {gs : List Gr} {rs : List S62} (h : Rel gs rs) (s : ByteArray) : ∀ k, k ≤ gs.length → P.heldK gs s k = heldRK rs s k
  | 0, _ => rfl
  | k + 1, hk => by
    simp only [P.heldK, heldRK]
    rw [Rel.heldK h s k (by omega), h.cnt (by omega)]
theorem Rel.held {gs : List Gr} {rs : List S62} (h : Rel gs rs) (u : Bool) (s : ByteArray) : heldB u gs s = heldR u rs s := by
  unfold heldB heldR
  rw [h.heldK s _ (Nat.le_refl _), h.len]
theorem Rel.acked {gs : List Gr} {rs : List S62} (h : Rel gs rs) (ver : Int) : Rel (gs.filter fun x => !decide (x.ver < ver)) (rs.filter fun x => decide (ver ≤ x.f0)) :=
  h.filt fun g r e => by
    unfold stripG toS at e
    injection e with e _
    rw [e]
    by_cases c : r.f0 < ver
    · rw [decide_eq_true c, decide_eq_false (by omega)]; rfl
    · rw [decide_eq_false c, decide_eq_true (by omega)]; rfl
theorem Rel.pass {gs : List Gr} {rs : List S62} (h : Rel gs rs) (now : Int) : Rel (gs.filter fun x => !ovr now x.til) (rs.filter fun x => !ovr now x.f1) :=
  h.filt fun g r e => by
    unfold stripG toS at e
    injection e with _ e
    injection e with e _
    rw [e]

theorem R_chR {α : Type} {d : Kd α} {e N M : Nat} {w w' : World} {v : Value} {xs : List α} (h : d.R e w N (fun _ => True) v xs) (hc : ChR M w w') (ht : ∀ q, q ∈ e :: d.E → q ≠ 60 ∧ q ≠ 62) : d.R e w' N (fun _ => True) v xs :=
  R_types_keep h fun k cs q hq hk => hc.block _ _ hk (.inr (fun h => h.elim (ht q hq).1 (ht q hq).2))
theorem k42_E : ∀ q, q ∈ 42 :: k42.E → q = 42 := by
  intro q hq
  simpa [k42, Kd.iso, Kd.pair, Kd.int, Kd.string, Kd.scalar] using hq

/-- What lies there in a round: the two books, the binds. -/
structure TS (w0 : World) (ba bb : Nat) (u : Bool) (t : Int) (va : Value) (gs : List Gr) (vb : Value) (rs : List S62) (v14 : Value) (l : List S42) (W : World) : Prop where
  bk : Bk w0.heap.size ba u t va gs W
  rk : Rk w0.heap.size bb (fun k => some k ≠ v14.ownBlock) u t vb rs W
  bel : Below w0.heap.size w0 W
  r14 : Kd.R k42 42 W w0.heap.size (fun _ => True) v14 l
section
variable {w0 : World} {ba bb : Nat} {u u' : Bool} {t : Int} {va va' : Value} {gs gs' : List Gr} {vb vb' : Value} {rs rs' : List S62} {v14 : Value} {l : List S42} {W W' : World}
theorem TS.keep (h : TS w0 ba bb u t va gs vb rs v14 l W) (hb : Below W.heap.size W W') : TS w0 ba bb u t va gs vb rs v14 l W' :=
  ⟨h.bk.below hb, h.rk.below hb, h.bel.trans (hb.mono h.bel.size), Kd.R_below h.r14 hb⟩
theorem TS.fresh (h : TS w0 ba bb u t va gs vb rs v14 l W) : ∀ k, W.heap.size ≤ k → some k ≠ v14.ownBlock := fun k hk e => by
  have := Kd.R_lt h.r14 k e.symm
  omega
end
/-- The lease's book has turned; the document's not yet. -/
structure TM (w0 : World) (ba bb : Nat) (ua ub : Bool) (t : Int) (va : Value) (gs : List Gr) (vb : Value) (rs : List S62) (v14 : Value) (l : List S42) (W : World) : Prop where
  bk : Bk w0.heap.size ba ua t va gs W
  rk : Rk w0.heap.size bb (fun k => some k ≠ v14.ownBlock) ub t vb rs W
  bel : Below w0.heap.size w0 W
  r14 : Kd.R k42 42 W w0.heap.size (fun _ => True) v14 l
section
variable {w0 : World} {ba bb : Nat} {u u' : Bool} {t : Int} {va va' : Value} {gs gs' : List Gr} {vb vb' : Value} {rs rs' : List S62} {v14 : Value} {l : List S42} {W W' : World}
theorem TS.chA (h : TS w0 ba bb u t va gs vb rs v14 l W) (hB : Bk w0.heap.size ba u' t va' gs' W') (hc : Ch w0.heap.size W W') : TM w0 ba bb u' u t va' gs' vb rs v14 l W' :=
  ⟨hB, h.rk.keep (fun k cs e hk he => hc.block _ _ hk (.inr (fun h => by rcases he with rfl | ⟨_, rfl | rfl⟩ <;> rcases h with h | h <;> cases h))), h.bel.trans (hc.below h.bel.size), R_ch h.r14 hc (fun q hq => by obtain rfl := k42_E q hq; decide)⟩
theorem TM.fresh {ub : Bool} (h : TM w0 ba bb u ub t va gs vb rs v14 l W) : ∀ k, W.heap.size ≤ k → some k ≠ v14.ownBlock := fun k hk e => by
  have := Kd.R_lt h.r14 k e.symm
  omega
theorem TM.chB {ub : Bool} (h : TM w0 ba bb u ub t va gs vb rs v14 l W) (hB : Rk w0.heap.size bb (fun k => some k ≠ v14.ownBlock) u t vb' rs' W') (hc : ChR w0.heap.size W W') : TS w0 ba bb u t va gs vb' rs' v14 l W' :=
  ⟨h.bk.keep (fun k o hk ho => hc.block _ _ hk (.inr (fun h => by
    cases o with
    | cells cs e z => rcases ho with ho | ho <;> rcases h with h | h <;> (rw [ho] at h; cases h)
    | _ => cases h))), hB, h.bel.trans (hc.below h.bel.size), R_chR h.r14 hc (fun q hq => by obtain rfl := k42_E q hq; decide)⟩
theorem TS.cell14 {g n cap : Nat} (h : TS w0 ba bb u t va gs vb rs (.slice (some ⟨g, 0, none⟩) n cap) l W) (k : Nat) (hk : k < n) : (∃ x, W.cell? ⟨g, k * 3 + 2, none⟩ = some (.int .i64 x)) ∧ W.frozen? ⟨g, k * 3 + 2, none⟩ = false := by
  obtain ⟨c, hl, hM, hc, hf⟩ := Kd.R_elem h.r14 z42 (k : Int) (by omega) (by omega)
  obtain rfl := k42_openM hM
  rw [Int.toNat_natCast] at hc hf
  exact ⟨⟨_, hc 2 _ rfl⟩, hf 2⟩
/-- One bind is overwritten. -/
theorem TS.put {g n cap : Nat} (h : TS w0 ba bb u t va gs vb rs (.slice (some ⟨g, 0, none⟩) n cap) l W) (k : Nat) (hk : k < n) (x : Int) :
    ∃ l', TS w0 ba bb u t va gs vb rs (.slice (some ⟨g, 0, none⟩) n cap) l' (W.setCell ⟨g, k * 3 + 2, none⟩ (.int .i64 x)) := by
  obtain ⟨c, hl, hM, hc, hf⟩ := Kd.R_elem h.r14 z42 (k : Int) (by omega) (by omega)
  obtain rfl := k42_openM hM
  have hs := Kd.R_seg (j := 2) (seg := [.int .i64 x]) (x' := (⟨(l.getD k z42).f0, (l.getD k z42).f1, x⟩ : S42)) (okp := fun _ => False) h.r14 (k : Int) (by omega) (by omega) hl hc (Nat.le_refl 3) (k42_mkM _ _ _ (⟨(l.getD k z42).f0, (l.getD k z42).f1, x⟩ : S42)) (fun _ h => h.elim)
  rw [Int.toNat_natCast] at hs
  obtain ⟨cs0, hg0⟩ := Kd.R_typed h.r14 g rfl
  have ot : ∀ (k' : Nat) ob, W.heap[k']? = some ob → k' ≠ g → (W.setCell ⟨g, k * 3 + 2, none⟩ (.int .i64 x)).heap[k']? = some ob := fun k' ob hk' hne => (Below.heap_setCell _ _ _ _ hne).trans hk'
  refine ⟨_, ⟨h.bk.keep (fun k' o hk' ho => ot _ _ hk' (fun e => ?_)), h.rk.keep (fun k' cs e hk' he => ot _ _ hk' (fun e2 => ?_)), h.bel.setCell (Kd.R_base h.r14 g rfl) _, hs.1⟩⟩
  · rw [e, hg0] at hk'
    cases hk'
    rcases ho with ho | ho <;> cases ho
  · rcases he with rfl | ⟨hne, _⟩
    · rw [e2, hg0] at hk'; cases hk'
    · exact hne (by rw [e2]; rfl)
end
end Go.Proofs.Ytcmaoldklldfmaa.P
