/- The document's way, along and Push in plain terms: the same ways, so the same flow as Push's. -/
import Derived.Test.YtfmfojogcghkkaaFa
import Derived.Test.YtfmfojogcghkkaaGp
import Derived.Test.YtfmfojogcghkkaaRf
import Derived.Test.YtfmfojogcghkkaaPx30
import Derived.Test.YtfmfojogcghkkaaPx31
import Derived.Test.YtfmfojogcghkkaaPx36
namespace Go.Proofs.Ytfmfojogcghkkaa.Rp
open Go.RowKit Go.Proofs.Ytfmfojogcghkkaa.P Go.Proofs.YtfmfojogcghkkaaW.PrintWords Go.Proofs.YtfmfojogcghkkaaW.PrintLast
open Go.Proofs.Ytfmfojogcghkkaa.Fl Go.Proofs.Ytfmfojogcghkkaa.Bf Go.Proofs.Ytfmfojogcghkkaa.Pp Go.Proofs.Ytfmfojogcghkkaa.Gp Go.Proofs.Ytfmfojogcghkkaa.Fw

/-- The document's two lists say what the search knows. -/
structure Rel (N s : Int) (st : St) (by_ : List Int) (seen : List Bool) : Prop where
  bl : (by_.length : Int) = N
  sl : (seen.length : Int) = N
  sn : ∀ v, 0 ≤ v → v < N → rdOf false seen v = (st.2 v).isSome
  ed : ∀ v x, 0 ≤ v → v < N → v ≠ s → st.2 v = some x → rd by_ v = x.f1
theorem Rel.visit {N s : Int} {st : St} {by_ : List Int} {seen : List Bool} (h : Rel N s st by_ seen) {u v : Int} {i : Nat} {b : Bool} (hv : 0 ≤ v ∧ v < N) (hn : (st.2 v).isSome = false) :
    Rel N s (visit u i st v b) (by_.set v.toNat i) (seen.set v.toNat true) ∧ (visit u i st v b).1 = st.1 ++ [v] := by
  have e : Bf.visit u i st v b = (st.1 ++ [v], fun x => if x = v then some ⟨u, i, b⟩ else st.2 x) := by unfold Bf.visit; rw [if_neg (by rw [hn]; simp)]
  rw [e]
  have h1 := h.bl
  have h2 := h.sl
  refine ⟨⟨by rw [List.length_set]; exact h1, by rw [List.length_set]; exact h2, fun x h0 hx => ?_, fun x y h0 hx hs hy => ?_⟩, rfl⟩
  · show _ = Option.isSome (if x = v then some (⟨u, i, b⟩ : S66) else st.2 x)
    rw [rdO_set h0 (by omega)]
    by_cases c : x = v
    · subst c; rw [if_pos rfl, if_pos rfl]; rfl
    · rw [if_neg (by omega), if_neg c]; exact h.sn x h0 hx
  · have hy : (if x = v then some (⟨u, i, b⟩ : S66) else st.2 x) = some y := hy
    have ex : rd (by_.set v.toNat (i : Int)) ((x.toNat : Nat) : Int) = if x.toNat = v.toNat then (i : Int) else rd by_ ((x.toNat : Nat) : Int) := rd_set (by omega) _ _
    rw [show ((x.toNat : Nat) : Int) = x by omega] at ex
    rw [ex]
    by_cases c : x = v
    · subst c
      rw [if_pos rfl] at hy ⊢
      injection hy with hy; subst hy; rfl
    · rw [if_neg c] at hy
      rw [if_neg (by omega)]
      exact h.ed x y h0 hx hs hy

section
variable {N : Int} {l : List S41} {F : List Int} {s t : Int}
theorem scan_ev (hE : Bf.Ends l N) (hN : N ≤ 64) (hll : l.length ≤ 256) (hl : F.length = l.length) {st : St} (hI : BInv l F s N st) {p : Nat} (hp : p < st.1.length) {R : List Int × Bool → Prop}
    (H : ∀ b' s', Rel N s (scanK l F (rd st.1 p) st l.length) b' s' → ∃ r, Ev (fun k => billetref06_way.l1 k F t b' s' (scanK l F (rd st.1 p) st l.length).1 ((p + 1 : Nat) : Int) N l) r ∧ R r) (d : Nat) :
    ∀ (i : Nat) by_ seen, i ≤ l.length → l.length - i = d → Rel N s (scanK l F (rd st.1 p) st i) by_ seen → ∃ r, Ev (fun k => billetref06_way.l2 k F t by_ seen (scanK l F (rd st.1 p) st i).1 (p : Int) (rd st.1 p) (i : Int) N l) r ∧ R r := by
  have hple : p < 64 := by have := hI.le; omega
  induction d with
  | zero =>
    intro i by_ seen hi hd hR
    obtain rfl : i = l.length := by omega
    obtain ⟨r, h1, h2⟩ := H _ _ hR
    refine ⟨r, Ev.step (fun k => ?_) h1, h2⟩
    simp only [billetref06_way.l2]
    rw [if_neg (by omega), w64 (n := (p : Int) + 1) (by omega) (by omega)]; rfl
  | succ d ih =>
    intro i by_ seen hi hd hR
    have hil : i < l.length := by omega
    have hIi : BInv l F s N (scanK l F (rd st.1 p) st i) := scanK_inv hE hI hp i hi
    have hx := scanK_ext l F (rd st.1 p) st i
    have hq := hIi.le
    obtain ⟨a, b, c⟩ := hE i hil
    have ew : ∀ _ : True, wrap64 ((i : Int) + 1) = ((i + 1 : Nat) : Int) := fun _ => (w64 (n := (i : Int) + 1) (by omega) (by omega)).trans (by omega)
    have hu : ((scanK l F (rd st.1 p) st i).2 (rd st.1 p)).isSome = true := hx.some_ ((hI.mem _).2 ⟨p, hp, rfl⟩)
    have hub := hI.rng p hp
    have enext : scanK l F (rd st.1 p) st (i + 1) = scan1 l F (rd st.1 p) (scanK l F (rd st.1 p) st i) i := rfl
    have ih := ih (i + 1)
    rw [enext] at ih
    clear enext
    generalize scanK l F (rd st.1 p) st i = si at *
    generalize rd st.1 p = u at *
    have hbl := hR.bl
    have hsl := hR.sl
    have i0 : (i : Int) < (F.length : Int) := by omega
    have i1 : (0 : Int) ≤ (i : Int) := by omega
    have i2 : (i : Int) < (l.length : Int) := by omega
    -- what stands at the edge's end that is come to
    have stay : ∀ (_ : scan1 l F u si i = si), ∃ r, Ev (fun k => billetref06_way.l2 k F t by_ seen si.1 (p : Int) u ((i + 1 : Nat) : Int) N l) r ∧ R r := fun e => by
      have := ih by_ seen (by omega) (by omega)
      rw [e] at this
      exact this hR
    have put : ∀ (v : Int) (b : Bool), cand l F u i = some (v, b) → 0 ≤ v ∧ v < N → (si.2 v).isSome = false → ∃ r, Ev (fun k => billetref06_way.l2 k F t (by_.set v.toNat i) (seen.set v.toNat true) (si.1 ++ [v]) (p : Int) u ((i + 1 : Nat) : Int) N l) r ∧ R r := fun v b hc hv hn => by
      have e : scan1 l F u si i = visit u i si v b := by unfold scan1; rw [hc]
      obtain ⟨h1, h2⟩ := hR.visit (u := u) (i := i) (b := b) hv hn
      have := ih (by_.set v.toNat i) (seen.set v.toNat true) (by omega) (by omega)
      rw [e, h2] at this
      exact this h1
    by_cases c1 : (rd_T41 l i).f0 = u ∧ rd F i < (rd_T41 l i).f2
    · have hc : cand l F u i = some ((rd_T41 l i).f1, false) := by unfold cand; rw [if_pos c1]
      have hsn := hR.sn _ b.1 b.2
      cases hs : (si.2 (rd_T41 l i).f1).isSome
      · rw [hs] at hsn
        obtain ⟨r, h1, h2⟩ := put _ _ hc b hs
        refine ⟨r, Ev.step (f := fun k => billetref06_way.j4 k F t by_ seen si.1 (p : Int) u (i : Int) u true N l (rd_T41 l i).f0 (rd_T41 l i).f1 (rd_T41 l i).f2) (fun k => ?_) (Ev.step (fun k => ?_) h1), h2⟩
        · simp only [billetref06_way.l2]; rw [if_pos i0, if_pos i1, if_pos i2, if_pos c1.1, decide_eq_true c1.2]
        · simp only [billetref06_way.j4]; rw [if_pos trivial, if_pos b.1, if_pos (by omega), if_neg (by rw [hsn]; simp), if_pos (by omega), if_pos (by omega), ew trivial]
      · rw [hs] at hsn
        obtain ⟨r, h1, h2⟩ := stay (by unfold scan1; rw [hc]; show visit u i si _ false = si; unfold visit; rw [if_pos hs])
        refine ⟨r, Ev.step (f := fun k => billetref06_way.j4 k F t by_ seen si.1 (p : Int) u (i : Int) u true N l (rd_T41 l i).f0 (rd_T41 l i).f1 (rd_T41 l i).f2) (fun k => ?_) (Ev.step (fun k => ?_) h1), h2⟩
        · simp only [billetref06_way.l2]; rw [if_pos i0, if_pos i1, if_pos i2, if_pos c1.1, decide_eq_true c1.2]
        · simp only [billetref06_way.j4]; rw [if_pos trivial, if_pos b.1, if_pos (by omega), if_pos hsn, ew trivial]
    · have e1 : ∀ k, billetref06_way.l2 (k + 1) F t by_ seen si.1 (p : Int) u (i : Int) N l = billetref06_way.j4 k F t by_ seen si.1 (p : Int) u (i : Int) u false N l (rd_T41 l i).f0 (rd_T41 l i).f1 (rd_T41 l i).f2 := fun k => by
        simp only [billetref06_way.l2]; rw [if_pos i0, if_pos i1, if_pos i2]
        by_cases c0 : (rd_T41 l i).f0 = u
        · rw [if_pos c0, decide_eq_false (fun h => c1 ⟨c0, h⟩)]
        · rw [if_neg c0]
      by_cases c2 : (rd_T41 l i).f1 = u ∧ 0 < rd F i
      · have hc : cand l F u i = some ((rd_T41 l i).f0, true) := by unfold cand; rw [if_neg c1, if_pos c2]
        have hsn := hR.sn _ a.1 a.2
        cases hs : (si.2 (rd_T41 l i).f0).isSome
        · rw [hs] at hsn
          obtain ⟨r, h1, h2⟩ := put _ _ hc a hs
          refine ⟨r, Ev.step e1 (Ev.step (f := fun k => billetref06_way.j5 k F t by_ seen si.1 (p : Int) u (i : Int) u true N l (rd_T41 l i).f0 (rd_T41 l i).f1 (rd_T41 l i).f2) (fun k => ?_) (Ev.step (fun k => ?_) h1)), h2⟩
          · simp only [billetref06_way.j4]; rw [if_neg (by simp), if_pos c2.1, if_pos i1, if_pos i0, decide_eq_true c2.2]
          · simp only [billetref06_way.j5]; rw [if_pos trivial, if_pos a.1, if_pos (by omega), if_neg (by rw [hsn]; simp), if_pos (by omega), if_pos (by omega), ew trivial]
        · rw [hs] at hsn
          obtain ⟨r, h1, h2⟩ := stay (by unfold scan1; rw [hc]; show visit u i si _ true = si; unfold visit; rw [if_pos hs])
          refine ⟨r, Ev.step e1 (Ev.step (f := fun k => billetref06_way.j5 k F t by_ seen si.1 (p : Int) u (i : Int) u true N l (rd_T41 l i).f0 (rd_T41 l i).f1 (rd_T41 l i).f2) (fun k => ?_) (Ev.step (fun k => ?_) h1)), h2⟩
          · simp only [billetref06_way.j4]; rw [if_neg (by simp), if_pos c2.1, if_pos i1, if_pos i0, decide_eq_true c2.2]
          · simp only [billetref06_way.j5]; rw [if_pos trivial, if_pos a.1, if_pos (by omega), if_pos hsn, ew trivial]
      · have hc : cand l F u i = none := by unfold cand; rw [if_neg c1, if_neg c2]
        have hsn := (hR.sn u hub.1 hub.2).trans hu
        obtain ⟨r, h1, h2⟩ := stay (by unfold scan1; rw [hc])
        refine ⟨r, Ev.step e1 (Ev.step (f := fun k => billetref06_way.j5 k F t by_ seen si.1 (p : Int) u (i : Int) u false N l (rd_T41 l i).f0 (rd_T41 l i).f1 (rd_T41 l i).f2) (fun k => ?_) (Ev.step (fun k => ?_) h1)), h2⟩
        · simp only [billetref06_way.j4]; rw [if_neg (by simp)]
          by_cases c0 : (rd_T41 l i).f1 = u
          · rw [if_pos c0, if_pos i1, if_pos i0, decide_eq_false (fun h => c2 ⟨c0, h⟩)]
          · rw [if_neg c0]
        · simp only [billetref06_way.j5]; rw [if_neg (by simp), if_pos hub.1, if_pos (by omega), if_pos hsn, ew trivial]

theorem way_loop (hE : Bf.Ends l N) (hN : N ≤ 64) (hll : l.length ≤ 256) (hl : F.length = l.length) (hs : 0 ≤ s ∧ s < N) (ht : 0 ≤ t ∧ t < N) (d : Nat) : ∀ (p : Nat) by_ seen, p ≤ (bfsK l F s p).1.length → N.toNat - p = d → Rel N s (bfsK l F s p) by_ seen →
    ∃ r, Ev (fun k => billetref06_way.l1 k F t by_ seen (bfsK l F s p).1 (p : Int) N l) r ∧ r.2 = ((bfs l F s N).2 t).isSome ∧ ∃ s', Rel N s (bfs l F s N) r.1 s' := by
  have fin : ∀ (p : Nat) by_ seen, p = (bfsK l F s p).1.length → Rel N s (bfsK l F s p) by_ seen → ∃ r, Ev (fun k => billetref06_way.l1 k F t by_ seen (bfsK l F s p).1 (p : Int) N l) r ∧ r.2 = ((bfs l F s N).2 t).isSome ∧ ∃ s', Rel N s (bfs l F s N) r.1 s' := fun p by_ seen hp hR => by
    have ep := bfs_at hE hs hp
    rw [ep] at hR hp ⊢
    have hsl := hR.sl
    refine ⟨(by_, ((bfs l F s N).2 t).isSome), Ev.step (f := fun k => billetref06_way.j2 k F t by_ seen (bfs l F s N).1 (p : Int) false N l) (fun k => ?_) (Ev.step (f := fun _ => some (by_, ((bfs l F s N).2 t).isSome)) (fun k => ?_) (Ev.now _)), rfl, seen, hR⟩
    · simp only [billetref06_way.l1]; rw [if_neg (by omega)]
    · simp only [billetref06_way.j2]; rw [if_neg (by simp), if_pos ht.1, if_pos (by omega), hR.sn t ht.1 ht.2]
  induction d with
  | zero =>
    intro p by_ seen hp hd hR
    have := (bfsK_inv (F := F) hE hs p).le
    exact fin p by_ seen (by omega) hR
  | succ d ih =>
    intro p by_ seen hp hd hR
    have hle := (bfsK_inv (F := F) hE hs p).le
    by_cases c : p < (bfsK l F s p).1.length
    · have hnx := bfsK_next c
      have hlen := (bfsK_ext l F s p).len
      have hlen2 : p + 1 ≤ (bfsK l F s (p + 1)).1.length := by omega
      have ih := fun b' s' => ih (p + 1) b' s' hlen2 (by omega)
      rw [hnx] at ih
      obtain ⟨r, h1, h2⟩ := scan_ev (t := t) hE hN hll hl (bfsK_inv (F := F) hE hs p) c (R := fun r => r.2 = ((bfs l F s N).2 t).isSome ∧ ∃ s', Rel N s (bfs l F s N) r.1 s') (fun b' s' hR => ih b' s' hR) l.length 0 by_ seen (by omega) (by omega) hR
      refine ⟨r, Ev.step (f := fun k => billetref06_way.j2 k F t by_ seen (bfsK l F s p).1 (p : Int) true N l) (fun k => ?_) (Ev.step (fun k => ?_) h1), h2⟩
      · simp only [billetref06_way.l1]; rw [if_pos (by omega), decide_eq_true (by omega)]
      · simp only [billetref06_way.j2]; rw [if_pos trivial, if_pos (by omega), if_pos (by omega)]; rfl
    · exact fin p by_ seen (by omega) hR

theorem fill_ev (hN0 : 0 ≤ N) (hN : N ≤ 64) (hs : 0 ≤ s ∧ s < N) {seen : List Bool} (hsl : (seen.length : Int) = N) {R : List Int × Bool → Prop}
    (H : ∀ by_ : List Int, (by_.length : Int) = N → ∃ r, Ev (fun k => billetref06_way.l1 k F t by_ (seen.set s.toNat true) [s] 0 N l) r ∧ R r) (d : Nat) : ∀ (v : Nat) (by_ : List Int), (v : Int) ≤ N → N.toNat - v = d → (by_.length : Int) = N →
    ∃ r, Ev (fun k => billetref06_way.l0 k F s t by_ seen (v : Int) N l) r ∧ R r := by
  induction d with
  | zero =>
    intro v by_ hv hd hb
    obtain ⟨r, h1, h2⟩ := H by_ hb
    refine ⟨r, Ev.step (fun k => ?_) h1, h2⟩
    simp only [billetref06_way.l0]; rw [if_neg (by omega), if_pos hs.1, if_pos (by omega)]
  | succ d ih =>
    intro v by_ hv hd hb
    obtain ⟨r, h1, h2⟩ := ih (v + 1) (by_.set v (-1)) (by omega) (by omega) (by rw [List.length_set]; exact hb)
    refine ⟨r, Ev.step (fun k => ?_) h1, h2⟩
    simp only [billetref06_way.l0]; rw [if_pos (by omega), if_pos (by omega), if_pos (by omega), w64 (n := (v : Int) + 1) (by omega) (by omega)]; rfl

theorem way_ev (hN : NetOk N l) (hl : F.length = l.length) (hs : 0 ≤ s ∧ s < N) (ht : 0 ≤ t ∧ t < N) :
    ∃ b, Ev (fun k => billetref06_way.f k N l F s t) (b, ((bfs l F s N).2 t).isSome) ∧ ∃ s', Rel N s (bfs l F s N) b s' := by
  have n0 := hN.n0
  have n1 := hN.n1
  obtain ⟨⟨r1, r2⟩, h1, h2, h3⟩ := fill_ev (F := F) (s := s) (t := t) (l := l) (by omega) n1 hs (seen := List.replicate N.toNat false) (by simp; omega) (R := fun r => r.2 = ((bfs l F s N).2 t).isSome ∧ ∃ s', Rel N s (bfs l F s N) r.1 s') (fun by_ hb => by
      have := way_loop (F := F) (s := s) (t := t) hN.ends n1 hN.len hl hs ht N.toNat 0 by_ ((List.replicate N.toNat false).set s.toNat true) (by omega) (by omega) ⟨hb, by simp; omega, fun v h0 h1 => ?_, fun v x h0 h1 hn hx => ?_⟩
      · exact this
      · have hl0 : (v : Int) < ((List.replicate N.toNat false).length : Int) := by simp; omega
        rw [rdO_set h0 hl0]
        show _ = Option.isSome (if v = s then some (⟨0, 0, false⟩ : S66) else none)
        by_cases c : v = s
        · subst c; rw [if_pos rfl, if_pos rfl]; rfl
        · rw [if_neg (by omega), if_neg c, rdO h0 hl0]; simp
      · have hx : (if v = s then some (⟨0, 0, false⟩ : S66) else none) = some x := hx
        rw [if_neg hn] at hx; cases hx) N.toNat 0 (List.replicate N.toNat 0) (by omega) (by omega) (by simp; omega)
  have h2 : r2 = _ := h2
  subst h2
  refine ⟨r1, Ev.congr (fun k => ?_) h1, h3⟩
  simp only [billetref06_way.f]
  rw [if_pos (by omega), if_pos (by omega), if_pos (by omega)]; rfl

theorem along_ev (hE : Bf.Ends l N) (hN : N ≤ 64) (hll : l.length ≤ 256) {st : St} (hI : BInv l F s N st) {by_ : List Int} {seen : List Bool} (hR : Rel N s st by_ seen) : ∀ (n p : Nat), p ≤ n → p < st.1.length → ∀ (E : List Int) (Wt : List Bool) (kk : Nat), kk + p ≤ 63 → E.length = kk → Wt.length = kk →
    Ev (fun k => billetref06_along.l0 k by_ s E Wt (rd st.1 p) (kk : Int) N l) (E ++ (wayL st.2 s n (rd st.1 p)).map (·.f1), Wt ++ (wayL st.2 s n (rd st.1 p)).map (fun x => !x.f2))
  | n, 0, _, hp, E, Wt, kk, hk, _, _ => by
    have hh : rd st.1 ((0 : Nat) : Int) = s := hI.head
    have e : wayL st.2 s n (rd st.1 ((0 : Nat) : Int)) = [] := by
      cases n with
      | zero => rfl
      | succ m => simp only [wayL]; rw [if_pos hh]
    rw [e, hh]
    refine Ev.step (f := fun k => billetref06_along.j1 k by_ s E Wt s (kk : Int) false N l) (fun k => ?_) (Ev.step (f := fun _ => some (E, Wt)) (fun k => ?_) (by simpa using Ev.now (E, Wt)))
    · simp only [billetref06_along.l0]; rw [if_pos (by omega)]; simp
    · simp only [billetref06_along.j1]; rw [if_neg (by simp)]
  | 0, p + 1, h, _, _, _, _, _, _, _ => by omega
  | n + 1, p + 1, hn, hp, E, Wt, kk, hk, hEl, hWl => by
    obtain ⟨r, i, b, h1, h2, h3, h4⟩ := hI.par (p + 1) (by omega) hp
    have hne : rd st.1 ((p + 1 : Nat) : Int) ≠ s := fun e => by
      have := hI.inj (p + 1) 0 hp hI.pos (e.trans hI.head.symm); omega
    have hv := hI.rng (p + 1) hp
    have hbl := hR.bl
    have hed := hR.ed _ _ hv.1 hv.2 hne h3
    have hed : rd by_ (rd st.1 ((p + 1 : Nat) : Int)) = (i : Int) := hed
    have e : wayL st.2 s (n + 1) (rd st.1 ((p + 1 : Nat) : Int)) = ⟨rd st.1 r, i, b⟩ :: wayL st.2 s n (rd st.1 r) := by
      simp only [wayL]; rw [if_neg hne, h3]
    have hends := cand_ends h4
    obtain ⟨q0, q1, q2⟩ := hE i h2
    have ih := along_ev hE hN hll hI hR n r (by omega) (by omega) (E ++ [(i : Int)]) (Wt ++ [!b]) (kk + 1) (by omega) (by simp [hEl]) (by simp [hWl])
    rw [e]
    have ee : (E ++ (⟨rd st.1 r, i, b⟩ :: wayL st.2 s n (rd st.1 r)).map (·.f1), Wt ++ (⟨rd st.1 r, i, b⟩ :: wayL st.2 s n (rd st.1 r)).map (fun x => !x.f2)) = (E ++ [(i : Int)] ++ (wayL st.2 s n (rd st.1 r)).map (·.f1), Wt ++ [!b] ++ (wayL st.2 s n (rd st.1 r)).map (fun x => !x.f2)) := by simp
    rw [ee]
    clear ee e
    generalize rd st.1 ((p + 1 : Nat) : Int) = v at *
    have ew : ∀ _ : True, wrap64 ((kk : Int) + 1) = ((kk + 1 : Nat) : Int) := fun _ => (w64 (n := (kk : Int) + 1) (by omega) (by omega)).trans (by omega)
    refine Ev.step (f := fun k => billetref06_along.j1 k by_ s E Wt v (kk : Int) true N l) (fun k => ?_) (Ev.step (fun k => ?_) ih)
    · simp only [billetref06_along.l0]; rw [if_pos (by omega), bne_iff_ne.2 hne]
    · simp only [billetref06_along.j1]
      rw [if_pos trivial, if_pos hv.1, if_pos (by omega), if_pos (by omega), hed, Option.bind_some, if_pos (by omega), if_pos (by omega), if_pos (by omega), Option.bind_some, ew trivial]
      cases b
      · simp only [Bool.false_eq_true, if_false] at hends
        rw [if_pos hends.2.1, hends.1, beq_iff_eq.2 hends.2.1]; rfl
      · simp only [if_true] at hends
        have hf : ¬ (rd_T41 l i).f1 = v := by omega
        rw [if_neg hf, hends.1, beq_eq_false_iff_ne.2 (by omega)]; rfl

theorem rdOf_map {W : List S66} {j : Nat} (h : j < W.length) : rdOf false (W.map fun x => !x.f2) (j : Int) = !(rd66 W (j : Int)).f2 := by
  unfold rdOf; rw [rd66_get h, Int.toNat_natCast, List.getD_eq_getElem?_getD, List.getElem?_eq_getElem (by simpa using h)]; simp
theorem rd_map {W : List S66} {j : Nat} (h : j < W.length) : rd (W.map (·.f1)) (j : Int) = (rd66 W (j : Int)).f1 := by
  unfold rd; rw [rd66_get h, Int.toNat_natCast, List.getD_eq_getElem?_getD, List.getElem?_eq_getElem (by simpa using h)]; simp

variable {m sum : Int} {W : List S66} {r : List Int × Int × Int}
theorem l2_ev {c : Int} (hW : ∀ x ∈ W, 0 ≤ x.f1 ∧ x.f1 < l.length) (hl : F.length = l.length) (hWl : W.length ≤ 64) (H : Ev (fun k => billetref06_Push.l0 k s t m (updK F W c W.length) (wrap64 (sum + c)) N l) r) (d : Nat) : ∀ j, j ≤ W.length → W.length - j = d →
    Ev (fun k => billetref06_Push.l2 k s t m (updK F W c j) sum (W.map (·.f1)) (W.map fun x => !x.f2) c (j : Int) N l) r := by
  induction d with
  | zero =>
    intro j hj hd
    obtain rfl : j = W.length := by omega
    refine Ev.step (fun k => ?_) H
    simp only [billetref06_Push.l2]; rw [if_neg (by simp)]
  | succ d ih =>
    intro j hj hd
    have hjl : j < W.length := by omega
    have hx := hW _ (rd66_mem hjl)
    have ul : (updK F W c j).length = l.length := by rw [updK_len, hl]
    have ew : ∀ _ : True, wrap64 ((j : Int) + 1) = ((j + 1 : Nat) : Int) := fun _ => (w64 (n := (j : Int) + 1) (by omega) (by omega)).trans (by omega)
    refine Ev.step (fun k => ?_) (ih (j + 1) (by omega) (by omega))
    simp only [billetref06_Push.l2, updK, upd1]
    rw [if_pos (by simp; omega), if_pos (by omega), if_pos (by simp; omega), rdOf_map hjl, rd_map hjl, if_pos hx.1, ew trivial]
    cases (rd66 W (j : Int)).f2
    · rw [if_pos (by simp), if_pos (by omega), if_neg (by simp)]
    · rw [if_neg (by simp), if_pos hx.1, if_pos (by omega), if_pos rfl]
theorem l1_ev {m' : Int} (hW : ∀ x ∈ W, 0 ≤ x.f1 ∧ x.f1 < l.length) (hl : F.length = l.length) (hWl : W.length ≤ 64)
    (H : Ev (fun k => billetref06_Push.l0 k s t m (updK F W (moreK l F W m' W.length) W.length) (wrap64 (sum + moreK l F W m' W.length)) N l) r) (d : Nat) : ∀ j, j ≤ W.length → W.length - j = d →
    Ev (fun k => billetref06_Push.l1 k s t m F sum (W.map (·.f1)) (W.map fun x => !x.f2) (moreK l F W m' j) (j : Int) N l) r := by
  induction d with
  | zero =>
    intro j hj hd
    obtain rfl : j = W.length := by omega
    refine Ev.step (fun k => ?_) (l2_ev hW hl hWl H W.length 0 (by omega) (by omega))
    simp only [billetref06_Push.l1]; rw [if_neg (by simp)]; rfl
  | succ d ih =>
    intro j hj hd
    have hjl : j < W.length := by omega
    have hx := hW _ (rd66_mem hjl)
    have ew : ∀ _ : True, wrap64 ((j : Int) + 1) = ((j + 1 : Nat) : Int) := fun _ => (w64 (n := (j : Int) + 1) (by omega) (by omega)).trans (by omega)
    refine Ev.step (fun k => ?_) (ih (j + 1) (by omega) (by omega))
    simp only [billetref06_Push.l1, moreK, stepRoom]
    rw [if_pos (by simp; omega), if_pos (by omega), if_pos (by simp; omega), rdOf_map hjl, rd_map hjl, if_pos hx.1, ew trivial]
    cases (rd66 W (j : Int)).f2
    · rw [if_pos (by simp), if_pos (by omega), if_pos (by omega), if_neg (by simp)]
    · rw [if_neg (by simp), if_pos hx.1, if_pos (by omega), if_pos rfl]

theorem push_sim (hN : NetOk N l) (hs : 0 ≤ s ∧ s < N) (ht : 0 ≤ t ∧ t < N) (hne : s ≠ t) : ∀ (d : Nat) (F : List Int) (sum : Int) (r : List Int × Int), F.length = l.length → pushL N l s t m d F sum = some r → Ev (fun k => billetref06_Push.l0 k s t m F sum N l) (r.1, r.2, 0)
  | 0, F, sum, r, _, h => by simp [pushL] at h
  | d + 1, F, sum, r, hl, h => by
    simp only [pushL] at h
    by_cases c1 : sum < m
    · rw [if_pos c1] at h
      have hI := bfs_inv (F := F) hN.ends hs
      have n1 := hN.n1
      obtain ⟨b, eb, s', hR⟩ := way_ev (F := F) (t := t) hN hl hs ht
      by_cases c : ((bfs l F s N).2 t).isSome = true
      · obtain ⟨p, hp, e⟩ := (hI.mem t).1 c
        have hle := hI.le
        have hp0 : 0 < p := by
          rcases Nat.eq_zero_or_pos p with h0 | h0
          · subst h0; exact absurd (hI.head.symm.trans e) hne
          · exact h0
        obtain ⟨w1, w2, w3, w4, w5, _⟩ := wayL_ok hI N.toNat p (by omega) hp
        have ea := along_ev hN.ends n1 hN.len hI hR N.toNat p (by omega) hp [] [] 0 (by omega) rfl rfl
        have eW : wayOf N l F s t = wayL (bfs l F s N).2 s N.toNat t := by unfold wayOf; rw [if_pos c]
        rw [e] at ea w2 w4 w5
        rw [← eW] at ea w2 w4 w5
        have hemp : ¬ (wayOf N l F s t).isEmpty = true := fun h0 => w5 hp0 (List.isEmpty_iff.1 h0)
        rw [if_neg hemp] at h
        simp only [List.nil_append] at ea
        have hW : ∀ x ∈ wayOf N l F s t, 0 ≤ x.f1 ∧ x.f1 < l.length := fun x hx => by
          obtain ⟨_, _, _, _, r', i', _, hi, _, hf, _⟩ := w2 x hx
          omega
        have hrec := push_sim hN hs ht hne d _ _ r (by rw [updK_len, hl]) h
        have e1 := l1_ev (m' := wrap64 (m - sum)) (W := wayOf N l F s t) (N := N) hW hl (by omega) hrec _ 0 (by omega) rfl
        refine Ev.step (f := fun k => (billetref06_way.f k N l F s t).bind fun bt600 => (if bt600.2 = true then ((billetref06_along.f k N l bt600.1 s t).bind fun bt604 => (billetref06_Push.l1 k s t m F sum bt604.1 bt604.2 (wrap64 (m - sum)) 0 N l)) else (some (F, sum, 0)))) (fun k => ?_) (Ev.bind eb ?_)
        · simp only [billetref06_Push.l0]; rw [if_pos c1]
        · refine Ev.congr (f := fun k => (billetref06_along.f k N l b s t).bind fun bt604 => (billetref06_Push.l1 k s t m F sum bt604.1 bt604.2 (wrap64 (m - sum)) 0 N l)) (fun k => ?_) (Ev.bind ea e1)
          simp only []; rw [if_pos c]
      · have eW : wayOf N l F s t = [] := by unfold wayOf; rw [if_neg c]
        rw [eW, if_pos (show ([] : List S66).isEmpty = true from rfl)] at h
        injection h with h
        subst h
        refine Ev.step (f := fun k => (billetref06_way.f k N l F s t).bind fun bt600 => (if bt600.2 = true then ((billetref06_along.f k N l bt600.1 s t).bind fun bt604 => (billetref06_Push.l1 k s t m F sum bt604.1 bt604.2 (wrap64 (m - sum)) 0 N l)) else (some (F, sum, 0)))) (fun k => ?_) (Ev.bind eb (Ev.congr (fun k => ?_) (Ev.now _)))
        · simp only [billetref06_Push.l0]; rw [if_pos c1]
        · simp only []; rw [if_neg c]
    · rw [if_neg c1] at h
      injection h with h
      subst h
      refine Ev.step (fun k => ?_) (Ev.now _)
      simp only [billetref06_Push.l0]; rw [if_neg c1]
end

/-- Push and the document's: the same. -/
theorem both (N : Int) (l : List S41) (F : List Int) (s t m : Int) (hm : m ≤ 9223372036854775807) : ∃ r, Ev (fun k => flow_Push.f k N l F s t m) r ∧ Ev (fun k => billetref06_Push.f k N l F s t m) r := by
  by_cases g : GoodP N l F s t
  · by_cases h0 : 0 ≤ m
    · obtain ⟨F', v, e, p⟩ := push_ok g.net g.sb g.tb hm (256000 - bal (nw N l) (fl F) s.toNat).toNat F 0 g.len g.good (by omega) h0 (by omega)
      have hne : s ≠ t := fun e => g.good.ne (by rw [e])
      have hlen := g.net.len
      have hl := g.len
      refine ⟨(F', v, 0), Ev.bind (good_true g) (Ev.congr (f := fun k => (pushL N l s t m k F 0).bind fun r => some (r.1, r.2, 0)) (fun k => ?_) (Ev.bind (Ev.of (fun k => fun r hr => pushL_mono _ _ _ _ _ _ _ _ _ hr) e) (Ev.now _))), Ev.bind (Rf.good_true g) (Ev.congr (f := fun k => billetref06_Push.j0 k F s t m false N l) (fun k => ?_) (Ev.step (fun k => ?_) (push_sim g.net g.sb g.tb hne _ F 0 _ g.len e)))⟩
      · rw [if_pos rfl, if_neg (by omega)]
      · rw [if_pos rfl, decide_eq_false (by omega)]
      · simp only [billetref06_Push.j0]; rw [if_neg (by simp), if_pos (by simp; omega), List.nil_append]
    · refine ⟨([], 0, 50), push_no (fun h => h0 h.2), Ev.bind (Rf.good_true g) (Ev.congr (f := fun k => billetref06_Push.j0 k F s t m true N l) (fun k => ?_) (Ev.step (f := fun _ => some ([], 0, 50)) (fun k => ?_) (Ev.now _)))⟩
      · rw [if_pos rfl, decide_eq_true (by omega)]
      · simp only [billetref06_Push.j0]; rw [if_pos trivial]
  · refine ⟨([], 0, 50), push_no (fun h => g h.1), Ev.bind (Rf.good_false g) (Ev.congr (f := fun k => billetref06_Push.j0 k F s t m true N l) (fun k => ?_) (Ev.step (f := fun _ => some ([], 0, 50)) (fun k => ?_) (Ev.now _)))⟩
    · rw [if_neg (by simp)]
    · simp only [billetref06_Push.j0]; rw [if_pos trivial]
#print axioms both
end Go.Proofs.Ytfmfojogcghkkaa.Rp
