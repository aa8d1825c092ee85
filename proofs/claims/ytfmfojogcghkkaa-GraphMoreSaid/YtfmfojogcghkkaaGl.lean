/- graph.Reach and graph.Cut in plain terms; chapter 5's example; lists that are the same. -/
import Derived.Test.YtfmfojogcghkkaaFa
import Derived.Test.YtfmfojogcghkkaaPx4
import Derived.Test.YtfmfojogcghkkaaPx11
import Derived.Test.YtfmfojogcghkkaaPx12
import Derived.Test.YtfmfojogcghkkaaPx13
namespace Go.Proofs.Ytfmfojogcghkkaa.Gl
open Go.RowKit Go.Proofs.Ytfmfojogcghkkaa.P Go.Proofs.YtfmfojogcghkkaaW.PrintWords Go.Proofs.YtfmfojogcghkkaaW.PrintLast
open Go.Proofs.Ytfmfojogcghkkaa.Fl Go.Proofs.Ytfmfojogcghkkaa.Bf Go.Proofs.Ytfmfojogcghkkaa.Pp Go.Proofs.Ytfmfojogcghkkaa.Gp Go.Proofs.Ytfmfojogcghkkaa.Fw Go.Proofs.Ytfmfojogcghkkaa.Rf

theorem awake_ev : Ev (fun k => billetlaw05_awake.f k) true := Ev.of (billetlaw05_awake.mono) (k := 12) (by decide +kernel)
theorem GoodP.fp {N : Int} {l : List S41} {F : List Int} {s t : Int} (g : GoodP N l F s t) : FitsP N l F := ⟨g.net, g.len, g.good.fits⟩
theorem val_of {N : Int} {l : List S41} {F : List Int} {s : Int} (g : FitsP N l F) (hs : 0 ≤ s ∧ s < N) : Ev (fun k => graph_Value.f k N l F s) (bal (nw N l) (fl F) s.toNat) := by
  have := value_ev N l F s
  unfold valP at this
  rwa [if_pos ⟨g, hs⟩] at this
theorem right_ev (N : Int) (l : List S41) : Ev (fun k => graph_Right.f k N l) (rightB N l) := Ev.now _
theorem right_true {N : Int} {l : List S41} (h : NetOk N l) : Ev (fun k => graph_Right.f k N l) true := by
  have e := right_ev N l
  rw [(right_iff N l).2 h] at e
  exact e

/-! ### Cut -/
open Classical in
noncomputable def cutP (N : Int) (l : List S41) (S : List Bool) : Int := if NetOk N l ∧ (S.length : Int) = N then cut (nw N l) (sideF S) else 0
def ctrm (N : Int) (l : List S41) (S : List Bool) (i : Nat) : Int := if sideF S ((nw N l).src i) = true ∧ sideF S ((nw N l).dst i) = false then (nw N l).cap i else 0
theorem ctrm_bd {N : Int} {l : List S41} (hN : NetOk N l) (S : List Bool) : ∀ i : Nat, i ≤ l.length → 0 ≤ sm (ctrm N l S) i ∧ sm (ctrm N l S) i ≤ 1000 * i := fun i hi => by
  have hc : ∀ j, j < i → 0 ≤ ctrm N l S j ∧ ctrm N l S j ≤ 1000 := fun j hj => by
    have hc : 0 ≤ (nw N l).cap j ∧ (nw N l).cap j ≤ 1000 := hN.cap j (by omega)
    unfold ctrm
    split <;> omega
  exact ⟨sm_nn fun j hj => (hc j hj).1, sm_bd fun j hj => (hc j hj).2⟩
theorem ctrm_next {N : Int} {l : List S41} (hN : NetOk N l) (S : List Bool) {i : Nat} (hi : i < l.length) : sm (ctrm N l S) (i + 1) = sm (ctrm N l S) i + (if rdOf false S (rd_T41 l i).f0 = true ∧ rdOf false S (rd_T41 l i).f1 = false then (rd_T41 l i).f2 else 0) := by
  obtain ⟨a, b, c⟩ := hN.ends i hi
  simp only [sm, ctrm, sideF]
  show _ + (if rdOf false S (((rd_T41 l i).f0.toNat : Nat) : Int) = true ∧ rdOf false S (((rd_T41 l i).f1.toNat : Nat) : Int) = false then (rd_T41 l i).f2 else 0) = _
  rw [Int.toNat_of_nonneg a.1, Int.toNat_of_nonneg b.1]
theorem cut_loop {N : Int} {l : List S41} {S : List Bool} (hN : NetOk N l) (hS : (S.length : Int) = N) (d : Nat) : ∀ i : Nat, i ≤ l.length → l.length - i = d →
    Ev (fun k => graph_Cut.l0 k S (sm (ctrm N l S) i) l (l.length : Int) (i : Int)) (cut (nw N l) (sideF S)) := by
  have hlen := hN.len
  induction d with
  | zero =>
    intro i hi hd
    obtain rfl : i = l.length := by omega
    refine Ev.step (f := fun _ => some (cut (nw N l) (sideF S))) (fun k => ?_) (Ev.now _)
    simp only [graph_Cut.l0]; rw [if_neg (by omega)]; rfl
  | succ d ih =>
    intro i hi hd
    obtain ⟨a, b, c⟩ := hN.ends i (by omega)
    have hc := hN.cap i (by omega)
    have hb := ctrm_bd hN S i (by omega)
    have e := ctrm_next hN S (i := i) (by omega)
    refine Ev.step (fun k => ?_) (ih (i + 1) (by omega) (by omega))
    rw [e]
    clear e ih
    generalize sm (ctrm N l S) i = X at hb
    simp only [graph_Cut.l0]
    rw [if_pos (show (i : Int) < (l.length : Int) by omega), if_pos (show (0 : Int) ≤ (i : Int) by omega), if_pos (show (i : Int) < (l.length : Int) by omega), if_pos a.1, if_pos (by omega), w64 (n := (i : Int) + 1) (by omega) (by omega)]
    cases c1 : rdOf false S (rd_T41 l i).f0
    · rw [if_neg (by simp), if_neg (by simp), Int.add_zero]; rfl
    · rw [if_pos rfl, if_pos b.1, if_pos (by omega)]
      cases c2 : rdOf false S (rd_T41 l i).f1
      · rw [if_neg (by simp), if_pos (by simp), w64 (by omega) (by omega)]; rfl
      · rw [if_pos rfl, if_neg (by simp), Int.add_zero]; rfl
theorem cut_ev {N : Int} {l : List S41} {S : List Bool} (hN : NetOk N l) (hS : (S.length : Int) = N) : Ev (fun k => graph_Cut.f k N l S) (cut (nw N l) (sideF S)) := by
  refine Ev.bind (right_true hN) (Ev.congr (f := fun k => graph_Cut.j0 k S 0 false N l) (fun k => ?_) (Ev.step (fun k => ?_) (cut_loop hN hS l.length 0 (by omega) (by omega))))
  · rw [if_pos rfl, bne_eq_false_iff_eq.2 hS]
  · simp only [graph_Cut.j0]; rw [if_neg (by simp)]; rfl
theorem cutP_ev (N : Int) (l : List S41) (S : List Bool) : Ev (fun k => graph_Cut.f k N l S) (cutP N l S) := by
  have no : Ev (fun k => graph_Cut.j0 k S 0 true N l) 0 := by
    refine Ev.step (f := fun _ => some 0) (fun k => ?_) (Ev.now _)
    simp only [graph_Cut.j0]; rw [if_pos trivial]
  by_cases h : NetOk N l
  · by_cases hS : (S.length : Int) = N
    · unfold cutP; rw [if_pos ⟨h, hS⟩]; exact cut_ev h hS
    · unfold cutP; rw [if_neg (fun x => hS x.2)]
      refine Ev.bind (right_true h) (Ev.congr (fun k => ?_) no)
      rw [if_pos rfl, bne_iff_ne.2 hS]
  · unfold cutP; rw [if_neg (fun x => h x.1)]
    have e := right_ev N l
    cases hr : rightB N l
    · rw [hr] at e
      refine Ev.bind e (Ev.congr (fun k => ?_) no)
      rw [if_neg (by simp)]
    · exact absurd ((right_iff N l).1 hr) h

/-! ### Reach -/
theorem seen_told {N : Int} {l : List S41} {F : List Int} {s : Int} (hf : FitsP N l F) (hs : 0 ≤ s ∧ s < N) : RTold N l F s (seenL N (bfs l F s N)) := by
  have n0 := hf.net.n0
  refine ⟨by rw [seenL_len]; omega, fun v hv => ?_⟩
  unfold sideF
  rw [seenL_rd (by omega) (by omega)]
  exact bfs_reach hf.net.ends hs v
theorem reach_ev {N : Int} {l : List S41} {F : List Int} {s : Int} (hf : FitsP N l F) (hs : 0 ≤ s ∧ s < N) : Ev (fun k => graph_Reach.f k N l F s) (seenL N (bfs l F s N)) := by
  have n1 := hf.net.n1
  refine Ev.bind (fits_true hf) (Ev.congr (fun k => ?_) (Ev.now _))
  rw [if_pos rfl, if_pos ((wth_iff s 0 (N - 1)).2 (by omega))]
theorem reach_no {N : Int} {l : List S41} {F : List Int} {s : Int} (h : ¬ (FitsP N l F ∧ 0 ≤ s ∧ s < N)) : Ev (fun k => graph_Reach.f k N l F s) [] := by
  by_cases hf : FitsP N l F
  · refine Ev.bind (fits_true hf) (Ev.congr (fun k => ?_) (Ev.now _))
    rw [if_pos rfl, if_neg (fun hw => h ⟨hf, by have := (wth_iff s 0 (N - 1)).1 hw; omega⟩)]
  · refine Ev.bind (fits_false hf) (Ev.congr (fun k => ?_) (Ev.now _))
    rw [if_neg (by simp)]
theorem told_same {N : Int} {l : List S41} {F : List Int} {s : Int} {A B : List Bool} (ha : RTold N l F s A) (hb : RTold N l F s B) : A = B := by
  have la := ha.len
  have lb := hb.len
  apply List.ext_getElem
  · omega
  · intro i h1 h2
    have e : ∀ (X : List Bool) (h : i < X.length), sideF X i = X[i] := fun X h => by
      unfold sideF rdOf
      rw [Int.toNat_natCast, List.getD_eq_getElem?_getD, List.getElem?_eq_getElem h]; rfl
    have ta := ha.told i (by omega)
    have tb := hb.told i (by omega)
    rw [e A h1] at ta
    rw [e B h2] at tb
    cases ca : A[i] <;> cases cb : B[i]
    · rfl
    · exact absurd (ta.2 (tb.1 cb)) (by rw [ca]; simp)
    · exact absurd (tb.2 (ta.1 ca)) (by rw [cb]; simp)
    · rfl

theorem bools_loop (X : List Bool) (hX : X.length ≤ 1000000) (d : Nat) : ∀ i : Nat, i ≤ X.length → X.length - i = d → Ev (fun k => billetlaw05_Bools.l0 k X X (i : Int)) true := by
  induction d with
  | zero =>
    intro i hi hd
    refine Ev.step (f := fun _ => some true) (fun k => ?_) (Ev.now _)
    simp only [billetlaw05_Bools.l0]; rw [if_neg (by omega)]
  | succ d ih =>
    intro i hi hd
    refine Ev.step (fun k => ?_) (ih (i + 1) (by omega) (by omega))
    simp only [billetlaw05_Bools.l0]
    rw [if_pos (by omega), if_pos (by omega), if_pos (by omega), if_neg (by simp), w64 (n := (i : Int) + 1) (by omega) (by omega)]; rfl
theorem bools_ev {X : List Bool} (hX : X.length ≤ 1000000) : Ev (fun k => billetlaw05_Bools.f k X X) true := by
  refine Ev.congr (f := fun k => billetlaw05_Bools.l0 k X X 0) (fun k => ?_) (bools_loop X hX X.length 0 (by omega) (by omega))
  simp only [billetlaw05_Bools.f]; rw [if_pos trivial]
#print axioms awake_ev
#print axioms cutP_ev
end Go.Proofs.Ytfmfojogcghkkaa.Gl
