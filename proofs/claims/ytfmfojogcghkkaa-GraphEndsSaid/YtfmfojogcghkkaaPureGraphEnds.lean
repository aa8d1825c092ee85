/- GraphEnds in plain terms: what the law's loops lean on; and that its calls answer. -/
import Derived.Test.YtfmfojogcghkkaaGl
import Derived.Test.YtfmfojogcghkkaaFw
import Derived.Test.YtfmfojogcghkkaaPx25
namespace Go.Proofs.Ytfmfojogcghkkaa.Pge
open Go.RowKit Go.Proofs.Ytfmfojogcghkkaa.P Go.Proofs.YtfmfojogcghkkaaW.PrintWords Go.Proofs.YtfmfojogcghkkaaW.PrintLast
open Go.Proofs.Ytfmfojogcghkkaa.Fl Go.Proofs.Ytfmfojogcghkkaa.Bf Go.Proofs.Ytfmfojogcghkkaa.Pp Go.Proofs.Ytfmfojogcghkkaa.Gp Go.Proofs.Ytfmfojogcghkkaa.Fw Go.Proofs.Ytfmfojogcghkkaa.Rf Go.Proofs.Ytfmfojogcghkkaa.Gl

theorem frB_mono {S : List Bool} {F : List Int} {l : List S41} {v : Int} : ∀ {i j : Nat}, i ≤ j → frB S F l v i = true → frB S F l v j = true
  | i, 0, h, e => by obtain rfl : i = 0 := by omega
                     exact e
  | i, j + 1, h, e => by
    by_cases c : i = j + 1
    · rw [← c]; exact e
    · simp only [frB]; rw [frB_mono (i := i) (j := j) (by omega) e]; rfl
theorem frB_of {S : List Bool} {F : List Int} {l : List S41} {v : Int} {i n : Nat} (h : i < n) (hp : pB S F l v i = true) : frB S F l v n = true :=
  frB_mono (i := i + 1) h (by simp only [frB]; rw [hp]; simp)
section
variable {N : Int} {l : List S41} {F : List Int}
theorem seen_rd {s v : Int} (h0 : 0 ≤ v) (h1 : v < N) : rdOf false (seenL N (bfs l F s N)) v = ((bfs l F s N).2 v).isSome := seenL_rd h0 h1
theorem ends_ok (hf : FitsP N l F) : EndsOk N l F (seenL N (bfs l F 0 N)) := by
  have n0 := hf.net.n0
  have hs : (0 : Int) ≤ 0 ∧ (0 : Int) < N := by omega
  have hI := bfs_inv (F := F) hf.net.ends hs
  have hle := hI.le
  refine ⟨n0, hf.net.n1, hf.net.len, hf.len, by rw [seenL_len]; omega, hf.net.ends, fun i hi h => ?_, fun i hi h => ?_, fun v h1 h2 => ?_⟩
  · obtain ⟨a, b, _⟩ := hf.net.ends i hi
    obtain ⟨h1, h2, h3⟩ := h
    rw [seen_rd a.1 a.2] at h1
    rw [seen_rd b.1 b.2] at h2
    have := bfs_closed (F := F) hf.net.ends hs h1 hi (v := (rd_T41 l i).f1) (b := false) (by unfold cand; rw [if_pos ⟨rfl, h3⟩])
    rw [this] at h2; cases h2
  · obtain ⟨a, b, c⟩ := hf.net.ends i hi
    obtain ⟨h1, h2, h3⟩ := h
    rw [seen_rd b.1 b.2] at h1
    rw [seen_rd a.1 a.2] at h2
    have := bfs_closed (F := F) hf.net.ends hs h1 hi (v := (rd_T41 l i).f0) (b := true) (by unfold cand; rw [if_neg (fun h => c h.1), if_pos ⟨rfl, h3⟩])
    rw [this] at h2; cases h2
  · cases hv : ((bfs l F 0 N).2 (v : Int)).isSome
    · have h0 : frB (seenL N (bfs l F 0 N)) F l v 0 = true := by
        simp only [frB]; rw [seen_rd (by omega) h2, hv]; rfl
      exact frB_mono (Nat.zero_le _) h0
    · obtain ⟨p, hp, e⟩ := (hI.mem v).1 hv
      have hp0 : 0 < p := by
        rcases Nat.eq_zero_or_pos p with h0 | h0
        · subst h0
          have := hI.head.symm.trans e
          omega
        · exact h0
      obtain ⟨r, i, b, g1, g2, _, g4⟩ := hI.par p hp0 hp
      have hr : ((bfs l F 0 N).2 (rd (bfs l F 0 N).1 r)).isSome = true := (hI.mem _).2 ⟨r, by omega, rfl⟩
      have hrb := hI.rng r (by omega)
      have g5 := cand_ends g4
      rw [e] at g5
      refine frB_of g2 ?_
      unfold pB
      cases b
      · simp only [Bool.false_eq_true, if_false] at g5
        rw [g5.2.1, g5.1, seen_rd hrb.1 hrb.2, hr, decide_eq_true g5.2.2]
        simp
      · simp only [if_true] at g5
        rw [g5.2.1, g5.1, seen_rd hrb.1 hrb.2, hr, decide_eq_true g5.2.2]
        simp
end
theorem ends {a0 : Int} {l0 : List S41} {l1 : List Int} (h0 : I64 a0) (hl : ∀ x ∈ l0, Sz x) (h1 : ∀ x ∈ l1, I64 x) : ∃ K, ∀ k, K ≤ k → billetlaw05_GraphEnds.f k a0 l0 l1 = some true ∧
    ∀ N l F S, billetlaw05_Fit.f k a0 l0 = some (N, l) → billetlaw05_Flow.f k N l l1 = some F → graph_Reach.f k N l F 0 = some S → EndsOk N l F S := by
  have hf := fit_ok (fitN_bd a0).1 (fitN_bd a0).2 l0
  have ef := fit_ev h0 hl
  generalize fitN a0 = N at hf ef
  generalize fitL N l0 = l at hf ef
  obtain ⟨F, eF, gF⟩ := flow_ev hf.net h1
  have n0 := hf.n0
  have n1 := hf.n1
  have hfp := Gl.GoodP.fp gF.1
  have eR := reach_ev (s := 0) hfp (by omega)
  have tR := seen_told (s := 0) hfp (by omega)
  have hE := ends_ok hfp
  have hlen : ((seenL N (bfs l F 0 N)).length : Int) = N := tR.len
  have hs0 : rdOf false (seenL N (bfs l F 0 N)) 0 = true := (tR.told 0 (by omega)).2 .base
  have ev : Ev (fun k => billetlaw05_GraphEnds.f k a0 l0 l1) true := by
    refine Ev.bind Gl.awake_ev (Ev.bind ef (Ev.bind eF (Ev.bind eR (Ev.congr (f := fun k => billetlaw05_GraphEnds.j0 k F (seenL N (bfs l F 0 N)) false N l) (fun k => ?_) ?_))))
    · simp only [if_true]
      rw [if_pos hlen, if_pos (by omega), hs0]; rfl
    · have fin : Ev (fun k => billetlaw05_GraphEnds.j1 k F (seenL N (bfs l F 0 N)) false N l) true := by
        refine Ev.step (f := fun _ => some true) (fun k => ?_) (Ev.now _)
        simp only [billetlaw05_GraphEnds.j1]; rw [if_neg (by simp)]
      cases hs1 : rdOf false (seenL N (bfs l F 0 N)) 1
      · have hc : bal (nw N l) (fl F) (0 : Int).toNat = cut (nw N l) (sideF (seenL N (bfs l F 0 N))) := reach_cut gF.1.good (S := sideF (seenL N (bfs l F 0 N))) tR.told hs1
        have ev0 := val_of hfp (s := 0) (by omega)
        have ec := cut_ev (S := seenL N (bfs l F 0 N)) hf.net hlen
        rw [hc] at ev0
        refine Ev.step (f := fun k => ((graph_Cut.f k N l (seenL N (bfs l F 0 N))).bind fun t359 => ((graph_Value.f k N l F 0).bind fun t360 => (billetlaw05_GraphEnds.j1 k F (seenL N (bfs l F 0 N)) (t359 != t360) N l)))) (fun k => ?_) (Ev.bind ec (Ev.bind (f := fun k t360 => billetlaw05_GraphEnds.j1 k F (seenL N (bfs l F 0 N)) (cut (nw N l) (sideF (seenL N (bfs l F 0 N))) != t360) N l) ev0 (Ev.congr (fun k => ?_) fin)))
        · simp only [billetlaw05_GraphEnds.j0]; rw [if_neg (by simp), if_pos (by omega), if_neg (by rw [hs1]; simp)]
        · rw [bne_self_eq_false]
      · refine Ev.step (fun k => ?_) fin
        simp only [billetlaw05_GraphEnds.j0]; rw [if_neg (by simp), if_pos (by omega), if_pos hs1]
  obtain ⟨K1, e1⟩ := ev
  obtain ⟨K2, e2⟩ := ef
  obtain ⟨K3, e3⟩ := eF
  obtain ⟨K4, e4⟩ := eR
  refine ⟨max (max K1 K2) (max K3 K4), fun k hk => ⟨e1 k (by omega), fun N' l' F' S' g1 g2 g3 => ?_⟩⟩
  have := (e2 k (by omega)).symm.trans g1
  injection this with this
  injection this with hN hl'
  subst hN; subst hl'
  have := (e3 k (by omega)).symm.trans g2
  injection this with this
  subst this
  have := (e4 k (by omega)).symm.trans g3
  injection this with this
  subst this
  exact hE
#print axioms ends
end Go.Proofs.Ytfmfojogcghkkaa.Pge
