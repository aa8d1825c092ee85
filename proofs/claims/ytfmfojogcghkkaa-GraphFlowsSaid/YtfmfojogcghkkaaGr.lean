/- The document's layer 5 beside the program's: whatever is asked, the same is told. -/
import Derived.Test.YtfmfojogcghkkaaGl
import Derived.Test.YtfmfojogcghkkaaRg
namespace Go.Proofs.Ytfmfojogcghkkaa.Gr
open Go.RowKit Go.Proofs.Ytfmfojogcghkkaa.P Go.Proofs.YtfmfojogcghkkaaW.PrintWords Go.Proofs.YtfmfojogcghkkaaW.PrintLast
open Go.Proofs.Ytfmfojogcghkkaa.Fl Go.Proofs.Ytfmfojogcghkkaa.Bf Go.Proofs.Ytfmfojogcghkkaa.Pp Go.Proofs.Ytfmfojogcghkkaa.Gp Go.Proofs.Ytfmfojogcghkkaa.Fw Go.Proofs.Ytfmfojogcghkkaa.Rf

theorem right_both (N : Int) (l : List S41) : Ev (fun k => billetref05_Right.f k N l) (rightB N l) := by
  obtain ⟨r, h1, h2⟩ := Rf.right_ev N l
  have e : r = rightB N l := by
    have h3 := right_iff N l
    cases r <;> cases hb : rightB N l
    · rfl
    · exact absurd (h2.2 (h3.1 hb)) (by simp)
    · exact absurd (h3.2 (h2.1 rfl)) (by rw [hb]; simp)
    · rfl
  rwa [e] at h1
theorem good_both (N : Int) (l : List S41) (F : List Int) (s t : Int) : ∃ r, Ev (fun k => graph_Good.f k N l F s t) r ∧ Ev (fun k => billetref05_Good.f k N l F s t) r := by
  by_cases h : GoodP N l F s t
  · exact ⟨true, Gp.good_true h, Rf.good_true h⟩
  · exact ⟨false, Gp.good_false h, Rf.good_false h⟩
theorem cut_both (N : Int) (l : List S41) (S : List Bool) : Ev (fun k => billetref05_Cut.f k N l S) (Gl.cutP N l S) := by
  have no : Ev (fun k => billetref05_Cut.j0 k S true N l) 0 := by
    refine Ev.step (f := fun _ => some 0) (fun k => ?_) (Ev.now _)
    simp only [billetref05_Cut.j0]; rw [if_pos trivial]
  by_cases h : NetOk N l
  · by_cases hS : (S.length : Int) = N
    · unfold Gl.cutP; rw [if_pos ⟨h, hS⟩]; exact Rf.cut_ev h hS
    · unfold Gl.cutP; rw [if_neg (fun x => hS x.2)]
      have e := right_both N l
      rw [(right_iff N l).2 h] at e
      refine Ev.bind e (Ev.congr (fun k => ?_) no)
      rw [if_pos rfl, bne_iff_ne.2 hS]
  · unfold Gl.cutP; rw [if_neg (fun x => h x.1)]
    have e := right_both N l
    cases hr : rightB N l
    · rw [hr] at e
      refine Ev.bind e (Ev.congr (fun k => ?_) no)
      rw [if_neg (by simp)]
    · exact absurd ((right_iff N l).1 hr) h
theorem reach_both (N : Int) (l : List S41) (F : List Int) (s : Int) : ∃ r : List Bool, r.length ≤ 64 ∧ Ev (fun k => graph_Reach.f k N l F s) r ∧ Ev (fun k => billetref05_Reach.f k N l F s) r := by
  by_cases h : FitsP N l F ∧ 0 ≤ s ∧ s < N
  · obtain ⟨S, e, t⟩ := Rf.reach_ev h.1 h.2
    have n1 := h.1.net.n1
    have e2 := Gl.told_same (Gl.seen_told h.1 h.2) t
    refine ⟨_, ?_, Gl.reach_ev h.1 h.2, by rw [e2]; exact e⟩
    rw [e2]
    have := t.len
    omega
  · refine ⟨[], by simp, Gl.reach_no h, ?_⟩
    have no : Ev (fun k => billetref05_Reach.j0 k F s true N l) [] := by
      refine Ev.step (f := fun _ => some []) (fun k => ?_) (Ev.now _)
      simp only [billetref05_Reach.j0]; rw [if_pos trivial]
    by_cases hf : FitsP N l F
    · refine Ev.bind (Rf.fits_true hf) (Ev.congr (fun k => ?_) no)
      rw [if_pos rfl]
      by_cases c : s < 0
      · rw [if_pos c]
      · rw [if_neg c, decide_eq_true (Int.not_lt.1 fun hc => h ⟨hf, by omega, hc⟩)]
    · refine Ev.bind (Rf.fits_false hf) (Ev.congr (fun k => ?_) no)
      rw [if_neg (by simp)]
end Go.Proofs.Ytfmfojogcghkkaa.Gr
