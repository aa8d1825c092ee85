/- GraphTells in plain terms: whatever the input the answer is true. -/
import Derived.Test.YtfmfojogcghkkaaGr
import Derived.Test.YtfmfojogcghkkaaPx19
namespace Go.Proofs.Ytfmfojogcghkkaa.Pgt
open Go.RowKit Go.Proofs.Ytfmfojogcghkkaa.P Go.Proofs.YtfmfojogcghkkaaW.PrintWords Go.Proofs.YtfmfojogcghkkaaW.PrintLast
open Go.Proofs.Ytfmfojogcghkkaa.Fl Go.Proofs.Ytfmfojogcghkkaa.Bf Go.Proofs.Ytfmfojogcghkkaa.Pp Go.Proofs.Ytfmfojogcghkkaa.Gp Go.Proofs.Ytfmfojogcghkkaa.Fw Go.Proofs.Ytfmfojogcghkkaa.Rf

theorem loop_ev (F : List Int) (hF : F.length ≤ 300) (d : Nat) : ∀ i : Nat, i ≤ F.length → F.length - i = d → Ev (fun k => billetlaw05_GraphTells.l0 k F true F true (i : Int)) true := by
  induction d with
  | zero =>
    intro i hi hd
    refine Ev.step (f := fun _ => some true) (fun k => ?_) (Ev.now _)
    simp only [billetlaw05_GraphTells.l0]; rw [if_neg (by omega), if_pos trivial]
  | succ d ih =>
    intro i hi hd
    refine Ev.step (fun k => ?_) (ih (i + 1) (by omega) (by omega))
    simp only [billetlaw05_GraphTells.l0]
    rw [if_pos (by omega), if_pos (by omega), if_pos (by omega), if_pos trivial, w64 (n := (i : Int) + 1) (by omega) (by omega)]; rfl
theorem tells (N : Int) (l : List S41) (F : List Int) (s t : Int) (S : List Bool) : Ev (fun k => billetlaw05_GraphTells.f k N l F s t S) true := by
  refine Ev.bind Gl.awake_ev ?_
  by_cases c1 : (l.length : Int) > 300
  · refine Ev.congr (f := fun k => billetlaw05_GraphTells.j0 k F s t S true true N l) (fun k => by rw [if_pos c1]) (Ev.step (f := fun k => (graph_Right.f k N l).bind fun t239 => (some (!t239))) (fun k => ?_) ?_)
    · simp only [billetlaw05_GraphTells.j0]; rw [if_pos trivial, if_pos trivial, if_neg (by omega)]
    · have e := Gl.right_ev N l
      have hr : rightB N l = false := by
        cases hr : rightB N l
        · rfl
        · have := ((right_iff N l).1 hr).len; omega
      rw [hr] at e
      exact Ev.bind e (Ev.now _)
  · by_cases c2 : (F.length : Int) > 300
    · refine Ev.congr (f := fun k => billetlaw05_GraphTells.j0 k F s t S true true N l) (fun k => by rw [if_neg c1, decide_eq_true c2]) (Ev.step (f := fun _ => some true) (fun k => ?_) (Ev.now _))
      simp only [billetlaw05_GraphTells.j0]; rw [if_pos trivial, if_pos trivial, if_pos (by omega)]
    · refine Ev.congr (f := fun k => billetlaw05_GraphTells.j0 k F s t S true false N l) (fun k => by rw [if_neg c1, decide_eq_false c2]) ?_
      obtain ⟨R, rl, r1, r2⟩ := Gr.reach_both N l F s
      have g1 := Gl.right_ev N l
      have g2 := Gr.right_both N l
      obtain ⟨g, h1, h2⟩ := Gr.good_both N l F s t
      have v1 := Gp.value_ev N l F s
      have v2 := Rf.value_ev N l F s
      have b := Gl.bools_ev (X := R) (by omega)
      have c1' := Gl.cutP_ev N l S
      have c2' := Gr.cut_both N l S
      have fin := loop_ev F (by omega) F.length 0 (by omega) (by omega)
      refine Ev.step (f := fun k => (graph_Reach.f k N l F s).bind fun t243 => ((billetref05_Reach.f k N l F s).bind fun t246 => ((graph_Right.f k N l).bind fun t249 => ((billetref05_Right.f k N l).bind fun t250 => (if (t249 == t250) = true then ((graph_Good.f k N l F s t).bind fun t251 => ((billetref05_Good.f k N l F s t).bind fun t252 => (if (t251 == t252) = true then ((graph_Value.f k N l F s).bind fun t253 => ((billetref05_Value.f k N l F s).bind fun t254 => (if t253 = t254 then ((billetlaw05_Bools.f k t243 t246).bind fun t255 => (if t255 = true then ((graph_Cut.f k N l S).bind fun t256 => ((billetref05_Cut.f k N l S).bind fun t257 => (billetlaw05_GraphTells.j1 k F true F (t256 == t257)))) else (none))) else (none)))) else (none)))) else (none)))))) (fun k => ?_)
        (Ev.bind r1 (Ev.bind (f := fun k t246 => ((graph_Right.f k N l).bind fun t249 => ((billetref05_Right.f k N l).bind fun t250 => (if (t249 == t250) = true then ((graph_Good.f k N l F s t).bind fun t251 => ((billetref05_Good.f k N l F s t).bind fun t252 => (if (t251 == t252) = true then ((graph_Value.f k N l F s).bind fun t253 => ((billetref05_Value.f k N l F s).bind fun t254 => (if t253 = t254 then ((billetlaw05_Bools.f k R t246).bind fun t255 => (if t255 = true then ((graph_Cut.f k N l S).bind fun t256 => ((billetref05_Cut.f k N l S).bind fun t257 => (billetlaw05_GraphTells.j1 k F true F (t256 == t257)))) else (none))) else (none)))) else (none)))) else (none))))) r2 (Ev.bind g1 (Ev.bind (f := fun k t250 => (if (rightB N l == t250) = true then ((graph_Good.f k N l F s t).bind fun t251 => ((billetref05_Good.f k N l F s t).bind fun t252 => (if (t251 == t252) = true then ((graph_Value.f k N l F s).bind fun t253 => ((billetref05_Value.f k N l F s).bind fun t254 => (if t253 = t254 then ((billetlaw05_Bools.f k R R).bind fun t255 => (if t255 = true then ((graph_Cut.f k N l S).bind fun t256 => ((billetref05_Cut.f k N l S).bind fun t257 => (billetlaw05_GraphTells.j1 k F true F (t256 == t257)))) else (none))) else (none)))) else (none)))) else (none))) g2
          (Ev.congr (f := fun k => ((graph_Good.f k N l F s t).bind fun t251 => ((billetref05_Good.f k N l F s t).bind fun t252 => (if (t251 == t252) = true then ((graph_Value.f k N l F s).bind fun t253 => ((billetref05_Value.f k N l F s).bind fun t254 => (if t253 = t254 then ((billetlaw05_Bools.f k R R).bind fun t255 => (if t255 = true then ((graph_Cut.f k N l S).bind fun t256 => ((billetref05_Cut.f k N l S).bind fun t257 => (billetlaw05_GraphTells.j1 k F true F (t256 == t257)))) else (none))) else (none)))) else (none))))) (fun k => by rw [if_pos (by simp)])
            (Ev.bind h1 (Ev.bind (f := fun k t252 => (if (g == t252) = true then ((graph_Value.f k N l F s).bind fun t253 => ((billetref05_Value.f k N l F s).bind fun t254 => (if t253 = t254 then ((billetlaw05_Bools.f k R R).bind fun t255 => (if t255 = true then ((graph_Cut.f k N l S).bind fun t256 => ((billetref05_Cut.f k N l S).bind fun t257 => (billetlaw05_GraphTells.j1 k F true F (t256 == t257)))) else (none))) else (none)))) else (none))) h2
              (Ev.congr (f := fun k => ((graph_Value.f k N l F s).bind fun t253 => ((billetref05_Value.f k N l F s).bind fun t254 => (if t253 = t254 then ((billetlaw05_Bools.f k R R).bind fun t255 => (if t255 = true then ((graph_Cut.f k N l S).bind fun t256 => ((billetref05_Cut.f k N l S).bind fun t257 => (billetlaw05_GraphTells.j1 k F true F (t256 == t257)))) else (none))) else (none))))) (fun k => by rw [if_pos (by simp)])
                (Ev.bind v1 (Ev.bind (f := fun k t254 => (if valP N l F s = t254 then ((billetlaw05_Bools.f k R R).bind fun t255 => (if t255 = true then ((graph_Cut.f k N l S).bind fun t256 => ((billetref05_Cut.f k N l S).bind fun t257 => (billetlaw05_GraphTells.j1 k F true F (t256 == t257)))) else (none))) else (none))) v2
                  (Ev.congr (f := fun k => ((billetlaw05_Bools.f k R R).bind fun t255 => (if t255 = true then ((graph_Cut.f k N l S).bind fun t256 => ((billetref05_Cut.f k N l S).bind fun t257 => (billetlaw05_GraphTells.j1 k F true F (t256 == t257)))) else (none)))) (fun k => by rw [if_pos rfl])
                    (Ev.bind b (Ev.congr (f := fun k => ((graph_Cut.f k N l S).bind fun t256 => ((billetref05_Cut.f k N l S).bind fun t257 => (billetlaw05_GraphTells.j1 k F true F (t256 == t257))))) (fun k => by rw [if_pos rfl])
                      (Ev.bind c1' (Ev.bind (f := fun k t257 => billetlaw05_GraphTells.j1 k F true F (Gl.cutP N l S == t257)) c2' (Ev.step (fun k => ?_) fin))))))))))))))))
      · simp only [billetlaw05_GraphTells.j0]; rw [if_neg (by simp), if_pos (by simp; omega), List.nil_append, Option.bind_some]
      · simp only [billetlaw05_GraphTells.j1]; rw [beq_self_eq_true]; rfl
theorem told {N : Int} {l : List S41} {F : List Int} {s t : Int} {S : List Bool} (_ : I64 N) (_ : ∀ x ∈ l, Sz x) (_ : ∀ x ∈ F, I64 x) (_ : I64 s) (_ : I64 t) : Ev (fun k => billetlaw05_GraphTells.f k N l F s t S) true := tells N l F s t S
#print axioms told
end Go.Proofs.Ytfmfojogcghkkaa.Pgt
