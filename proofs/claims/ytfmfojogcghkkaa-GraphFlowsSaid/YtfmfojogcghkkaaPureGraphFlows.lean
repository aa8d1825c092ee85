/- GraphFlows in plain terms: whatever the input the answer is true. -/
import Derived.Test.YtfmfojogcghkkaaPureGraphTells
import Derived.Test.YtfmfojogcghkkaaFw
import Derived.Test.YtfmfojogcghkkaaPx23
namespace Go.Proofs.Ytfmfojogcghkkaa.Pgf
open Go.RowKit Go.Proofs.Ytfmfojogcghkkaa.P Go.Proofs.YtfmfojogcghkkaaW.PrintWords Go.Proofs.YtfmfojogcghkkaaW.PrintLast
open Go.Proofs.Ytfmfojogcghkkaa.Fl Go.Proofs.Ytfmfojogcghkkaa.Bf Go.Proofs.Ytfmfojogcghkkaa.Pp Go.Proofs.Ytfmfojogcghkkaa.Gp Go.Proofs.Ytfmfojogcghkkaa.Fw Go.Proofs.Ytfmfojogcghkkaa.Rf

theorem flows {a0 : Int} {l0 : List S41} {l1 : List Int} {a2 : Int} {l3 : List Bool} (h0 : I64 a0) (hl : ∀ x ∈ l0, Sz x) (h1 : ∀ x ∈ l1, I64 x) (h2 : I64 a2) : Ev (fun k => billetlaw05_GraphFlows.f k a0 l0 l1 a2 l3) true := by
  have hf := fit_ok (fitN_bd a0).1 (fitN_bd a0).2 l0
  have ef := fit_ev h0 hl
  generalize fitN a0 = N at hf ef
  generalize fitL N l0 = l at hf ef
  obtain ⟨F, eF, gF⟩ := flow_ev hf.net h1
  have n0 := hf.n0
  have p2 : Ev (fun _ => billetlaw05_pick.f a2 N) (pk a2 N) := ⟨0, fun _ _ => pick_ev h2 (by omega)⟩
  have t1 := Pgt.tells N l F (pk a2 N) 1 l3
  have t2 := Pgt.tells N l F 0 (pk a2 N) l3
  refine Ev.bind ef (Ev.bind eF (Ev.bind (Gl.right_true hf.net) (Ev.congr (f := fun k => ((graph_Good.f k N l F 0 1).bind fun t314 => (if t314 = true then ((billetlaw05_pick.f a2 N).bind fun t315 => ((billetlaw05_GraphTells.f k N l F t315 1 l3).bind fun t316 => (if t316 = true then ((billetlaw05_pick.f a2 N).bind fun t317 => ((billetlaw05_GraphTells.f k N l F 0 t317 l3).bind fun t318 => (some t318))) else (some false)))) else (some false)))) (fun k => by rw [if_pos rfl])
    (Ev.bind (good_true gF.1) (Ev.congr (f := fun k => ((billetlaw05_pick.f a2 N).bind fun t315 => ((billetlaw05_GraphTells.f k N l F t315 1 l3).bind fun t316 => (if t316 = true then ((billetlaw05_pick.f a2 N).bind fun t317 => ((billetlaw05_GraphTells.f k N l F 0 t317 l3).bind fun t318 => (some t318))) else (some false))))) (fun k => by rw [if_pos rfl])
      (Ev.bind p2 (Ev.bind (f := fun k t316 => (if t316 = true then ((billetlaw05_pick.f a2 N).bind fun t317 => ((billetlaw05_GraphTells.f k N l F 0 t317 l3).bind fun t318 => (some t318))) else (some false))) t1 (Ev.congr (f := fun k => ((billetlaw05_pick.f a2 N).bind fun t317 => ((billetlaw05_GraphTells.f k N l F 0 t317 l3).bind fun t318 => (some t318)))) (fun k => by rw [if_pos rfl]) (Ev.bind p2 (Ev.bind (f := fun _ t318 => some t318) t2 (Ev.now _)))))))))))
#print axioms flows
end Go.Proofs.Ytfmfojogcghkkaa.Pgf
