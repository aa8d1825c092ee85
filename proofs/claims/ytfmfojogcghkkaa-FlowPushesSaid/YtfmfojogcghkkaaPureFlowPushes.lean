/- FlowPushes in plain terms: whatever the input the answer is true. -/
import Derived.Test.YtfmfojogcghkkaaPureFlowTells
import Derived.Test.YtfmfojogcghkkaaPx40
import Derived.Test.YtfmfojogcghkkaaFn
namespace Go.Proofs.Ytfmfojogcghkkaa.Ppu
open Go.RowKit Go.Proofs.Ytfmfojogcghkkaa.P Go.Proofs.YtfmfojogcghkkaaW.PrintWords Go.Proofs.YtfmfojogcghkkaaW.PrintLast
open Go.Proofs.Ytfmfojogcghkkaa.Fl Go.Proofs.Ytfmfojogcghkkaa.Bf Go.Proofs.Ytfmfojogcghkkaa.Pp Go.Proofs.Ytfmfojogcghkkaa.Gp Go.Proofs.Ytfmfojogcghkkaa.Fw Go.Proofs.Ytfmfojogcghkkaa.Fm

theorem pushes {a0 : Int} {l0 : List S41} {l1 : List Int} {a2 : Int} (h0 : I64 a0) (hl : ∀ x ∈ l0, Sz x) (h1 : ∀ x ∈ l1, I64 x) (h2 : I64 a2) : Ev (fun k => billetlaw06_FlowPushes.f k a0 l0 l1 a2) true := by
  have hf := fit_ok (fitN_bd a0).1 (fitN_bd a0).2 l0
  have ef := fit_ev h0 hl
  generalize fitN a0 = N at hf ef
  generalize fitL N l0 = l at hf ef
  obtain ⟨F, eF, gF⟩ := flow_ev hf.net h1
  have b2 := pk_bd a2 (n := 40) (by omega)
  have p2 := pick6 h2 (n := 40) (by omega)
  have et := Pte.tells N l F 0 1 (pk a2 40) (by omega)
  refine Ev.bind ef (Ev.bind eF (Ev.bind (Rf.good_true gF.1) (Ev.congr (f := fun k => (billetlaw06_pick.f a2 40).bind fun t673 => ((billetlaw06_FlowTells.f k N l F 0 1 t673).bind fun t674 => (some t674))) (fun k => ?_) (Ev.bind p2 (Ev.bind et (Ev.now _))))))
  simp only [if_true]
#print axioms pushes
end Go.Proofs.Ytfmfojogcghkkaa.Ppu
