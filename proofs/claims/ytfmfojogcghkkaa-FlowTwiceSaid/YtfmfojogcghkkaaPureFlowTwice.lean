/- FlowTwice in plain terms. -/
import Derived.Test.YtfmfojogcghkkaaFm
import Derived.Test.YtfmfojogcghkkaaPx46
namespace Go.Proofs.Ytfmfojogcghkkaa.Pt
open Go.RowKit Go.Proofs.Ytfmfojogcghkkaa.P Go.Proofs.YtfmfojogcghkkaaW.PrintWords Go.Proofs.YtfmfojogcghkkaaW.PrintLast
open Go.Proofs.Ytfmfojogcghkkaa.Fl Go.Proofs.Ytfmfojogcghkkaa.Bf Go.Proofs.Ytfmfojogcghkkaa.Pp Go.Proofs.Ytfmfojogcghkkaa.Gp Go.Proofs.Ytfmfojogcghkkaa.Fw Go.Proofs.Ytfmfojogcghkkaa.Fm

theorem twice {a0 : Int} {l0 : List S41} {l1 : List Int} {a2 a3 : Int} (h0 : I64 a0) (hl : ∀ x ∈ l0, Sz x) (h1 : ∀ x ∈ l1, I64 x) (h2 : I64 a2) (h3 : I64 a3) : Ev (fun k => billetlaw06_FlowTwice.f k a0 l0 l1 a2 a3) true := by
  have hf := fit_ok (fitN_bd a0).1 (fitN_bd a0).2 l0
  have ef := fit_ev h0 hl
  generalize fitN a0 = N at hf ef
  generalize fitL N l0 = l at hf ef
  obtain ⟨F, eF, gF⟩ := flow_ev hf.net h1
  have b2 := pk_bd a2 (n := 20) (by omega)
  have b3 := pk_bd a3 (n := 20) (by omega)
  have p2 := pick6 h2 (n := 20) (by omega)
  have p3 := pick6 h3 (n := 20) (by omega)
  generalize pk a2 20 = x at b2 p2
  generalize pk a3 20 = y at b3 p3
  obtain ⟨A, v, eA, pA⟩ := push_ev gF.1 (m := x) b2.1 (by omega)
  have gA := Pushed.goodP gF.1 pA
  obtain ⟨B, w, eB, pB⟩ := push_ev gA (m := y) b3.1 (by omega)
  have gB := Pushed.goodP gA pB
  obtain ⟨C, z, eC, pC⟩ := push_ev gF.1 (m := x + y) (by omega) (by omega)
  have gC := Pushed.goodP gF.1 pC
  have key : v + w = z ∧ bal (nw N l) (fl B) 0 = bal (nw N l) (fl C) 0 := by
    have a1 := pA.bal; have a2 := pA.lo; have a3 := pA.hi
    have b1 := pB.bal; have b2 := pB.lo; have b3 := pB.hi
    have c1 := pC.bal; have c2 := pC.lo; have c3 := pC.hi
    have mA : v = x ∨ bal (nw N l) (fl C) 0 ≤ bal (nw N l) (fl A) 0 := pA.most.imp id fun h => most_le gA gC h
    have mB : w = y ∨ bal (nw N l) (fl C) 0 ≤ bal (nw N l) (fl B) 0 := pB.most.imp id fun h => most_le gB gC h
    have mC : z = x + y ∨ bal (nw N l) (fl B) 0 ≤ bal (nw N l) (fl C) 0 := pC.most.imp id fun h => most_le gC gB h
    simp only [Int.toNat_zero] at a1 b1 c1
    omega
  have bA := pA.lo; have bA' := pA.hi; have bB := pB.lo; have bB' := pB.hi
  have n0 := hf.n0
  have eV1 := val_of (s := 0) (GoodP.fp gB) (by omega)
  have eV2 := val_of (s := 0) (GoodP.fp gC) (by omega)
  refine Ev.bind awake_ev (Ev.bind ef (Ev.bind eF (Ev.bind p2 (Ev.bind p3 (Ev.bind eA (Ev.bind eB ?_))))))
  refine Ev.congr (f := fun k => (flow_Push.f k N l F 0 1 (x + y)).bind fun bt => if bt.2.2 = 0 then (if v + w = bt.2.1 then (graph_Value.f k N l B 0).bind fun t => (graph_Value.f k N l bt.1 0).bind fun s => some (t == s) else some false) else some false) (fun k => ?_) (Ev.bind eC ?_)
  · rw [w64 (n := x + y) (by omega) (by omega)]
    simp only [if_true]
    rw [w64 (n := v + w) (by omega) (by omega)]
  · refine Ev.congr (f := fun k => (graph_Value.f k N l B 0).bind fun t => (graph_Value.f k N l C 0).bind fun s => some (t == s)) (fun k => ?_) (Ev.bind eV1 (Ev.bind (f := fun _ s => some (bal (nw N l) (fl B) (Int.toNat 0) == s)) eV2 (Ev.congr (fun k => ?_) (Ev.now _))))
    · rw [if_pos rfl, if_pos key.1]
    · show some _ = some true
      congr 1
      simpa using key.2
#print axioms twice
end Go.Proofs.Ytfmfojogcghkkaa.Pt
