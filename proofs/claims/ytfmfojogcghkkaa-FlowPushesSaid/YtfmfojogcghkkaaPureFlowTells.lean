/- FlowTells and FlowPushes in plain terms: whatever the input the answer is true. -/
import Derived.Test.YtfmfojogcghkkaaFm
import Derived.Test.YtfmfojogcghkkaaRp
import Derived.Test.YtfmfojogcghkkaaPx38
namespace Go.Proofs.Ytfmfojogcghkkaa.Pte
open Go.RowKit Go.Proofs.Ytfmfojogcghkkaa.P Go.Proofs.YtfmfojogcghkkaaW.PrintWords Go.Proofs.YtfmfojogcghkkaaW.PrintLast
open Go.Proofs.Ytfmfojogcghkkaa.Fl Go.Proofs.Ytfmfojogcghkkaa.Bf Go.Proofs.Ytfmfojogcghkkaa.Pp Go.Proofs.Ytfmfojogcghkkaa.Gp Go.Proofs.Ytfmfojogcghkkaa.Fw Go.Proofs.Ytfmfojogcghkkaa.Fm

theorem ints_loop (X : List Int) (hX : X.length ≤ 1000000) (d : Nat) : ∀ i : Nat, i ≤ X.length → X.length - i = d → Ev (fun k => billetlaw06_Ints.l0 k X X (i : Int)) true := by
  induction d with
  | zero =>
    intro i hi hd
    refine Ev.step (f := fun _ => some true) (fun k => ?_) (Ev.now _)
    simp only [billetlaw06_Ints.l0]; rw [if_neg (by omega)]
  | succ d ih =>
    intro i hi hd
    refine Ev.step (fun k => ?_) (ih (i + 1) (by omega) (by omega))
    simp only [billetlaw06_Ints.l0]
    rw [if_pos (by omega), if_pos (by omega), if_pos (by omega), if_pos trivial, w64 (n := (i : Int) + 1) (by omega) (by omega)]; rfl
theorem ints_ev {X : List Int} (hX : X.length ≤ 1000000) : Ev (fun k => billetlaw06_Ints.f k X X) true := by
  refine Ev.congr (f := fun k => billetlaw06_Ints.l0 k X X 0) (fun k => ?_) (ints_loop X hX X.length 0 (by omega) (by omega))
  simp only [billetlaw06_Ints.f]; rw [if_pos trivial]

/-- Push's answer is no longer than the network's edges. -/
theorem both_len (N : Int) (l : List S41) (F : List Int) (s t m : Int) (hm : m ≤ 9223372036854775807) : ∃ r, Ev (fun k => flow_Push.f k N l F s t m) r ∧ Ev (fun k => billetref06_Push.f k N l F s t m) r ∧ r.1.length ≤ 256 := by
  obtain ⟨r, h1, h2⟩ := Rp.both N l F s t m hm
  refine ⟨r, h1, h2, ?_⟩
  by_cases g : GoodP N l F s t ∧ 0 ≤ m
  · obtain ⟨F', v, e, p⟩ := push_ev g.1 g.2 hm
    have := Ev.uniq h1 e
    subst this
    have h := p.len
    have := g.1.net.len
    show F'.length ≤ 256
    omega
  · have := Ev.uniq h1 (push_no g)
    subst this
    simp
theorem max_both (N : Int) (l : List S41) (s t : Int) (hl : l.length ≤ 300) : ∃ r, Ev (fun k => flow_Max.f k N l s t) r ∧ Ev (fun k => billetref06_Max.f k N l s t) r ∧ r.1.length ≤ 256 := by
  obtain ⟨r, h1, h2, h3⟩ := both_len N l (List.replicate l.length 0) s t 1073741824 (by omega)
  have e2 : Ev (fun k => billetref06_Max.f k N l s t) r := by
    refine Ev.congr (f := fun k => (billetref06_Push.f k N l (List.replicate l.length 0) s t 1073741824).bind fun bt630 => (some (bt630.1, bt630.2.1, bt630.2.2))) (fun k => ?_) (Ev.bind h2 (Ev.now _))
    simp only [billetref06_Max.f]
    have e : mn (l.length : Int) 300 = (l.length : Int) := by unfold mn; split <;> omega
    rw [e, if_pos (by omega), if_pos (by omega)]; rfl
  by_cases c : l.length ≤ 256
  · refine ⟨r, Ev.congr (f := fun k => (flow_Push.f k N l (List.replicate l.length 0) s t 1073741824).bind fun bt552 => (some (bt552.1, bt552.2.1, bt552.2.2))) (fun k => ?_) (Ev.bind h1 (Ev.now _)), e2, h3⟩
    simp only [flow_Max.f]
    rw [if_neg (by omega), if_pos (by omega), if_pos (by omega)]; rfl
  · have g : ¬ (GoodP N l (List.replicate l.length 0) s t ∧ (0 : Int) ≤ 1073741824) := fun h => c h.1.net.len
    have := Ev.uniq h1 (push_no g)
    subst this
    refine ⟨_, Ev.congr (f := fun _ => some ([], 0, 50)) (fun k => ?_) (Ev.now _), e2, h3⟩
    simp only [flow_Max.f]
    rw [if_pos (by omega)]

theorem tells (N : Int) (l : List S41) (F : List Int) (s t m : Int) (hm : m ≤ 9223372036854775807) : Ev (fun k => billetlaw06_FlowTells.f k N l F s t m) true := by
  refine Ev.bind awake_ev ?_
  have no : Ev (fun k => billetlaw06_FlowTells.j0 k F s t m true true N l) true := by
    refine Ev.step (f := fun _ => some true) (fun k => ?_) (Ev.now _)
    simp only [billetlaw06_FlowTells.j0]; rw [if_pos trivial]
  by_cases c1 : (l.length : Int) > 300
  · exact Ev.congr (fun k => by rw [if_pos c1]) no
  · by_cases c2 : (F.length : Int) > 300
    · exact Ev.congr (fun k => by rw [if_neg c1, decide_eq_true c2]) no
    · refine Ev.congr (f := fun k => billetlaw06_FlowTells.j0 k F s t m true false N l) (fun k => by rw [if_neg c1, decide_eq_false c2]) ?_
      obtain ⟨⟨F', v, e⟩, p1, p2, p3⟩ := both_len N l F s t m hm
      obtain ⟨⟨G', w, g⟩, q1, q2, q3⟩ := max_both N l s t (by omega)
      have i1 := ints_ev (X := F') (by have : F'.length ≤ 256 := p3; omega)
      have i2 := ints_ev (X := G') (by have : G'.length ≤ 256 := q3; omega)
      have i3 := ints_ev (X := F) (by omega)
      refine Ev.step (f := fun k => ((flow_Push.f k N l F s t m).bind fun bt640 => ((billetref06_Push.f k N l F s t m).bind fun bt645 => ((flow_Max.f k N l s t).bind fun bt650 => ((billetref06_Max.f k N l s t).bind fun bt655 => ((billetlaw06_Ints.f k bt640.1 bt645.1).bind fun t660 => (if t660 = true then (if bt640.2.1 = bt645.2.1 then (if bt640.2.2 = bt645.2.2 then ((billetlaw06_Ints.f k bt650.1 bt655.1).bind fun t661 => (if t661 = true then (if bt650.2.1 = bt655.2.1 then (if bt650.2.2 = bt655.2.2 then ((billetlaw06_Ints.f k F F).bind fun t662 => (some t662)) else (some false)) else (some false)) else (some false))) else (some false)) else (some false)) else (some false)))))))) (fun k => ?_) (Ev.bind p1 (Ev.bind (f := fun k bt645 => _) p2 (Ev.bind (f := fun k bt650 => _) q1 (Ev.bind (f := fun k bt655 => _) q2 (Ev.bind (f := fun k t660 => _) i1 ?_)))))
      · simp only [billetlaw06_FlowTells.j0]; rw [if_neg (by simp), if_pos (by simp; omega), List.nil_append, Option.bind_some]; simp only [if_true]
      · refine Ev.congr (f := fun k => ((billetlaw06_Ints.f k G' G').bind fun t661 => (if t661 = true then ((billetlaw06_Ints.f k F F).bind fun t662 => (some t662)) else (some false)))) (fun k => ?_) (Ev.bind i2 (Ev.congr (f := fun k => (billetlaw06_Ints.f k F F).bind fun t662 => (some t662)) (fun k => ?_) (Ev.bind i3 (Ev.now _))))
        · simp only [if_true]
        · simp only [if_true]
theorem told {N : Int} {l : List S41} {F : List Int} {s t m : Int} (_ : I64 N) (_ : ∀ x ∈ l, Sz x) (_ : ∀ x ∈ F, I64 x) (_ : I64 s) (_ : I64 t) (hm : I64 m) : Ev (fun k => billetlaw06_FlowTells.f k N l F s t m) true := tells N l F s t m hm.2
#print axioms told
end Go.Proofs.Ytfmfojogcghkkaa.Pte
