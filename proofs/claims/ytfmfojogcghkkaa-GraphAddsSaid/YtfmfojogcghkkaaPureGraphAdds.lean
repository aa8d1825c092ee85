/- GraphAdds in plain terms: whatever the input the answer is true. -/
import Derived.Test.YtfmfojogcghkkaaGl
import Derived.Test.YtfmfojogcghkkaaFw
import Derived.Test.YtfmfojogcghkkaaPx28
namespace Go.Proofs.Ytfmfojogcghkkaa.Pga
open Go.RowKit Go.Proofs.Ytfmfojogcghkkaa.P Go.Proofs.YtfmfojogcghkkaaW.PrintWords Go.Proofs.YtfmfojogcghkkaaW.PrintLast
open Go.Proofs.Ytfmfojogcghkkaa.Fl Go.Proofs.Ytfmfojogcghkkaa.Bf Go.Proofs.Ytfmfojogcghkkaa.Pp Go.Proofs.Ytfmfojogcghkkaa.Gp Go.Proofs.Ytfmfojogcghkkaa.Fw Go.Proofs.Ytfmfojogcghkkaa.Rf Go.Proofs.Ytfmfojogcghkkaa.Gl

section
variable {N : Int} {l : List S41} {F : List Int}
theorem val_bd (hg : G01 N l F) (v : Nat) : -256000 ≤ bal (nw N l) (fl F) v ∧ bal (nw N l) (fl F) v ≤ 256000 := by
  have hlen := hg.1.net.len
  have h := bal_bd (G := nw N l) (f := fl F) (B := 1000) (fun i hi => good_bd hg.1.net hg.1.good.fits i hi) v
  have em : (nw N l).m = l.length := rfl
  rw [em] at h
  omega
theorem sum_bd (hg : G01 N l F) : ∀ v : Nat, -(256000 * (v : Int)) ≤ sm (fun v => bal (nw N l) (fl F) v) v ∧ sm (fun v => bal (nw N l) (fl F) v) v ≤ 256000 * v
  | 0 => by simp [sm]
  | v + 1 => by
    have ih := sum_bd hg v
    have h := val_bd hg v
    simp only [sm]
    omega
theorem loop_ev (hg : G01 N l F) (d : Nat) : ∀ v : Nat, (v : Int) ≤ N → N.toNat - v = d → Ev (fun k => billetlaw05_GraphAdds.l0 k true F (sm (fun v => bal (nw N l) (fl F) v) v) (v : Int) N l) true := by
  have n1 := hg.1.net.n1
  induction d with
  | zero =>
    intro v hv hd
    have e : sm (fun v => bal (nw N l) (fl F) v) v = 0 := by
      have h : sm (fun v => bal (nw N l) (fl F) v) N.toNat = 0 := bal_all hg.1.good.ok (fl F)
      rw [show v = N.toNat by omega]; exact h
    rw [e]
    refine Ev.step (f := fun _ => some true) (fun k => ?_) (Ev.now _)
    simp only [billetlaw05_GraphAdds.l0]; rw [if_neg (by omega), if_pos trivial]; rfl
  | succ d ih =>
    intro v hv hd
    have ev0 := val_of (Gl.GoodP.fp hg.1) (s := (v : Int)) (by omega)
    rw [Int.toNat_natCast] at ev0
    have hb := sum_bd hg v
    have h := val_bd hg v
    refine Ev.step (f := fun k => (graph_Value.f k N l F v).bind fun t439 => (if (v : Int) > 1 then (if t439 = 0 then (billetlaw05_GraphAdds.l0 k true F (wrap64 (sm (fun v => bal (nw N l) (fl F) v) v + t439)) (wrap64 ((v : Int) + 1)) N l) else (some false)) else (billetlaw05_GraphAdds.l0 k true F (wrap64 (sm (fun v => bal (nw N l) (fl F) v) v + t439)) (wrap64 ((v : Int) + 1)) N l))) (fun k => ?_) (Ev.bind ev0 (Ev.congr (fun k => ?_) (ih (v + 1) (by omega) (by omega))))
    · simp only [billetlaw05_GraphAdds.l0]; rw [if_pos (by omega)]
    · rw [w64 (by omega) (by omega), w64 (by omega) (by omega)]
      by_cases c : (v : Int) > 1
      · have h0 : bal (nw N l) (fl F) v = 0 := hg.1.good.bal v (show v < N.toNat by omega) (show v ≠ 0 by omega) (show v ≠ 1 by omega)
        rw [if_pos c, if_pos h0]; rfl
      · rw [if_neg c]; rfl
end
theorem adds {a0 : Int} {l0 : List S41} {l1 : List Int} (h0 : I64 a0) (hl : ∀ x ∈ l0, Sz x) (h1 : ∀ x ∈ l1, I64 x) : Ev (fun k => billetlaw05_GraphAdds.f k a0 l0 l1) true := by
  have hf := fit_ok (fitN_bd a0).1 (fitN_bd a0).2 l0
  have ef := fit_ev h0 hl
  generalize fitN a0 = N at hf ef
  generalize fitL N l0 = l at hf ef
  obtain ⟨F, eF, gF⟩ := flow_ev hf.net h1
  have n0 := hf.n0
  refine Ev.bind Gl.awake_ev (Ev.bind ef (Ev.bind eF (Ev.congr (fun k => ?_) (loop_ev gF N.toNat 0 (by omega) (by omega)))))
  rfl
#print axioms adds
end Go.Proofs.Ytfmfojogcghkkaa.Pga
