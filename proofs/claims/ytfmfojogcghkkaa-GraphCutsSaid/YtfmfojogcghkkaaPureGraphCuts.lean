/- GraphCuts in plain terms: whatever the input the answer is true. -/
import Derived.Test.YtfmfojogcghkkaaGl
import Derived.Test.YtfmfojogcghkkaaFw
import Derived.Test.YtfmfojogcghkkaaPx24
namespace Go.Proofs.Ytfmfojogcghkkaa.Pgc
open Go.RowKit Go.Proofs.Ytfmfojogcghkkaa.P Go.Proofs.YtfmfojogcghkkaaW.PrintWords Go.Proofs.YtfmfojogcghkkaaW.PrintLast
open Go.Proofs.Ytfmfojogcghkkaa.Fl Go.Proofs.Ytfmfojogcghkkaa.Bf Go.Proofs.Ytfmfojogcghkkaa.Pp Go.Proofs.Ytfmfojogcghkkaa.Gp Go.Proofs.Ytfmfojogcghkkaa.Fw Go.Proofs.Ytfmfojogcghkkaa.Rf Go.Proofs.Ytfmfojogcghkkaa.Gl

theorem side01 {X : List Bool} (h : 2 ≤ X.length) : sideF ((X.set (0 : Int).toNat true).set (1 : Int).toNat false) 0 = true ∧ sideF ((X.set (0 : Int).toNat true).set (1 : Int).toNat false) 1 = false := by
  match X, h with
  | a :: b :: X, _ => exact ⟨rfl, rfl⟩
section
variable {N : Int} {l : List S41} {F : List Int}
theorem val_bd (hg : G01 N l F) (v : Nat) : -256000 ≤ bal (nw N l) (fl F) v ∧ bal (nw N l) (fl F) v ≤ 256000 := by
  have hlen := hg.1.net.len
  have h := bal_bd (G := nw N l) (f := fl F) (B := 1000) (fun i hi => good_bd hg.1.net hg.1.good.fits i hi) v
  have em : (nw N l).m = l.length := rfl
  rw [em] at h
  omega
theorem fin_ev (hg : G01 N l F) {X : List Bool} (hX : (X.length : Int) = N) :
    Ev (fun k => (if 0 < (X.length : Int) then (if 1 < (X.length : Int) then ((graph_Value.f k N l F 0).bind fun t336 => (if true = true then (if t336 ≥ 0 then ((graph_Value.f k N l F 1).bind fun t337 => (if t337 = (wrap64 (-t336)) then ((graph_Cut.f k N l ((X.set (0 : Int).toNat true).set (1 : Int).toNat false)).bind fun t338 => (some (decide (t338 ≥ t336)))) else (some false))) else (some false)) else (some false))) else (none)) else (none))) true := by
  have n0 := hg.1.net.n0
  have ev0 := val_of (Gl.GoodP.fp hg.1) (s := 0) (by omega)
  have ev1 := val_of (Gl.GoodP.fp hg.1) (s := 1) (by omega)
  have h0 := hg.2
  have hb := val_bd hg (0 : Int).toNat
  have he : bal (nw N l) (fl F) (1 : Int).toNat = - bal (nw N l) (fl F) (0 : Int).toNat := bal_end hg.1.good
  obtain ⟨s0, s1⟩ := side01 (X := X) (by omega)
  have ec := cut_ev (S := (X.set (0 : Int).toNat true).set (1 : Int).toNat false) hg.1.net (by rw [List.length_set, List.length_set]; exact hX)
  have hc : bal (nw N l) (fl F) (0 : Int).toNat ≤ cut (nw N l) (sideF ((X.set (0 : Int).toNat true).set (1 : Int).toNat false)) := val_le_cut hg.1.good s0 s1
  have h0 : 0 ≤ bal (nw N l) (fl F) (0 : Int).toNat := h0
  refine Ev.congr (f := fun k => (graph_Value.f k N l F 0).bind fun t336 => (if t336 ≥ 0 then ((graph_Value.f k N l F 1).bind fun t337 => (if t337 = (wrap64 (-t336)) then ((graph_Cut.f k N l ((X.set (0 : Int).toNat true).set (1 : Int).toNat false)).bind fun t338 => (some (decide (t338 ≥ t336)))) else (some false))) else (some false))) (fun k => ?_) (Ev.bind ev0 (Ev.congr (f := fun k => (graph_Value.f k N l F 1).bind fun t337 => (if t337 = (wrap64 (-(bal (nw N l) (fl F) (0 : Int).toNat))) then ((graph_Cut.f k N l ((X.set (0 : Int).toNat true).set (1 : Int).toNat false)).bind fun t338 => (some (decide (t338 ≥ (bal (nw N l) (fl F) (0 : Int).toNat))))) else (some false))) (fun k => ?_) (Ev.bind ev1 (Ev.congr (f := fun k => (graph_Cut.f k N l ((X.set (0 : Int).toNat true).set (1 : Int).toNat false)).bind fun t338 => (some (decide (t338 ≥ (bal (nw N l) (fl F) (0 : Int).toNat))))) (fun k => ?_) (Ev.bind ec (Ev.congr (fun k => ?_) (Ev.now _)))))))
  · rw [if_pos (by omega), if_pos (by omega)]; simp only [if_true]
  · rw [if_pos h0]
  · rw [if_pos (by rw [he, w64 (by omega) (by omega)])]
  · rw [decide_eq_true hc]
theorem loop_ev (hg : G01 N l F) (S : List Bool) (d : Nat) : ∀ (i : Nat) (X : List Bool), (i : Int) ≤ N → N.toNat - i = d → (X.length : Int) = N → Ev (fun k => billetlaw05_GraphCuts.l0 k S true F X (i : Int) N l) true := by
  have n1 := hg.1.net.n1
  induction d with
  | zero =>
    intro i X hi hd hX
    refine Ev.step (fun k => ?_) (fin_ev hg hX)
    simp only [billetlaw05_GraphCuts.l0]; rw [if_neg (by omega)]
  | succ d ih =>
    intro i X hi hd hX
    by_cases c : (i : Int) < (S.length : Int)
    · refine Ev.step (fun k => ?_) (ih (i + 1) (X.set (i : Int).toNat (rdOf false S i)) (by omega) (by omega) (by rw [List.length_set]; exact hX))
      simp only [billetlaw05_GraphCuts.l0]
      rw [if_pos (by omega), if_pos c, if_pos (by omega), if_pos (by omega), w64 (n := (i : Int) + 1) (by omega) (by omega)]; rfl
    · refine Ev.step (fun k => ?_) (fin_ev hg hX)
      simp only [billetlaw05_GraphCuts.l0]; rw [if_pos (by omega), if_neg c]
end
theorem cuts {a0 : Int} {l0 : List S41} {l1 : List Int} {l2 : List Bool} (h0 : I64 a0) (hl : ∀ x ∈ l0, Sz x) (h1 : ∀ x ∈ l1, I64 x) : Ev (fun k => billetlaw05_GraphCuts.f k a0 l0 l1 l2) true := by
  have hf := fit_ok (fitN_bd a0).1 (fitN_bd a0).2 l0
  have ef := fit_ev h0 hl
  generalize fitN a0 = N at hf ef
  generalize fitL N l0 = l at hf ef
  obtain ⟨F, eF, gF⟩ := flow_ev hf.net h1
  have n0 := hf.n0
  have n1 := hf.n1
  refine Ev.bind Gl.awake_ev (Ev.bind ef (Ev.bind eF (Ev.congr (f := fun k => billetlaw05_GraphCuts.l0 k l2 true F (List.replicate N.toNat false) ((0 : Nat) : Int) N l) (fun k => ?_) (loop_ev gF l2 N.toNat 0 _ (by omega) (by omega) (by simp; omega)))))
  rw [if_pos (by omega), if_pos (by omega)]; rfl
#print axioms cuts
end Go.Proofs.Ytfmfojogcghkkaa.Pgc
