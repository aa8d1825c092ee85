/- FlowAdds in plain terms. -/
import Derived.Test.YtfmfojogcghkkaaFm
import Derived.Test.YtfmfojogcghkkaaRf
import Derived.Test.YtfmfojogcghkkaaPx42
namespace Go.Proofs.Ytfmfojogcghkkaa.Pa
open Go.RowKit Go.Proofs.Ytfmfojogcghkkaa.P Go.Proofs.YtfmfojogcghkkaaW.PrintWords Go.Proofs.YtfmfojogcghkkaaW.PrintLast
open Go.Proofs.Ytfmfojogcghkkaa.Fl Go.Proofs.Ytfmfojogcghkkaa.Bf Go.Proofs.Ytfmfojogcghkkaa.Pp Go.Proofs.Ytfmfojogcghkkaa.Gp Go.Proofs.Ytfmfojogcghkkaa.Fw Go.Proofs.Ytfmfojogcghkkaa.Fm

theorem adds {a0 : Int} {l0 : List S41} {l1 : List Int} {a2 : Int} (h0 : I64 a0) (hl : ∀ x ∈ l0, Sz x) (h1 : ∀ x ∈ l1, I64 x) (h2 : I64 a2) : Ev (fun k => billetlaw06_FlowAdds.f k a0 l0 l1 a2) true := by
  have hf := fit_ok (fitN_bd a0).1 (fitN_bd a0).2 l0
  have ef := fit_ev h0 hl
  generalize fitN a0 = N at hf ef
  generalize fitL N l0 = l at hf ef
  have n0 := hf.n0
  obtain ⟨F, eF, gF⟩ := flow_ev hf.net h1
  have b2 := pk_bd a2 (n := 40) (by omega)
  have p2 := pick6 h2 (n := 40) (by omega)
  generalize pk a2 40 = m at b2 p2
  obtain ⟨G, v, eG, pG⟩ := push_ev gF.1 (m := m) b2.1 (by omega)
  have gG := Pushed.goodP gF.1 pG
  have lo := pG.lo; have hi := pG.hi; have hb := pG.bal; have hm := pG.most
  obtain ⟨S, eS, tS⟩ := Rf.reach_ev (s := 0) (GoodP.fp gG) (by omega)
  have eV := Rf.val_of (s := 0) (GoodP.fp gG) (by omega)
  have eW := Rf.val_of (s := 0) (GoodP.fp gF.1) (by omega)
  have eC := Rf.cut_ev hf.net tS.len
  have bd := bal_bd (G := nw N l) (f := fl F) (B := 1000) (fun i hi => good_bd hf.net gF.1.good.fits i hi) 0
  have em : (nw N l).m = l.length := rfl
  have hll := hf.len
  rw [em] at bd
  have bd' : -40000 ≤ bal (nw N l) (fl F) 0 ∧ bal (nw N l) (fl F) 0 ≤ 40000 := by omega
  clear bd
  simp only [Int.toNat_zero] at eV eW hb hm
  refine Ev.bind awake_ev (Ev.bind ef (Ev.bind eF (Ev.bind p2 (Ev.bind eG ?_))))
  have e0 : Ev (fun k => billetlaw06_FlowAdds.j0 k m G v false N l) true := by
    refine Ev.step (f := fun k => (billetref05_Reach.f k N l G 0).bind fun t719 => (if v = m then (some true) else (if 1 < (t719.length : Int) then (if rdOf false t719 1 = true then (some false) else ((billetref05_Cut.f k N l t719).bind fun t723 => ((billetref05_Value.f k N l G 0).bind fun t724 => (some (t723 == t724))))) else (none)))) (fun k => ?_) (Ev.bind eS ?_)
    · simp only [billetlaw06_FlowAdds.j0]; rw [if_neg (by simp)]
    · by_cases c : v = m
      · exact Ev.congr (fun k => by rw [if_pos c]) (Ev.now _)
      · have hr := hm.resolve_left c
        have h1 : Rf.sideF S 1 = false := by
          cases hx : Rf.sideF S 1
          · rfl
          · exact absurd ((tS.told 1 (by omega)).1 hx) hr
        · have hc : bal (nw N l) (fl G) 0 = cut (nw N l) (Rf.sideF S) := reach_cut gG.good tS.told h1
          have hS := tS.len
          refine Ev.congr (f := fun k => (billetref05_Cut.f k N l S).bind fun t723 => ((billetref05_Value.f k N l G 0).bind fun t724 => (some (t723 == t724)))) (fun k => ?_) (Ev.bind eC (Ev.bind (f := fun _ t724 => some (cut (nw N l) (Rf.sideF S) == t724)) eV (Ev.congr (fun k => ?_) (Ev.now _))))
          · rw [if_neg c, if_pos (by omega), if_neg (by have h1 : rdOf false S 1 = false := h1; rw [h1]; simp)]
          · rw [hc]; simp
  refine Ev.congr (f := fun k => (billetref05_Good.f k N l G 0 1).bind fun t716 => (if t716 = true then ((billetref05_Value.f k N l G 0).bind fun t717 => ((billetref05_Value.f k N l F 0).bind fun t718 => (billetlaw06_FlowAdds.j0 k m G v (t717 != (wrap64 (t718 + v))) N l))) else (billetlaw06_FlowAdds.j0 k m G v true N l))) (fun k => ?_) (Ev.bind (Rf.good_true gG) (Ev.congr (f := fun k => (billetref05_Value.f k N l G 0).bind fun t717 => ((billetref05_Value.f k N l F 0).bind fun t718 => (billetlaw06_FlowAdds.j0 k m G v (t717 != (wrap64 (t718 + v))) N l))) (fun k => ?_) (Ev.bind eV (Ev.bind (f := fun k t718 => billetlaw06_FlowAdds.j0 k m G v (bal (nw N l) (fl G) 0 != (wrap64 (t718 + v))) N l) eW (Ev.congr (fun k => ?_) e0)))))
  · simp only [if_true]
    rw [if_neg (show ¬ v < 0 by omega), if_neg (show ¬ v > m by omega)]
  · rw [if_pos rfl]
  · rw [w64 (by omega) (by omega), bne_eq_false_iff_eq.2 (by omega)]
#print axioms adds
end Go.Proofs.Ytfmfojogcghkkaa.Pa
