/- FlowMost in plain terms. -/
import Derived.Test.YtfmfojogcghkkaaFm
import Derived.Test.YtfmfojogcghkkaaRf
import Derived.Test.YtfmfojogcghkkaaPx41
namespace Go.Proofs.Ytfmfojogcghkkaa.Pmo
open Go.RowKit Go.Proofs.Ytfmfojogcghkkaa.P Go.Proofs.YtfmfojogcghkkaaW.PrintWords Go.Proofs.YtfmfojogcghkkaaW.PrintLast
open Go.Proofs.Ytfmfojogcghkkaa.Fl Go.Proofs.Ytfmfojogcghkkaa.Bf Go.Proofs.Ytfmfojogcghkkaa.Pp Go.Proofs.Ytfmfojogcghkkaa.Gp Go.Proofs.Ytfmfojogcghkkaa.Fw Go.Proofs.Ytfmfojogcghkkaa.Fm

theorem tmod_other {s p N : Int} (hs : 0 ≤ s ∧ s < N) (hp : 0 ≤ p ∧ p < N - 1) : 0 ≤ Int.tmod (s + 1 + p) N ∧ Int.tmod (s + 1 + p) N < N ∧ s ≠ Int.tmod (s + 1 + p) N := by
  have b := tmod_bd (s + 1 + p) (n := N) (by omega) (by omega)
  refine ⟨b.1, b.2, ?_⟩
  by_cases c : s + 1 + p < N
  · rw [Int.tmod_eq_of_lt (by omega) c]; omega
  · have e : Int.tmod (s + 1 + p) N = s + 1 + p - N := by
      rw [Int.tmod_eq_emod_of_nonneg (by omega), ← Int.sub_emod_right, Int.emod_eq_of_lt (by omega) (by omega)]
    rw [e]; omega

theorem most {a0 : Int} {l0 : List S41} {a1 a2 : Int} {l3 : List Int} (h0 : I64 a0) (hl : ∀ x ∈ l0, Sz x) (h1 : I64 a1) (h2 : I64 a2) (h3 : ∀ x ∈ l3, I64 x) : Ev (fun k => billetlaw06_FlowMost.f k a0 l0 a1 a2 l3) true := by
  have hf := fit_ok (fitN_bd a0).1 (fitN_bd a0).2 l0
  have ef := fit_ev h0 hl
  generalize fitN a0 = N at hf ef
  generalize fitL N l0 = l at hf ef
  have n0 := hf.n0
  have n1 := hf.n1
  have b1 := pk_bd a1 (n := N) (by omega)
  have p1 := pick6 h1 (n := N) (by omega)
  have b2 := pk_bd a2 (n := N - 1) (by omega)
  have p2 := pick6 h2 (n := N - 1) (by omega)
  generalize pk a1 N = s at b1 p1
  generalize pk a2 (N - 1) = p at b2 p2
  have bt := tmod_other b1 b2
  have e1 : (∀ _ : True, wrap64 (wrap64 (s + 1) + p) = s + 1 + p) := fun _ => by rw [w64 (n := s + 1) (by omega) (by omega), w64 (by omega) (by omega)]
  have e2 : (∀ _ : True, wrap64 (N - 1) = N - 1) := fun _ => w64 (by omega) (by omega)
  generalize ht : Int.tmod (s + 1 + p) N = t at bt
  obtain ⟨F, v, eF, gF, bF, v0, rF⟩ := max_ev hf.net b1 ⟨bt.1, bt.2.1⟩ bt.2.2
  obtain ⟨O, eO, gO⟩ := flow_ev hf.net h3
  obtain ⟨S, eS, tS⟩ := Rf.reach_ev (GoodP.fp gF) b1
  have eV := Rf.val_of (GoodP.fp gF) b1
  have eW := Rf.val_of (s := 0) (GoodP.fp gO.1) (by omega)
  have eC := Rf.cut_ev hf.net tS.len
  rw [bF] at eV
  have hSt : Rf.sideF S t.toNat = false := by
    cases hx : Rf.sideF S t.toNat
    · rfl
    · exact absurd ((tS.told t.toNat (by omega)).1 hx) rF
  have hc : v = cut (nw N l) (Rf.sideF S) := by rw [← bF]; exact reach_cut gF.good tS.told hSt
  have hSl := tS.len
  have e0 : Ev (fun k => billetlaw06_FlowMost.j0 k s t l3 F v false N l) true := by
    refine Ev.step (f := fun k => (billetref05_Reach.f k N l F s).bind fun t691 => ((billetlaw05_Flow.f k N l l3).bind fun t694 => (if 0 ≤ t then (if t < (t691.length : Int) then (if rdOf false t691 t = true then (some false) else ((billetref05_Cut.f k N l t691).bind fun t698 => (if t698 = v then (if s = 0 then (if t = 1 then ((billetref05_Value.f k N l t694 0).bind fun t699 => (some (decide (t699 ≤ v)))) else (some true)) else (some true)) else (some false)))) else (none)) else (none)))) (fun k => ?_) (Ev.bind eS (Ev.bind (f := fun k t694 => (if 0 ≤ t then (if t < (S.length : Int) then (if rdOf false S t = true then (some false) else ((billetref05_Cut.f k N l S).bind fun t698 => (if t698 = v then (if s = 0 then (if t = 1 then ((billetref05_Value.f k N l t694 0).bind fun t699 => (some (decide (t699 ≤ v)))) else (some true)) else (some true)) else (some false)))) else (none)) else (none))) eO ?_))
    · simp only [billetlaw06_FlowMost.j0]; rw [if_neg (by simp)]
    · refine Ev.congr (f := fun k => (billetref05_Cut.f k N l S).bind fun t698 => (if t698 = v then (if s = 0 then (if t = 1 then ((billetref05_Value.f k N l O 0).bind fun t699 => (some (decide (t699 ≤ v)))) else (some true)) else (some true)) else (some false))) (fun k => ?_) (Ev.bind eC ?_)
      · rw [if_pos bt.1, if_pos (by omega), if_neg]
        unfold Rf.sideF at hSt
        rw [Int.toNat_of_nonneg bt.1] at hSt
        rw [hSt]; simp
      · by_cases c1 : s = 0
        · by_cases c2 : t = 1
          · have hle : bal (nw N l) (fl O) (Int.toNat 0) ≤ v := by
              rw [← bF, c1]
              refine reach_most (t := 1) ?_ gO.1.good ?_
              · have g := gF.good
                rw [c1, c2] at g; exact g
              · rw [c1, c2] at rF; exact rF
            refine Ev.congr (f := fun k => (billetref05_Value.f k N l O 0).bind fun t699 => (some (decide (t699 ≤ v)))) (fun k => ?_) (Ev.bind eW (Ev.congr (fun k => ?_) (Ev.now _)))
            · rw [if_pos hc.symm, if_pos c1, if_pos c2]
            · rw [decide_eq_true hle]
          · exact Ev.congr (fun k => by rw [if_pos hc.symm, if_pos c1, if_neg c2]) (Ev.now _)
        · exact Ev.congr (fun k => by rw [if_pos hc.symm, if_neg c1]) (Ev.now _)
  refine Ev.bind awake_ev (Ev.bind ef (Ev.bind p1 (Ev.congr (f := fun k => (billetlaw06_pick.f a2 (N - 1)).bind fun t683 => (if N = 0 then (none) else ((flow_Max.f k N l s (Int.tmod (wrap64 ((wrap64 (s + 1)) + t683)) N)).bind fun bt684 => (if bt684.2.2 = 0 then ((billetref05_Good.f k N l bt684.1 s (Int.tmod (wrap64 ((wrap64 (s + 1)) + t683)) N)).bind fun t689 => (if t689 = true then ((billetref05_Value.f k N l bt684.1 s).bind fun t690 => (billetlaw06_FlowMost.j0 k s (Int.tmod (wrap64 ((wrap64 (s + 1)) + t683)) N) l3 bt684.1 bt684.2.1 (t690 != bt684.2.1) N l)) else (billetlaw06_FlowMost.j0 k s (Int.tmod (wrap64 ((wrap64 (s + 1)) + t683)) N) l3 bt684.1 bt684.2.1 true N l))) else (billetlaw06_FlowMost.j0 k s (Int.tmod (wrap64 ((wrap64 (s + 1)) + t683)) N) l3 bt684.1 bt684.2.1 true N l))))) (fun k => ?_) (Ev.bind p2 ?_))))
  · simp only [if_true]; rw [e2 trivial]
  · refine Ev.congr (f := fun k => (flow_Max.f k N l s t).bind fun bt684 => (if bt684.2.2 = 0 then ((billetref05_Good.f k N l bt684.1 s t).bind fun t689 => (if t689 = true then ((billetref05_Value.f k N l bt684.1 s).bind fun t690 => (billetlaw06_FlowMost.j0 k s t l3 bt684.1 bt684.2.1 (t690 != bt684.2.1) N l)) else (billetlaw06_FlowMost.j0 k s t l3 bt684.1 bt684.2.1 true N l))) else (billetlaw06_FlowMost.j0 k s t l3 bt684.1 bt684.2.1 true N l))) (fun k => ?_) (Ev.bind eF ?_)
    · rw [if_neg (show ¬ N = 0 by omega), e1 trivial, ht]
    · refine Ev.congr (f := fun k => (billetref05_Good.f k N l F s t).bind fun t689 => (if t689 = true then ((billetref05_Value.f k N l F s).bind fun t690 => (billetlaw06_FlowMost.j0 k s t l3 F v (t690 != v) N l)) else (billetlaw06_FlowMost.j0 k s t l3 F v true N l))) (fun k => ?_) (Ev.bind (Rf.good_true gF) (Ev.congr (f := fun k => (billetref05_Value.f k N l F s).bind fun t690 => (billetlaw06_FlowMost.j0 k s t l3 F v (t690 != v) N l)) (fun k => ?_) (Ev.bind eV (Ev.congr (fun k => ?_) e0))))
      · rw [if_pos rfl]
      · rw [if_pos rfl]
      · rw [bne_eq_false_iff_eq.2 rfl]
#print axioms most
end Go.Proofs.Ytfmfojogcghkkaa.Pmo
