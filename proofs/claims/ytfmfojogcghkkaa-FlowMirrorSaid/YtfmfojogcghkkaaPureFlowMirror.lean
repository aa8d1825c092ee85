/- FlowMirror in plain terms. -/
import Derived.Test.YtfmfojogcghkkaaFm
import Derived.Test.YtfmfojogcghkkaaPx44
namespace Go.Proofs.Ytfmfojogcghkkaa.Pm
open Go.RowKit Go.Proofs.Ytfmfojogcghkkaa.P Go.Proofs.YtfmfojogcghkkaaW.PrintWords Go.Proofs.YtfmfojogcghkkaaW.PrintLast
open Go.Proofs.Ytfmfojogcghkkaa.Fl Go.Proofs.Ytfmfojogcghkkaa.Bf Go.Proofs.Ytfmfojogcghkkaa.Pp Go.Proofs.Ytfmfojogcghkkaa.Gp Go.Proofs.Ytfmfojogcghkkaa.Fw Go.Proofs.Ytfmfojogcghkkaa.Fm

def mirE (x : S41) : S41 := ⟨x.f1, x.f0, x.f2⟩
def mir (l : List S41) : List S41 := l.map mirE
theorem mir_len (l : List S41) : (mir l).length = l.length := by simp [mir]
theorem mir_rd {l : List S41} {i : Nat} (h : i < l.length) : rd_T41 (mir l) i = mirE (rd_T41 l i) := by
  rw [rdE h, rdE (by rw [mir_len]; exact h)]; simp [mir]
theorem mir_net {N : Int} {l : List S41} (h : NetOk N l) : NetOk N (mir l) := by
  refine ⟨h.n0, h.n1, by rw [mir_len]; exact h.len, fun i hi => ?_, fun i hi => ?_⟩
  · rw [mir_len] at hi
    rw [mir_rd hi]
    obtain ⟨a, b, c⟩ := h.ends i hi
    exact ⟨b, a, fun e => c e.symm⟩
  · rw [mir_len] at hi
    rw [mir_rd hi]; exact h.cap i hi
theorem mir_bal (N : Int) (l : List S41) (f : Nat → Int) (v : Nat) : bal (nw N (mir l)) f v = - bal (nw N l) f v := by
  unfold bal
  rw [← sm_neg]
  show sm _ (mir l).length = sm _ l.length
  rw [mir_len]
  refine sm_congr fun i hi => ?_
  show (if (rd_T41 (mir l) i).f0.toNat = v then f i else 0) - (if (rd_T41 (mir l) i).f1.toNat = v then f i else 0) = -((if (rd_T41 l i).f0.toNat = v then f i else 0) - (if (rd_T41 l i).f1.toNat = v then f i else 0))
  rw [mir_rd hi]
  show (if (rd_T41 l i).f1.toNat = v then f i else 0) - (if (rd_T41 l i).f0.toNat = v then f i else 0) = _
  omega
theorem mir_good {N : Int} {l : List S41} {f : Nat → Int} {s t : Nat} (hN : NetOk N l) (h : Fl.Good (nw N l) f s t) : Fl.Good (nw N (mir l)) f t s := by
  refine ⟨(mir_net hN).ok, fun i hi => ?_, h.tN, h.sN, fun e => h.ne e.symm, fun v h1 h2 h3 => ?_⟩
  · have hi' : i < l.length := by have : i < (mir l).length := hi; rwa [mir_len] at this
    have := h.fits i hi'
    refine ⟨this.1, ?_⟩
    show f i ≤ (rd_T41 (mir l) i).f2
    rw [mir_rd hi']; exact this.2
  · rw [mir_bal, h.bal v h1 h3 h2]; rfl
theorem mir_good' {N : Int} {l : List S41} {f : Nat → Int} {s t : Nat} (hN : NetOk N l) (h : Fl.Good (nw N (mir l)) f s t) : Fl.Good (nw N l) f t s := by
  have := mir_good (mir_net hN) h
  have e : mir (mir l) = l := by
    unfold mir
    rw [List.map_map]
    exact (List.map_congr_left (fun x _ => rfl)).trans (List.map_id l)
  rwa [e] at this

theorem loop_ev {N : Int} {l : List S41} (hlen : l.length ≤ 40) {r : Bool} (he : Ev (fun k => (flow_Max.f k N l 0 1).bind fun bt806 => ((flow_Max.f k N (mir l) 1 0).bind fun bt811 => (if bt806.2.2 = 0 then (if bt811.2.2 = 0 then (if bt806.2.1 = bt811.2.1 then ((graph_Good.f k N (mir l) bt806.1 1 0).bind fun t816 => (some t816)) else (some false)) else (some false)) else (some false)))) r) (d : Nat) : ∀ i : Nat, i ≤ l.length → l.length - i = d →
    Ev (fun k => billetlaw06_FlowMirror.l0 k true (i : Int) N l N (mir (l.take i))) r := by
  induction d with
  | zero =>
    intro i hi hd
    obtain rfl : i = l.length := by omega
    refine Ev.step (fun k => ?_) he
    simp only [billetlaw06_FlowMirror.l0]
    rw [if_neg (by omega), List.take_length]; simp only [if_true]
  | succ d ih =>
    intro i hi hd
    refine Ev.step (fun k => ?_) (ih (i + 1) (by omega) (by omega))
    have e : mir (l.take (i + 1)) = mir (l.take i) ++ [⟨(rd_T41 l i).f1, (rd_T41 l i).f0, (rd_T41 l i).f2⟩] := by
      rw [List.take_succ_eq_append_getElem (by omega), rdE (by omega)]; unfold mir; rw [List.map_append]; rfl
    have hl : (mir (l.take i)).length < 5864062014805 := by rw [mir_len]; simp; omega
    simp only [billetlaw06_FlowMirror.l0]
    rw [if_pos (by omega), if_pos (by omega), if_pos hl, e, w64 (n := (i : Int) + 1) (by omega) (by omega)]; rfl

theorem mirror {a0 : Int} {l0 : List S41} (h0 : I64 a0) (hl : ∀ x ∈ l0, Sz x) : Ev (fun k => billetlaw06_FlowMirror.f k a0 l0) true := by
  have hf := fit_ok (fitN_bd a0).1 (fitN_bd a0).2 l0
  have ef := fit_ev h0 hl
  generalize fitN a0 = N at hf ef
  generalize fitL N l0 = l at hf ef
  have n0 := hf.n0
  obtain ⟨F, v, e1, g1, b1, _, r1⟩ := max_ev hf.net (s := 0) (t := 1) (by omega) (by omega) (by omega)
  obtain ⟨H, w, e2, g2, b2, _, r2⟩ := max_ev (mir_net hf.net) (s := 1) (t := 0) (by omega) (by omega) (by omega)
  have gm : GoodP N (mir l) F 1 0 := ⟨mir_net hf.net, by rw [mir_len]; exact g1.len, g1.tb, g1.sb, mir_good hf.net g1.good⟩
  have gn : Fl.Good (nw N l) (fl H) 0 1 := mir_good' hf.net g2.good
  have key : v = w := by
    have k1 := reach_most g1.good gn r1
    have k2 := reach_most g2.good gm.good r2
    have k3 := bal_end gn
    have k4 := mir_bal N l (fl H) 1
    have k5 := bal_end g1.good
    have k6 := mir_bal N l (fl F) 1
    have e0 : (0 : Int).toNat = 0 := rfl
    have e1 : (1 : Int).toNat = 1 := rfl
    rw [e0] at b1 k1
    rw [e1] at b2 k2
    rw [e0, e1] at k5
    omega
  refine Ev.bind awake_ev (Ev.bind ef (loop_ev hf.len (Ev.bind e1 (Ev.bind (f := fun k bt811 => (if ((F, v, (0 : Int)) : List Int × Int × Int).2.2 = 0 then (if bt811.2.2 = 0 then (if v = bt811.2.1 then ((graph_Good.f k N (mir l) F 1 0).bind fun t816 => (some t816)) else (some false)) else (some false)) else (some false))) e2 ?_)) l.length 0 (by omega) (by omega)))
  refine Ev.congr (fun k => ?_) (Ev.bind (good_true gm) (Ev.now true))
  rw [if_pos rfl, if_pos rfl, if_pos key]
#print axioms mirror
end Go.Proofs.Ytfmfojogcghkkaa.Pm
