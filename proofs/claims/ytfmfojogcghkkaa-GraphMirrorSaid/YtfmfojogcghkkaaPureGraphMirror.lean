/- GraphMirror in plain terms: whatever the input the answer is true. -/
import Derived.Test.YtfmfojogcghkkaaGl
import Derived.Test.YtfmfojogcghkkaaFw
import Derived.Test.YtfmfojogcghkkaaMi
import Derived.Test.YtfmfojogcghkkaaPx26
import Derived.Test.YtfmfojogcghkkaaPx27
namespace Go.Proofs.Ytfmfojogcghkkaa.Pgm
open Go.RowKit Go.Proofs.Ytfmfojogcghkkaa.P Go.Proofs.YtfmfojogcghkkaaW.PrintWords Go.Proofs.YtfmfojogcghkkaaW.PrintLast
open Go.Proofs.Ytfmfojogcghkkaa.Fl Go.Proofs.Ytfmfojogcghkkaa.Bf Go.Proofs.Ytfmfojogcghkkaa.Pp Go.Proofs.Ytfmfojogcghkkaa.Gp Go.Proofs.Ytfmfojogcghkkaa.Fw Go.Proofs.Ytfmfojogcghkkaa.Rf Go.Proofs.Ytfmfojogcghkkaa.Gl Go.Proofs.Ytfmfojogcghkkaa.Mi

theorem mirrored_loop {N : Int} {l : List S41} (hlen : l.length ≤ 256) (d : Nat) : ∀ i : Nat, i ≤ l.length → l.length - i = d → Ev (fun k => billetlaw05_mirrored.l0 k (i : Int) N l N (mir (l.take i))) (N, mir l) := by
  induction d with
  | zero =>
    intro i hi hd
    obtain rfl : i = l.length := by omega
    refine Ev.step (f := fun _ => some (N, mir l)) (fun k => ?_) (Ev.now _)
    simp only [billetlaw05_mirrored.l0]
    rw [if_neg (by omega), List.take_length]
  | succ d ih =>
    intro i hi hd
    refine Ev.step (fun k => ?_) (ih (i + 1) (by omega) (by omega))
    have e : mir (l.take (i + 1)) = mir (l.take i) ++ [⟨(rd_T41 l i).f1, (rd_T41 l i).f0, (rd_T41 l i).f2⟩] := by
      rw [List.take_succ_eq_append_getElem (by omega), rdE (by omega)]; unfold mir; rw [List.map_append]; rfl
    have hl : (mir (l.take i)).length < 5864062014805 := by rw [mir_len]; simp; omega
    simp only [billetlaw05_mirrored.l0]
    rw [if_pos (by omega), if_pos (by omega), if_pos hl, e, w64 (n := (i : Int) + 1) (by omega) (by omega)]; rfl
theorem mirrored_ev {N : Int} {l : List S41} (hlen : l.length ≤ 256) : Ev (fun k => billetlaw05_mirrored.f k N l) (N, mir l) := by
  have h := mirrored_loop (N := N) hlen l.length 0 (by omega) (by omega)
  exact h

theorem mir_cut {N : Int} {l : List S41} (hN : NetOk N l) {X Y : List Bool} (h : ∀ v : Int, 0 ≤ v → v < N → rdOf false Y v = !rdOf false X v) : cut (nw N (mir l)) (sideF Y) = cut (nw N l) (sideF X) := by
  unfold cut
  show sm _ (mir l).length = sm _ l.length
  rw [mir_len]
  refine sm_congr fun i hi => ?_
  obtain ⟨a, b, c⟩ := hN.ends i hi
  show (if sideF Y ((rd_T41 (mir l) i).f0.toNat) = true ∧ sideF Y ((rd_T41 (mir l) i).f1.toNat) = false then (rd_T41 (mir l) i).f2 else 0) = (if sideF X ((rd_T41 l i).f0.toNat) = true ∧ sideF X ((rd_T41 l i).f1.toNat) = false then (rd_T41 l i).f2 else 0)
  rw [mir_rd hi]
  show (if rdOf false Y (((rd_T41 l i).f1.toNat : Nat) : Int) = true ∧ rdOf false Y (((rd_T41 l i).f0.toNat : Nat) : Int) = false then (rd_T41 l i).f2 else 0) = (if rdOf false X (((rd_T41 l i).f0.toNat : Nat) : Int) = true ∧ rdOf false X (((rd_T41 l i).f1.toNat : Nat) : Int) = false then (rd_T41 l i).f2 else 0)
  rw [Int.toNat_of_nonneg a.1, Int.toNat_of_nonneg b.1, h _ a.1 a.2, h _ b.1 b.2]
  cases rdOf false X (rd_T41 l i).f0 <;> cases rdOf false X (rd_T41 l i).f1 <;> simp
theorem set_rd {L : List Bool} {k : Nat} {v : Int} (x : Bool) (h0 : 0 ≤ v) (h1 : v < L.length) : rdOf false (L.set k x) v = if v.toNat = k then x else rdOf false L v := by
  rw [rdO h0 (by rw [List.length_set]; exact h1), rdO h0 h1, List.getElem_set]
  by_cases c : k = v.toNat
  · rw [if_pos c, if_pos c.symm]
  · rw [if_neg c, if_neg (fun e => c e.symm)]
section
variable {N : Int} {l : List S41} {F : List Int}
theorem fin_ev (hg : G01 N l F) {X Y : List Bool} (hX : (X.length : Int) = N) (hY : (Y.length : Int) = N) (h : ∀ v : Int, 0 ≤ v → v < N → rdOf false Y v = !rdOf false X v) :
    Ev (fun k => (if true = true then ((graph_Right.f k N (mir l)).bind fun t423 => (if t423 = true then ((graph_Good.f k N (mir l) F 1 0).bind fun t424 => (if t424 = true then ((graph_Value.f k N (mir l) F 1).bind fun t425 => ((graph_Value.f k N l F 0).bind fun t426 => (if t425 = t426 then ((graph_Cut.f k N (mir l) Y).bind fun t427 => ((graph_Cut.f k N l X).bind fun t428 => (some (t427 == t428)))) else (some false)))) else (some false))) else (some false))) else (some false))) true := by
  have n0 := hg.1.net.n0
  have hM := mir_net hg.1.net
  have gM : GoodP N (mir l) F 1 0 := ⟨hM, by rw [mir_len]; exact hg.1.len, hg.1.tb, hg.1.sb, mir_good hg.1.net hg.1.good⟩
  have ev1 := val_of (Gl.GoodP.fp gM) (s := 1) (by omega)
  have ev0 := val_of (Gl.GoodP.fp hg.1) (s := 0) (by omega)
  have he : bal (nw N l) (fl F) (1 : Int).toNat = - bal (nw N l) (fl F) (0 : Int).toNat := bal_end hg.1.good
  have hv : bal (nw N (mir l)) (fl F) (1 : Int).toNat = bal (nw N l) (fl F) (0 : Int).toNat := by rw [mir_bal, he]; omega
  have c1 := cut_ev (S := Y) hM hY
  have c0 := cut_ev (S := X) hg.1.net hX
  rw [mir_cut hg.1.net h] at c1
  rw [hv] at ev1
  refine Ev.congr (f := fun k => ((graph_Right.f k N (mir l)).bind fun t423 => (if t423 = true then ((graph_Good.f k N (mir l) F 1 0).bind fun t424 => (if t424 = true then ((graph_Value.f k N (mir l) F 1).bind fun t425 => ((graph_Value.f k N l F 0).bind fun t426 => (if t425 = t426 then ((graph_Cut.f k N (mir l) Y).bind fun t427 => ((graph_Cut.f k N l X).bind fun t428 => (some (t427 == t428)))) else (some false)))) else (some false))) else (some false)))) (fun k => by rw [if_pos rfl]) (Ev.bind (right_true hM) (Ev.congr (f := fun k => ((graph_Good.f k N (mir l) F 1 0).bind fun t424 => (if t424 = true then ((graph_Value.f k N (mir l) F 1).bind fun t425 => ((graph_Value.f k N l F 0).bind fun t426 => (if t425 = t426 then ((graph_Cut.f k N (mir l) Y).bind fun t427 => ((graph_Cut.f k N l X).bind fun t428 => (some (t427 == t428)))) else (some false)))) else (some false)))) (fun k => by rw [if_pos rfl]) (Ev.bind (good_true gM) (Ev.congr (f := fun k => ((graph_Value.f k N (mir l) F 1).bind fun t425 => ((graph_Value.f k N l F 0).bind fun t426 => (if t425 = t426 then ((graph_Cut.f k N (mir l) Y).bind fun t427 => ((graph_Cut.f k N l X).bind fun t428 => (some (t427 == t428)))) else (some false))))) (fun k => by rw [if_pos rfl]) (Ev.bind ev1 (Ev.bind (f := fun k t426 => (if bal (nw N l) (fl F) (0 : Int).toNat = t426 then ((graph_Cut.f k N (mir l) Y).bind fun t427 => ((graph_Cut.f k N l X).bind fun t428 => (some (t427 == t428)))) else (some false))) ev0 (Ev.congr (f := fun k => (graph_Cut.f k N (mir l) Y).bind fun t427 => ((graph_Cut.f k N l X).bind fun t428 => (some (t427 == t428)))) (fun k => by rw [if_pos rfl]) (Ev.bind c1 (Ev.bind (f := fun k t428 => some (cut (nw N l) (sideF X) == t428)) c0 (Ev.congr (fun k => by simp) (Ev.now _)))))))))))
theorem loop_ev (hg : G01 N l F) (S : List Bool) (d : Nat) : ∀ (i : Nat) (X Y : List Bool), (i : Int) ≤ N → N.toNat - i = d → (X.length : Int) = N → (Y.length : Int) = N → (∀ v : Int, 0 ≤ v → v < i → rdOf false Y v = !rdOf false X v) →
    Ev (fun k => billetlaw05_GraphMirror.l0 k S true F X Y (i : Int) N l N (mir l)) true := by
  have n1 := hg.1.net.n1
  induction d with
  | zero =>
    intro i X Y hi hd hX hY h
    refine Ev.step (fun k => ?_) (fin_ev hg hX hY (fun v h0 h1 => h v h0 (by omega)))
    simp only [billetlaw05_GraphMirror.l0]; rw [if_neg (by omega)]
  | succ d ih =>
    intro i X Y hi hd hX hY h
    have step : ∀ x : Bool, Ev (fun k => billetlaw05_GraphMirror.l0 k S true F (X.set i x) (Y.set i (!x)) ((i + 1 : Nat) : Int) N l N (mir l)) true := fun x => ih (i + 1) _ _ (by omega) (by omega) (by rw [List.length_set]; exact hX) (by rw [List.length_set]; exact hY) (fun v h0 h1 => by
      rw [set_rd _ h0 (by omega), set_rd _ h0 (by omega)]
      by_cases c : v.toNat = i
      · rw [if_pos c, if_pos c]
      · rw [if_neg c, if_neg c]; exact h v h0 (by omega))
    have er : ∀ x : Bool, rdOf false (X.set i x) (i : Int) = x := fun x => by rw [set_rd _ (by omega) (by omega), if_pos (by omega)]
    by_cases c : (i : Int) < (S.length : Int)
    · refine Ev.step (fun k => ?_) (step (rdOf false S i))
      simp only [billetlaw05_GraphMirror.l0]
      rw [if_pos (by omega), if_pos c, if_pos (by omega), if_pos (by omega), Option.bind_some, if_pos (by omega), w64 (n := (i : Int) + 1) (by omega) (by omega), Int.toNat_natCast, er]; rfl
    · refine Ev.step (fun k => ?_) (step false)
      simp only [billetlaw05_GraphMirror.l0]
      rw [if_pos (by omega), if_neg c, if_pos (by omega), if_pos (by omega), Option.bind_some, if_pos (by omega), w64 (n := (i : Int) + 1) (by omega) (by omega), Int.toNat_natCast, er]; rfl
end
theorem mirror {a0 : Int} {l0 : List S41} {l1 : List Int} {l2 : List Bool} (h0 : I64 a0) (hl : ∀ x ∈ l0, Sz x) (h1 : ∀ x ∈ l1, I64 x) : Ev (fun k => billetlaw05_GraphMirror.f k a0 l0 l1 l2) true := by
  have hf := fit_ok (fitN_bd a0).1 (fitN_bd a0).2 l0
  have ef := fit_ev h0 hl
  generalize fitN a0 = N at hf ef
  generalize fitL N l0 = l at hf ef
  obtain ⟨F, eF, gF⟩ := flow_ev hf.net h1
  have n0 := hf.n0
  have n1 := hf.n1
  refine Ev.bind Gl.awake_ev (Ev.bind ef (Ev.bind eF (Ev.bind (mirrored_ev hf.net.len) (Ev.congr (fun k => ?_) (loop_ev gF l2 N.toNat 0 (List.replicate N.toNat false) (List.replicate N.toNat false) (by omega) (by omega) (by simp; omega) (by simp; omega) (fun v h0 h1 => by omega))))))
  rw [if_pos (by omega), if_pos (by omega)]; rfl
#print axioms mirror
end Go.Proofs.Ytfmfojogcghkkaa.Pgm
