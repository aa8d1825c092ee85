/- flow.Push and Max: what they answer, in plain terms. -/
import Derived.Test.YtfmfojogcghkkaaGa
import Derived.Test.YtfmfojogcghkkaaPu
import Derived.Test.YtfmfojogcghkkaaPx33
namespace Go.Proofs.Ytfmfojogcghkkaa.Gp
open Go.RowKit Go.Proofs.Ytfmfojogcghkkaa.P Go.Proofs.YtfmfojogcghkkaaW.PrintWords Go.Proofs.YtfmfojogcghkkaaW.PrintLast
open Go.Proofs.Ytfmfojogcghkkaa.Fl Go.Proofs.Ytfmfojogcghkkaa.Bf Go.Proofs.Ytfmfojogcghkkaa.Pp

/-! ### Push, Max -/
theorem push_no {N : Int} {l : List S41} {F : List Int} {s t m : Int} (h : ¬ (GoodP N l F s t ∧ 0 ≤ m)) : Ev (fun k => flow_Push.f k N l F s t m) ([], 0, 50) := by
  by_cases g : GoodP N l F s t
  · refine Ev.bind (good_true g) (Ev.congr (fun k => ?_) (Ev.now _))
    rw [if_pos rfl, if_pos (Int.not_le.1 fun hm => h ⟨g, hm⟩)]
  · refine Ev.bind (good_false g) (Ev.congr (fun k => ?_) (Ev.now _))
    rw [if_neg (by simp)]
theorem push_ev {N : Int} {l : List S41} {F : List Int} {s t m : Int} (g : GoodP N l F s t) (h0 : 0 ≤ m) (h1 : m ≤ 9223372036854775807) :
    ∃ F' v, Ev (fun k => flow_Push.f k N l F s t m) (F', v, 0) ∧ Pushed N l F s t m 0 F' v := by
  obtain ⟨F', v, e, p⟩ := push_ok g.net g.sb g.tb h1 (256000 - bal (nw N l) (fl F) s.toNat).toNat F 0 g.len g.good (by omega) h0 (by omega)
  refine ⟨F', v, Ev.bind (good_true g) (Ev.congr (f := fun k => (pushL N l s t m k F 0).bind fun r => some (r.1, r.2, 0)) (fun k => ?_) (Ev.bind (Ev.of (fun k => fun r hr => pushL_mono _ _ _ _ _ _ _ _ _ hr) e) (Ev.now _))), p⟩
  rw [if_pos rfl, if_neg (by omega)]
theorem Pushed.goodP {N : Int} {l : List S41} {F F' : List Int} {s t m c v : Int} (g : GoodP N l F s t) (p : Pushed N l F s t m c F' v) : GoodP N l F' s t := ⟨g.net, p.len, g.sb, g.tb, p.good⟩
theorem max_ev {N : Int} {l : List S41} {s t : Int} (hN : NetOk N l) (hs : 0 ≤ s ∧ s < N) (ht : 0 ≤ t ∧ t < N) (hne : s ≠ t) :
    ∃ F' v, Ev (fun k => flow_Max.f k N l s t) (F', v, 0) ∧ GoodP N l F' s t ∧ bal (nw N l) (fl F') s.toNat = v ∧ 0 ≤ v ∧ ¬ Rch (nw N l) (fl F') s.toNat t.toNat := by
  obtain ⟨g, hb⟩ := zero_good hN hs ht hne
  obtain ⟨F', v, e, p⟩ := push_ev g (m := 1073741824) (by omega) (by omega)
  have hlen := hN.len
  have p1 := p.bal
  rw [hb] at p1
  have hbd := (bal_bd (G := nw N l) (f := fl F') (B := 1000) (fun i hi => good_bd hN p.good.fits i hi) s.toNat).2
  have em : (nw N l).m = l.length := rfl
  rw [em] at hbd
  refine ⟨F', v, Ev.congr (f := fun k => (flow_Push.f k N l (List.replicate l.length 0) s t 1073741824).bind fun bt552 => (some (bt552.1, bt552.2.1, bt552.2.2))) (fun k => ?_) (Ev.bind e (Ev.now _)), ⟨hN, p.len, hs, ht, p.good⟩, by omega, by have := p.lo; omega, ?_⟩
  · simp only [flow_Max.f]
    rw [if_neg (by omega), if_pos (by omega), if_pos (by omega)]; rfl
  · rcases p.most with h | h
    · omega
    · exact h
end Go.Proofs.Ytfmfojogcghkkaa.Gp
