/- Chapter 6's example, pick, and what is most. -/
import Derived.Test.YtfmfojogcghkkaaFa
import Derived.Test.YtfmfojogcghkkaaGp
import Derived.Test.YtfmfojogcghkkaaPx35
namespace Go.Proofs.Ytfmfojogcghkkaa.Fm
open Go.RowKit Go.Proofs.Ytfmfojogcghkkaa.P Go.Proofs.YtfmfojogcghkkaaW.PrintWords Go.Proofs.YtfmfojogcghkkaaW.PrintLast
open Go.Proofs.Ytfmfojogcghkkaa.Fl Go.Proofs.Ytfmfojogcghkkaa.Bf Go.Proofs.Ytfmfojogcghkkaa.Pp Go.Proofs.Ytfmfojogcghkkaa.Gp Go.Proofs.Ytfmfojogcghkkaa.Fw

theorem awake_ev : Ev (fun k => billetlaw06_awake.f k) true := Ev.of (billetlaw06_awake.mono) (k := 12) (by decide +kernel)
theorem most_le {N : Int} {l : List S41} {F H : List Int} {s t : Int} (g : GoodP N l F s t) (h : GoodP N l H s t) (hr : ¬ Rch (nw N l) (fl F) s.toNat t.toNat) : bal (nw N l) (fl H) s.toNat ≤ bal (nw N l) (fl F) s.toNat := reach_most g.good h.good hr
theorem GoodP.fp {N : Int} {l : List S41} {F : List Int} {s t : Int} (g : GoodP N l F s t) : FitsP N l F := ⟨g.net, g.len, g.good.fits⟩
theorem val_of {N : Int} {l : List S41} {F : List Int} {s : Int} (g : FitsP N l F) (hs : 0 ≤ s ∧ s < N) : Ev (fun k => graph_Value.f k N l F s) (bal (nw N l) (fl F) s.toNat) := by
  have := value_ev N l F s
  unfold valP at this
  rwa [if_pos ⟨g, hs⟩] at this
#print axioms awake_ev
end Go.Proofs.Ytfmfojogcghkkaa.Fm
