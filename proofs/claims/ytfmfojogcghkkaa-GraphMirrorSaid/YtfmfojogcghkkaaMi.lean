/- Networks whose edges all lead the other way. -/
import Derived.Test.YtfmfojogcghkkaaGa
namespace Go.Proofs.Ytfmfojogcghkkaa.Mi
open Go.RowKit Go.Proofs.Ytfmfojogcghkkaa.P Go.Proofs.YtfmfojogcghkkaaW.PrintWords Go.Proofs.YtfmfojogcghkkaaW.PrintLast
open Go.Proofs.Ytfmfojogcghkkaa.Fl Go.Proofs.Ytfmfojogcghkkaa.Bf Go.Proofs.Ytfmfojogcghkkaa.Pp Go.Proofs.Ytfmfojogcghkkaa.Gp

def mirE (x : S41) : S41 := ⟨x.f1, x.f0, x.f2⟩
def mir (l : List S41) : List S41 := l.map mirE
theorem mir_len (l : List S41) : (mir l).length = l.length := by simp [mir]
theorem mir_rd {l : List S41} {i : Nat} (h : i < l.length) : rd_T41 (mir l) i = mirE (rd_T41 l i) := by
  rw [rdE h, rdE (by rw [mir_len]; exact h)]; simp [mir]
theorem mir_net {N : Int} {l : List S41} (h : NetOk N l) : NetOk N (mir l) := by
  refine ⟨h.n0, h.n1, by rw [mir_len]; exact h.len, fun i hi => ?_, fun i hi => ?_⟩
  · rw [mir_len] at hi
    rw [mir_rd hi]
    obtain ⟨a, b, c⟩ := h.ends i hi
    exact ⟨b, a, fun e => c e.symm⟩
  · rw [mir_len] at hi
    rw [mir_rd hi]; exact h.cap i hi
theorem mir_bal (N : Int) (l : List S41) (f : Nat → Int) (v : Nat) : bal (nw N (mir l)) f v = - bal (nw N l) f v := by
  unfold bal
  rw [← sm_neg]
  show sm _ (mir l).length = sm _ l.length
  rw [mir_len]
  refine sm_congr fun i hi => ?_
  show (if (rd_T41 (mir l) i).f0.toNat = v then f i else 0) - (if (rd_T41 (mir l) i).f1.toNat = v then f i else 0) = -((if (rd_T41 l i).f0.toNat = v then f i else 0) - (if (rd_T41 l i).f1.toNat = v then f i else 0))
  rw [mir_rd hi]
  show (if (rd_T41 l i).f1.toNat = v then f i else 0) - (if (rd_T41 l i).f0.toNat = v then f i else 0) = _
  omega
theorem mir_good {N : Int} {l : List S41} {f : Nat → Int} {s t : Nat} (hN : NetOk N l) (h : Fl.Good (nw N l) f s t) : Fl.Good (nw N (mir l)) f t s := by
  refine ⟨(mir_net hN).ok, fun i hi => ?_, h.tN, h.sN, fun e => h.ne e.symm, fun v h1 h2 h3 => ?_⟩
  · have hi' : i < l.length := by have : i < (mir l).length := hi; rwa [mir_len] at this
    have := h.fits i hi'
    refine ⟨this.1, ?_⟩
    show f i ≤ (rd_T41 (mir l) i).f2
    rw [mir_rd hi']; exact this.2
  · rw [mir_bal, h.bal v h1 h3 h2]; rfl
end Go.Proofs.Ytfmfojogcghkkaa.Mi
