/- Small facts: ranges of numbers; rows of truth values. -/
import Derived.Test.YtfmfojogcghkkaaGa
namespace Go.Proofs.Ytfmfojogcghkkaa.Fw
open Go.RowKit Go.Proofs.Ytfmfojogcghkkaa.P Go.Proofs.YtfmfojogcghkkaaW.PrintWords Go.Proofs.YtfmfojogcghkkaaW.PrintLast
open Go.Proofs.Ytfmfojogcghkkaa.Fl Go.Proofs.Ytfmfojogcghkkaa.Bf Go.Proofs.Ytfmfojogcghkkaa.Pp Go.Proofs.Ytfmfojogcghkkaa.Gp

def I64 (n : Int) : Prop := -9223372036854775808 ≤ n ∧ n ≤ 9223372036854775807
def Sz (x : S41) : Prop := I64 x.f0 ∧ I64 x.f1 ∧ I64 x.f2
def cf : List Bool → Nat
  | [] => 0
  | b :: L => (if b then 0 else 1) + cf L
theorem cf_set : ∀ (L : List Bool) (i : Nat) (h : i < L.length), L[i] = false → cf (L.set i true) + 1 = cf L
  | b :: L, 0, _, e => by simp at e; subst e; simp [cf]; omega
  | b :: L, i + 1, h, e => by
    have := cf_set L i (by simpa using h) (by simpa using e)
    simp only [List.set_cons_succ, cf]; omega
theorem rdO {L : List Bool} {v : Int} (h0 : 0 ≤ v) (h1 : v < L.length) : rdOf false L v = L[v.toNat]'(by omega) := by
  unfold rdOf
  rw [List.getD_eq_getElem?_getD, List.getElem?_eq_getElem (by omega)]; rfl
theorem rdG {L : List Int} {i : Nat} (h : i < L.length) : rd L (i : Int) = L[i] := by
  unfold rd; rw [Int.toNat_natCast, List.getD_eq_getElem?_getD, List.getElem?_eq_getElem h]; rfl

theorem rdO_set {L : List Bool} {k : Nat} {v : Int} (h0 : 0 ≤ v) (h1 : v < L.length) : rdOf false (L.set k true) v = if v.toNat = k then true else rdOf false L v := by
  rw [rdO h0 (by rw [List.length_set]; exact h1), rdO h0 h1, List.getElem_set]
  by_cases c : k = v.toNat
  · rw [if_pos c, if_pos c.symm]
  · rw [if_neg c, if_neg (fun e => c e.symm)]
end Go.Proofs.Ytfmfojogcghkkaa.Fw
namespace Go.Proofs.Ytfmfojogcghkkaa.Rf
open Go.RowKit Go.Proofs.Ytfmfojogcghkkaa.P Go.Proofs.YtfmfojogcghkkaaW.PrintWords Go.Proofs.YtfmfojogcghkkaaW.PrintLast
open Go.Proofs.Ytfmfojogcghkkaa.Fl Go.Proofs.Ytfmfojogcghkkaa.Bf Go.Proofs.Ytfmfojogcghkkaa.Pp Go.Proofs.Ytfmfojogcghkkaa.Gp
def sideF (S : List Bool) : Nat → Bool := fun v => rdOf false S (v : Int)
/-- What Reach tells. -/
structure RTold (N : Int) (l : List S41) (F : List Int) (s : Int) (S : List Bool) : Prop where
  len : (S.length : Int) = N
  told : ∀ v : Nat, v < N.toNat → (sideF S v = true ↔ Rch (nw N l) (fl F) s.toNat v)
end Go.Proofs.Ytfmfojogcghkkaa.Rf
