/- What graph.fits and graph.Good have seen where they answer true. -/
import Derived.Test.YtfmfojogcghkkaaPx9
import Derived.Test.YtfmfojogcghkkaaPp
namespace Go.Proofs.Ytfmfojogcghkkaa.P
open Go.RowKit Go.Proofs.YtfmfojogcghkkaaW.PrintWords Go.Proofs.YtfmfojogcghkkaaW.PrintLast Go.Proofs.YtfmfojogcghkkaaW.PrintMore
open Go.Proofs.Ytfmfojogcghkkaa.Bf Go.Proofs.Ytfmfojogcghkkaa.Pp
set_option linter.unusedVariables false

/-- What Good has seen. -/
structure Seen (N : Int) (l : List S41) (F : List Int) (s t : Int) : Prop where
  n1 : N ≤ 64
  len : l.length ≤ 256
  ends : Bf.Ends l N
  fl : F.length = l.length
  sb : 0 ≤ s ∧ s < N
  tb : 0 ≤ t ∧ t < N
  ne : s ≠ t

theorem rdE {l : List S41} {i : Nat} (h : i < l.length) : rd_T41 l i = l[i] := by
  unfold rd_T41; rw [Int.toNat_natCast, List.getD_eq_getElem?_getD, List.getElem?_eq_getElem h]; rfl
theorem right_ends {N : Int} {l : List S41} (h : rightB N l = true) : 2 ≤ N ∧ N ≤ 64 ∧ l.length ≤ 256 ∧ Bf.Ends l N ∧ ∀ i : Nat, i < l.length → 0 ≤ (rd_T41 l i).f2 ∧ (rd_T41 l i).f2 ≤ 1000 := by
  unfold rightB at h
  by_cases h1 : wth N 2 64 = false
  · rw [if_pos h1] at h; cases h
  · rw [if_neg h1] at h
    have h1 := (wth_iff N 2 64).1 (by simpa using h1)
    by_cases h2 : (l.length : Int) ≤ 256
    · rw [if_pos h2] at h
      have h3 : ∀ i : Nat, i < l.length → badE N (rd_T41 l i) = false := fun i hi => by
        rw [rdE hi]
        have : ¬ l.any (badE N) = true := by simpa using h
        cases hb : badE N l[i]
        · rfl
        · exact absurd (List.any_eq_true.2 ⟨_, List.getElem_mem hi, hb⟩) this
      have h4 : ∀ i : Nat, i < l.length → (0 ≤ (rd_T41 l i).f0 ∧ (rd_T41 l i).f0 ≤ N - 1) ∧ (0 ≤ (rd_T41 l i).f1 ∧ (rd_T41 l i).f1 ≤ N - 1) ∧ (rd_T41 l i).f0 ≠ (rd_T41 l i).f1 ∧ 0 ≤ (rd_T41 l i).f2 ∧ (rd_T41 l i).f2 ≤ 1000 := fun i hi => by
        have hb := h3 i hi
        generalize rd_T41 l i = x at hb ⊢
        unfold badE at hb
        by_cases c1 : wth x.f0 0 (N - 1) = false
        · rw [if_pos c1] at hb; cases hb
        · rw [if_neg c1] at hb
          by_cases c2 : wth x.f1 0 (N - 1) = false
          · rw [if_pos c2] at hb; cases hb
          · rw [if_neg c2] at hb
            by_cases c3 : x.f0 = x.f1
            · rw [if_pos c3] at hb; cases hb
            · rw [if_neg c3] at hb
              exact ⟨(wth_iff _ _ _).1 (by simpa using c1), (wth_iff _ _ _).1 (by simpa using c2), c3, (wth_iff _ _ _).1 (by simpa using hb)⟩
      refine ⟨h1.1, h1.2, by omega, fun i hi => ?_, fun i hi => (h4 i hi).2.2.2⟩
      have := h4 i hi
      exact ⟨⟨this.1.1, by omega⟩, ⟨this.2.1.1, by omega⟩, this.2.2.1⟩
    · rw [if_neg h2] at h; cases h
theorem within_f (a b c : Int) (r : Bool) (h : graph_within.f a b c = some r) : r = true ↔ b ≤ a ∧ a ≤ c := by
  unfold graph_within.f at h
  by_cases h1 : a ≥ b
  · rw [if_pos h1] at h; injection h with h; subst h; simp; omega
  · rw [if_neg h1] at h; injection h with h; subst h; simp; omega
theorem good_j0_true {k : Nat} {x1 : List Int} {x2 x3 N : Int} {l : List S41} (h : graph_Good.j0 k x1 x2 x3 true N l = some true) : False := by
  cases k with
  | zero => simp [graph_Good.j0] at h
  | succ k => simp [graph_Good.j0] at h
theorem fits_j0_true {k : Nat} {x1 : List Int} {N : Int} {l : List S41} (h : graph_fits.j0 k x1 true N l = some true) : False := by
  cases k with
  | zero => simp [graph_fits.j0] at h
  | succ k => simp [graph_fits.j0] at h
theorem good_seen {k : Nat} {N : Int} {l : List S41} {F : List Int} {s t : Int} (h : graph_Good.f k N l F s t = some true) : Seen N l F s t := by
  unfold graph_Good.f at h
  obtain ⟨b1, h1, h⟩ := Option.bind_eq_some_iff.1 h
  cases b1 with
  | false => rw [if_neg (by simp)] at h; exact (good_j0_true h).elim
  | true =>
    rw [if_pos rfl] at h
    obtain ⟨b2, h2, h⟩ := Option.bind_eq_some_iff.1 h
    cases b2 with
    | false => rw [if_neg (by simp)] at h; exact (good_j0_true h).elim
    | true =>
      rw [if_pos rfl] at h
      obtain ⟨b3, h3, h⟩ := Option.bind_eq_some_iff.1 h
      cases b3 with
      | false => rw [if_neg (by simp)] at h; exact (good_j0_true h).elim
      | true =>
        rw [if_pos rfl] at h
        cases he : s == t with
        | true => rw [he] at h; exact (good_j0_true h).elim
        | false =>
          unfold graph_fits.f at h1
          obtain ⟨b4, h4, h1⟩ := Option.bind_eq_some_iff.1 h1
          cases b4 with
          | false => rw [if_neg (by simp)] at h1; exact (fits_j0_true h1).elim
          | true =>
            rw [if_pos rfl] at h1
            cases hl : (F.length : Int) != (l.length : Int) with
            | true => rw [hl] at h1; exact (fits_j0_true h1).elim
            | false =>
              obtain ⟨r1, r2, r3, r4, r5⟩ := right_ends (Option.some.inj h4)
              have hw : wrap64 (N - 1) = N - 1 := by unfold wrap64; omega
              have k2 := (within_f _ _ _ _ h2).1 rfl
              have k3 := (within_f _ _ _ _ h3).1 rfl
              rw [hw] at k2 k3
              exact ⟨r2, r3, r4, by have : (F.length : Int) = (l.length : Int) := by simpa using hl
                                    omega, by omega, by omega, by simpa using he⟩

theorem fits_seen {k : Nat} {N : Int} {l : List S41} {F : List Int} (h : graph_fits.f k N l F = some true) : 2 ≤ N ∧ N ≤ 64 ∧ l.length ≤ 256 ∧ Bf.Ends l N ∧ F.length = l.length := by
  unfold graph_fits.f at h
  obtain ⟨b4, h4, h⟩ := Option.bind_eq_some_iff.1 h
  cases b4 with
  | false => rw [if_neg (by simp)] at h; exact (fits_j0_true h).elim
  | true =>
    rw [if_pos rfl] at h
    cases hl : (F.length : Int) != (l.length : Int) with
    | true => rw [hl] at h; exact (fits_j0_true h).elim
    | false =>
      obtain ⟨r1, r2, r3, r4, r5⟩ := right_ends (Option.some.inj h4)
      exact ⟨r1, r2, r3, r4, by have : (F.length : Int) = (l.length : Int) := by simpa using hl
                                omega⟩
end Go.Proofs.Ytfmfojogcghkkaa.P
