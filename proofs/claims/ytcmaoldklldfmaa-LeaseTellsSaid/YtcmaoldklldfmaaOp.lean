/- What comes in, opened: from a reading of an argument to the list, the numbers, the strings that its cells hold, kind by kind. -/
import Derived.Deep.Slices
import Derived.Deep.Strs
import Derived.Lib.SmallJoins
import Derived.ChangeArms
import Derived.ChangeMaps5
import Derived.Test.YtcmaoldklldfmaaWWords
namespace Go.Proofs.Ytcmaoldklldfmaa.Op
open Go.RowKit Go.ChangeShapes Go.WideShapes Go.Deep Go.Proofs.YtcmaoldklldfmaaW.PrintWords

section
variable {H : Type} {enc : TypeId × Value → H} {P : Program} {w : World} {base : Nat} {spare : Nat → Bool} {held : Bool} {t e : TypeId}

/-- Cells that read as something of type t are those of some a of the kind d. -/
def Opens (enc : TypeId × Value → H) (P : Program) (w : World) (base : Nat) (spare : Nat → Bool) (held : Bool) (t : TypeId) {α : Type} (d : Kd α) (ok : α → Prop) : Prop :=
  ∀ n cs x, DataW.trod enc P w base spare held n t cs = some x → ∃ a, d.K w a cs ∧ ok a

theorem opens_int {k : IntKind} (ht : P.underlying t = some (.int k)) : Opens enc P w base spare held t (Kd.int k) (fun n => (Lit.int k n).wf = true) := fun n cs x h => by
  obtain ⟨m, rfl, _, hw⟩ := DataW.trod_int ht h
  exact ⟨m, rfl, hw⟩
theorem opens_bool (ht : P.underlying t = some .bool) : Opens enc P w base spare held t Kd.bool (fun _ => True) := fun n cs x h => by
  obtain ⟨m, rfl, _⟩ := DataW.trod_bool ht h
  exact ⟨m, rfl, trivial⟩
theorem opens_string (ht : P.underlying t = some .string) : Opens enc P w base spare held t Kd.string (fun s => s.size ≤ maxLen) := fun n cs x h => by
  obtain ⟨m, rfl, _, hw⟩ := DataW.trod_string ht h
  exact ⟨m, rfl, hw⟩
theorem opens_iso {α β : Type} {d : Kd α} {ok : α → Prop} (h : Opens enc P w base spare held t d ok) (f : β → α) (g : α → β) (hfg : ∀ a, f (g a) = a) : Opens enc P w base spare held t (Kd.iso d f) (fun b => ok (f b)) := fun n cs x hx => by
  obtain ⟨a, h1, h2⟩ := h n cs x hx
  exact ⟨g a, by show d.K w (f (g a)) cs; rw [hfg]; exact h1, by show ok (f (g a)); rw [hfg]; exact h2⟩
theorem opens_imp {α : Type} {d : Kd α} {ok ok' : α → Prop} (h : Opens enc P w base spare held t d ok) (hok : ∀ a, ok a → ok' a) : Opens enc P w base spare held t d ok' := fun n cs x hx => by
  obtain ⟨a, h1, h2⟩ := h n cs x hx
  exact ⟨a, h1, hok a h2⟩

theorem opens_slice {α : Type} [Inhabited α] {d : Kd α} {ok : α → Prop} (ht : P.underlying t = some (.slice e)) (hc : P.cellsOf e = d.sz) (he : Opens enc P w base spare held e d ok) : Opens enc P w base spare held t (Kd.slice e d) (fun xs => ∀ x ∈ xs, ok x) := fun n cs x h => by
  rcases open_slice ht h with ⟨rfl, _⟩ | ⟨a, len, cap, m, n', D, Pl, rfl, hb, hl, hm, hmm, rfl, hx⟩
  · exact ⟨[], ⟨none, 0, rfl, Nat.le_refl _, rfl, by simp, fun h => absurd h (Nat.lt_irrefl _)⟩, fun x hx => by cases hx⟩
  · have hlm : len ≤ m := by rw [hmm]; split <;> omega
    rw [hc] at hx
    obtain ⟨F, hF⟩ := choose_lt (α := α) (n := len) (p := fun i x => ok x ∧ ∃ c, c.length = d.sz ∧ d.K w x c ∧ ∀ j u, c[j]? = some u → w.cell? (a.add (i * d.sz + j)) = some u) (fun i hi => by
      obtain ⟨cs', h1, h2⟩ := hx i (by omega)
      obtain ⟨x, k1, k2⟩ := he _ _ _ h2
      obtain ⟨_, hlen, hcell⟩ := World.cells?_some h1
      refine ⟨x, k2, cs', hlen, k1, fun j u hj => ?_⟩
      have hj' : j < d.sz := by rw [← hlen]; exact (List.getElem?_eq_some_iff.1 hj).1
      rw [← Deep.add_add, hcell j hj', hj])
    refine ⟨(List.range len).map F, ⟨some a, cap, by simp, by simpa using hl, by simp, by simp only [List.length_map, List.length_range]; unfold maxLen at hm; omega, fun _ => ⟨a, rfl, fun j p hj => ?_⟩⟩, fun x hx => ?_⟩
    · rw [List.getElem?_map, Option.map_eq_some_iff] at hj
      obtain ⟨i, hi, rfl⟩ := hj
      obtain ⟨hi1, hi2⟩ := List.getElem?_eq_some_iff.1 hi
      simp only [List.length_range] at hi1
      rw [List.getElem_range] at hi2
      subst hi2
      obtain ⟨_, c, h1, h2, h3⟩ := hF j hi1
      exact ⟨c, h1, h2, h3⟩
    · obtain ⟨i, hi, rfl⟩ := List.mem_map.1 hx
      exact (hF i (List.mem_range.1 hi)).1

theorem opens_struct2 {α0 α1 : Type} {d0 : Kd α0} {d1 : Kd α1} {k0 : α0 → Prop} {k1 : α1 → Prop} {f0 f1 : Field} (ht : P.underlying t = some (.struct #[f0, f1])) (hC : P.cellsOf t = d0.sz + d1.sz)
    (o0 : f0.offset = 0) (o1 : f1.offset = d0.sz) (c0 : P.cellsOf f0.type = d0.sz) (c1 : P.cellsOf f1.type = d1.sz) (h0 : Opens enc P w base spare held f0.type d0 k0) (h1 : Opens enc P w base spare held f1.type d1 k1) :
    Opens enc P w base spare held t (Kd.pair d0 d1) (fun x => k0 x.1 ∧ k1 x.2) := fun n cs x h => by
  obtain ⟨y0, y1, m, _, hl, g0, g1⟩ := trod_struct2 ht h
  rw [o0, c0] at g0
  rw [o1, c1] at g1
  obtain ⟨a0, u0, v0⟩ := h0 _ _ _ g0
  obtain ⟨a1, u1, v1⟩ := h1 _ _ _ g1
  refine ⟨(a0, a1), ⟨_, _, ?_, u0, u1⟩, v0, v1⟩
  rw [hC] at hl
  rw [List.drop_zero, List.take_of_length_le (l := cs.drop d0.sz) (by simp; omega), List.take_append_drop]

theorem opens_struct3 {α0 α1 α2 : Type} {d0 : Kd α0} {d1 : Kd α1} {d2 : Kd α2} {k0 : α0 → Prop} {k1 : α1 → Prop} {k2 : α2 → Prop} {f0 f1 f2 : Field} (ht : P.underlying t = some (.struct #[f0, f1, f2])) (hC : P.cellsOf t = d0.sz + (d1.sz + d2.sz))
    (o0 : f0.offset = 0) (o1 : f1.offset = d0.sz) (o2 : f2.offset = d0.sz + d1.sz) (c0 : P.cellsOf f0.type = d0.sz) (c1 : P.cellsOf f1.type = d1.sz) (c2 : P.cellsOf f2.type = d2.sz)
    (h0 : Opens enc P w base spare held f0.type d0 k0) (h1 : Opens enc P w base spare held f1.type d1 k1) (h2 : Opens enc P w base spare held f2.type d2 k2) :
    Opens enc P w base spare held t (Kd.pair d0 (Kd.pair d1 d2)) (fun x => k0 x.1 ∧ k1 x.2.1 ∧ k2 x.2.2) := fun n cs x h => by
  obtain ⟨y0, y1, y2, m, _, hl, g0, g1, g2⟩ := trod_struct3 ht h
  rw [o0, c0] at g0
  rw [o1, c1] at g1
  rw [o2, c2] at g2
  obtain ⟨a0, u0, v0⟩ := h0 _ _ _ g0
  obtain ⟨a1, u1, v1⟩ := h1 _ _ _ g1
  obtain ⟨a2, u2, v2⟩ := h2 _ _ _ g2
  refine ⟨(a0, a1, a2), ⟨_, _, ?_, u0, _, _, rfl, u1, u2⟩, v0, v1, v2⟩
  rw [hC] at hl
  rw [List.drop_zero, List.take_of_length_le (l := cs.drop (d0.sz + d1.sz)) (by simp; omega), ← List.drop_drop, List.take_append_drop, List.take_append_drop]

theorem opens_struct4 {α0 α1 α2 α3 : Type} {d0 : Kd α0} {d1 : Kd α1} {d2 : Kd α2} {d3 : Kd α3} {k0 : α0 → Prop} {k1 : α1 → Prop} {k2 : α2 → Prop} {k3 : α3 → Prop} {f0 f1 f2 f3 : Field} (ht : P.underlying t = some (.struct #[f0, f1, f2, f3])) (hC : P.cellsOf t = d0.sz + (d1.sz + (d2.sz + d3.sz)))
    (o0 : f0.offset = 0) (o1 : f1.offset = d0.sz) (o2 : f2.offset = d0.sz + d1.sz) (o3 : f3.offset = d0.sz + d1.sz + d2.sz) (c0 : P.cellsOf f0.type = d0.sz) (c1 : P.cellsOf f1.type = d1.sz) (c2 : P.cellsOf f2.type = d2.sz) (c3 : P.cellsOf f3.type = d3.sz)
    (h0 : Opens enc P w base spare held f0.type d0 k0) (h1 : Opens enc P w base spare held f1.type d1 k1) (h2 : Opens enc P w base spare held f2.type d2 k2) (h3 : Opens enc P w base spare held f3.type d3 k3) :
    Opens enc P w base spare held t (Kd.pair d0 (Kd.pair d1 (Kd.pair d2 d3))) (fun x => k0 x.1 ∧ k1 x.2.1 ∧ k2 x.2.2.1 ∧ k3 x.2.2.2) := fun n cs x h => by
  obtain ⟨y0, y1, y2, y3, m, _, hl, g0, g1, g2, g3⟩ := Go.Joins.trod_struct4 ht h
  rw [o0, c0] at g0
  rw [o1, c1] at g1
  rw [o2, c2] at g2
  rw [o3, c3] at g3
  obtain ⟨a0, u0, v0⟩ := h0 _ _ _ g0
  obtain ⟨a1, u1, v1⟩ := h1 _ _ _ g1
  obtain ⟨a2, u2, v2⟩ := h2 _ _ _ g2
  obtain ⟨a3, u3, v3⟩ := h3 _ _ _ g3
  refine ⟨(a0, a1, a2, a3), ⟨_, _, ?_, u0, _, _, rfl, u1, _, _, rfl, u2, u3⟩, v0, v1, v2, v3⟩
  rw [hC] at hl
  have e1 : cs.drop (d0.sz + d1.sz) = (cs.drop d0.sz).drop d1.sz := by rw [List.drop_drop]
  have e2 : cs.drop (d0.sz + d1.sz + d2.sz) = (cs.drop (d0.sz + d1.sz)).drop d2.sz := by rw [List.drop_drop]
  rw [List.drop_zero, List.take_of_length_le (l := cs.drop (d0.sz + d1.sz + d2.sz)) (by simp; omega), e2, List.take_append_drop, e1, List.take_append_drop, List.take_append_drop]

/-- An argument: a slice. -/
theorem arg_slice {α : Type} [Inhabited α] {d : Kd α} {ok : α → Prop} {A : Option Addr} {len cap : Nat} {x : DataW H} {ps : List MemPlace} (ht : P.underlying t = some (.slice e)) (hc : P.cellsOf e = d.sz) (he : Opens enc P w base spare held e d ok)
    (h : DataW.Trod enc P w base spare held t (.slice A len cap) x ps) : ∃ xs : List α, len = xs.length ∧ xs.length ≤ cap ∧ d.C w A xs.length xs ∧ ∀ x ∈ xs, ok x := by
  obtain ⟨n, hn⟩ := h
  obtain ⟨xs, ⟨A', c', h1, h2, h3⟩, h4⟩ := opens_slice ht hc he _ _ _ hn
  simp [Value.cells] at h1
  obtain ⟨rfl, rfl, rfl⟩ := h1
  exact ⟨xs, rfl, h2, h3, h4⟩
/-- An argument by value of two fields of one cell each. -/
theorem arg_agg2 {r : Reach} {b0 : Nat} {α0 α1 : Type} {d0 : Kd α0} {d1 : Kd α1} {k0 : α0 → Prop} {k1 : α1 → Prop} {f0 f1 : Field} {v : Value} {x : DataW H} {ps : List MemPlace} (hs : P.underlying t = some (.struct #[f0, f1])) (hone : oneCellFields P #[f0, f1] = true) (hC : P.cellsOf t = 2)
    (h0 : Opens enc P w base spare held f0.type d0 k0) (h1 : Opens enc P w base spare held f1.type d1 k1) (hv : Value.okWide P w r b0 t v) (h : DataW.Trod enc P w base spare held t v x ps) :
    ∃ v0 v1 a0 a1, v = .agg #[v0, v1] ∧ d0.K w a0 [v0] ∧ k0 a0 ∧ d1.K w a1 [v1] ∧ k1 a1 := by
  obtain ⟨v0, v1, y0, y1, n, rfl, _, _, g0, g1⟩ := Go.Joins.open_agg2 hs hone hC hv h
  obtain ⟨a0, u0, w0⟩ := h0 _ _ _ g0
  obtain ⟨a1, u1, w1⟩ := h1 _ _ _ g1
  exact ⟨v0, v1, a0, a1, rfl, u0, w0, u1, w1⟩
theorem arg_agg3 {r : Reach} {b0 : Nat} {α0 α1 α2 : Type} {d0 : Kd α0} {d1 : Kd α1} {d2 : Kd α2} {k0 : α0 → Prop} {k1 : α1 → Prop} {k2 : α2 → Prop} {f0 f1 f2 : Field} {v : Value} {x : DataW H} {ps : List MemPlace} (hs : P.underlying t = some (.struct #[f0, f1, f2])) (hone : oneCellFields P #[f0, f1, f2] = true) (hC : P.cellsOf t = 3)
    (h0 : Opens enc P w base spare held f0.type d0 k0) (h1 : Opens enc P w base spare held f1.type d1 k1) (h2 : Opens enc P w base spare held f2.type d2 k2) (hv : Value.okWide P w r b0 t v) (h : DataW.Trod enc P w base spare held t v x ps) :
    ∃ v0 v1 v2 a0 a1 a2, v = .agg #[v0, v1, v2] ∧ d0.K w a0 [v0] ∧ k0 a0 ∧ d1.K w a1 [v1] ∧ k1 a1 ∧ d2.K w a2 [v2] ∧ k2 a2 := by
  obtain ⟨v0, v1, v2, y0, y1, y2, n, rfl, _, _, g0, g1, g2⟩ := Go.Joins.open_agg3 hs hone hC hv h
  obtain ⟨a0, u0, w0⟩ := h0 _ _ _ g0
  obtain ⟨a1, u1, w1⟩ := h1 _ _ _ g1
  obtain ⟨a2, u2, w2⟩ := h2 _ _ _ g2
  exact ⟨v0, v1, v2, a0, a1, a2, rfl, u0, w0, u1, w1, u2, w2⟩
end
end Go.Proofs.Ytcmaoldklldfmaa.Op
