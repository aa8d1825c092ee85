/- The book of layer 14 in memory: a box of three cells, a row of grants of the call's own, a map for each grant. -/
import Derived.Test.YtcmaoldklldfmaaPx0
import Derived.Test.YtcmaoldklldfmaaMp
import Derived.Lib.Hide
import Derived.Lib.SliceRun
namespace Go.Proofs.Ytcmaoldklldfmaa.P
open Go.RowKit Go.Proofs.YtcmaoldklldfmaaW.PrintWords Go.Proofs.YtcmaoldklldfmaaW.PrintLast Go.Proofs.YtcmaoldklldfmaaW.PrintMore
set_option linter.unusedSimpArgs false
set_option linter.unusedVariables false

open Go.Maps (Keyed string_keyed)
theorem law9 : Keyed Try.prog 9 := string_keyed Try.underlying9
theorem zero3 (w : World) : (zeroValue 3).run Try.prog w = .ok (.int .i64 0) w := by kernel_rfl
theorem key9 {s : ByteArray} (h : s.size ≤ maxLen) : keyOf Try.prog 9 (.string s) = some (.string s.data.toList) := Go.WideMaps.keyOf_string_mk Try.underlying9 h

/-- What a map of numbers by names tells. -/
def LV (fL : Value → Option Value) (lv : ByteArray → Int) : Prop := ∀ s : ByteArray, (fL (.string s)).getD (.int .i64 0) = .int .i64 (lv s)
theorem LV.up {fL : Value → Option Value} {lv : ByteArray → Int} (h : LV fL lv) (s0 : ByteArray) (x : Int) : LV (Mp.up fL (.string s0) (.int .i64 x)) (fun s => if s = s0 then x else lv s) := by
  intro s
  by_cases e : s = s0
  · subst e; simp [Mp.up]
  · have e' : (Value.string s) ≠ .string s0 := fun h => e (by injection h)
    simp [Mp.up, e, e']
    exact h s

/-- A grant: a version, until when, counts by names; the block of its map. -/
structure Gr where
  ver : Int
  til : Int
  cnt : ByteArray → Int
  m : Nat
def zG : Gr := ⟨0, 0, fun _ => 0, 0⟩
def kM : Kd Nat := Kd.scalar (fun m : Nat => Value.map (some m)) (fun _ => rfl)
def kG : Kd Gr := Kd.iso (Kd.pair (Kd.int .i64) (Kd.pair (Kd.int .i64) kM)) (fun x : Gr => (x.ver, x.til, x.m))
theorem info56 : (Try.prog.info? 56).map (fun i => (i.zero, i.size, i.bytes)) = some (some (.agg #[.int .i64 0, .int .i64 0, .map none]), 3, 24) := by kernel_rfl
theorem kG_open {w : World} {x : Gr} {cs : List Value} (h : kG.K w x cs) : cs = [.int .i64 x.ver, .int .i64 x.til, .map (some x.m)] := by
  obtain ⟨_, _, rfl, rfl, ⟨_, _, rfl, rfl, rfl⟩⟩ := h
  exact rfl
theorem kG_openM {w : World} {base : Nat} {ok : Nat → Prop} {x : Gr} {cs : List Value} (h : kG.M w base ok x cs) : cs = [.int .i64 x.ver, .int .i64 x.til, .map (some x.m)] := by
  obtain ⟨_, _, rfl, rfl, ⟨_, _, rfl, rfl, rfl⟩⟩ := h
  exact rfl
theorem kG_mk (w : World) (x : Gr) : kG.K w x [.int .i64 x.ver, .int .i64 x.til, .map (some x.m)] := ⟨[.int .i64 x.ver], [.int .i64 x.til, .map (some x.m)], rfl, rfl, ⟨[.int .i64 x.til], [.map (some x.m)], rfl, rfl, rfl⟩⟩
theorem kG_mkM (w : World) (base : Nat) (ok : Nat → Prop) (x : Gr) : kG.M w base ok x [.int .i64 x.ver, .int .i64 x.til, .map (some x.m)] := ⟨[.int .i64 x.ver], [.int .i64 x.til, .map (some x.m)], rfl, rfl, ⟨[.int .i64 x.til], [.map (some x.m)], rfl, rfl, rfl⟩⟩
def rdG (xs : List Gr) (i : Int) : Gr := xs.getD i.toNat zG
theorem at_G {w : World} {A : Option Addr} {n : Nat} {xs : List Gr} (h : Kd.C kG w A n xs) (i : Int) (h0 : 0 ≤ i) (h1 : i < n) : ∃ ad, A = some ad ∧ w.cell? (ad.add (i.toNat * 3)) = some (.int .i64 (rdG xs i).ver) ∧ w.cell? ⟨(ad.add (i.toNat * 3)).block, (ad.add (i.toNat * 3)).off + 1, none⟩ = some (.int .i64 (rdG xs i).til) ∧ w.cell? ⟨(ad.add (i.toNat * 3)).block, (ad.add (i.toNat * 3)).off + 2, none⟩ = some (.map (some (rdG xs i).m)) := by
  obtain ⟨ad, c, e, _, hK, hc0⟩ := Kd.C_get h zG i h0 h1
  have hc : ∀ j u, c[j]? = some u → w.cell? (ad.add (i.toNat * 3 + j)) = some u := hc0
  obtain rfl := kG_open hK
  exact ⟨ad, e, hc 0 _ rfl, by rw [← add_field _ _ 1 (by omega)]; exact hc 1 _ rfl, by rw [← add_field _ _ 2 (by omega)]; exact hc 2 _ rfl⟩

/-- The grant's map is there. -/
def GrIn (N : Nat) (w : World) (g : Gr) : Prop := N ≤ g.m ∧ ∃ n f, Mp.Is Try.prog 9 w g.m n f ∧ LV f g.cnt

/-- The book at block b. -/
structure Bk (N b : Nat) (u : Bool) (t : Int) (v : Value) (gs : List Gr) (w : World) : Prop where
  lo : N ≤ b
  box : w.heap[b]? = some (Obj.cells #[.bool u, .int .i64 t, v] 52 (0, 0))
  row : Kd.R kG 56 w N (fun _ => True) v gs
  gr : ∀ g ∈ gs, GrIn N w g

/-- What a book's call may write. -/
def Wr : Obj → Prop
  | .cells _ e _ => e = 52 ∨ e = 56
  | _ => False
/-- What a book is made of. -/
def Bs : Obj → Prop
  | .cells _ e _ => e = 52 ∨ e = 56
  | .map _ _ => True
  | _ => False

/-- Nothing has turned but what a book's call may write. -/
structure Ch (N : Nat) (w w' : World) : Prop where
  os : w'.os = w.os
  tape : w'.tape = w.tape
  output : w'.output = w.output
  size : w.heap.size ≤ w'.heap.size
  block : ∀ (k : Nat) o, w.heap[k]? = some o → (k < N ∨ ¬ Wr o) → w'.heap[k]? = some o

theorem lt_of_some {w : World} {k : Nat} {o : Obj} (h : w.heap[k]? = some o) : k < w.heap.size := (Array.getElem?_eq_some_iff.1 h).1
theorem Ch.refl (N : Nat) (w : World) : Ch N w w := ⟨rfl, rfl, rfl, Nat.le_refl _, fun _ _ h _ => h⟩
theorem Ch.trans {N : Nat} {a b c : World} (h : Ch N a b) (k : Ch N b c) : Ch N a c := ⟨k.os.trans h.os, k.tape.trans h.tape, k.output.trans h.output, Nat.le_trans h.size k.size, fun i o hi ho => k.block i o (h.block i o hi ho) ho⟩
theorem Ch.of_below {N : Nat} {w w' : World} (h : Below w.heap.size w w') : Ch N w w' := ⟨h.os, h.tape, h.output, h.size, fun k o hk _ => (h.block k (lt_of_some hk)).trans hk⟩
theorem Ch.below {N : Nat} {w w' : World} (h : Ch N w w') (hN : N ≤ w.heap.size) : Below N w w' := ⟨h.os, h.tape, h.output, h.size, fun k hk => by
  obtain ⟨o, ho⟩ : ∃ o, w.heap[k]? = some o := ⟨_, Array.getElem?_eq_getElem (by omega)⟩
  rw [ho]; exact h.block k o ho (.inl hk)⟩
theorem Ch.mono {N M : Nat} {w w' : World} (h : Ch N w w') (hM : M ≤ N) : Ch M w w' := ⟨h.os, h.tape, h.output, h.size, fun k o hk ho => h.block k o hk (ho.imp (fun h => Nat.lt_of_lt_of_le h hM) id)⟩
theorem Ch.of_grown {N : Nat} {w w' : World} {r : Option Nat} (hg : w.grownBy w' r) (hr : ∀ k, r = some k → N ≤ k ∧ ∀ o, w.heap[k]? = some o → Wr o) : Ch N w w' := ⟨hg.os, hg.tape, hg.output, hg.size, fun k o hk ho => by
  refine (hg.block k (lt_of_some hk) (fun e => ?_)).trans hk
  obtain ⟨h1, h2⟩ := hr k e.symm
  rcases ho with h | h
  · omega
  · exact h (h2 o hk)⟩

section
variable {N b : Nat} {u : Bool} {t : Int} {v : Value} {gs : List Gr} {w w' : World}
theorem GrIn.keep {g : Gr} (h : GrIn N w g) (hb : ∀ (k : Nat) es c, w.heap[k]? = some (Obj.map es c) → w'.heap[k]? = some (Obj.map es c)) : GrIn N w' g := by
  obtain ⟨h1, n, f, hI, hL⟩ := h
  obtain ⟨es, c, hm⟩ := hI.isMap
  exact ⟨h1, n, f, hI.of_block ((hb _ _ _ hm).trans hm.symm), hL⟩
theorem Bk.row_keep (h : Kd.R kG 56 w N (fun _ => True) v gs) (hb : ∀ (k : Nat) cs, w.heap[k]? = some (Obj.cells cs 56 (0, 0)) → w'.heap[k]? = some (Obj.cells cs 56 (0, 0))) : Kd.R kG 56 w' N (fun _ => True) v gs := by
  refine Kd.R_move (Kd.R_mono (ok' := fun k => ∃ cs, w.heap[k]? = some (Obj.cells cs 56 (0, 0))) (Kd.R_bound h) fun k hk => ?_) (fun k hk => ?_) |> fun h => Kd.R_mono h (fun _ _ => trivial)
  · obtain ⟨_, _, _, q, hq, cs, hc⟩ := hk
    have : q = 56 := by simpa [kG, Kd.iso, Kd.pair, Kd.int, kM, Kd.scalar] using hq
    subst this
    exact ⟨cs, hc⟩
  · obtain ⟨cs, hc⟩ := hk
    rw [hc]; exact hb k cs hc
theorem Bk.keep (h : Bk N b u t v gs w) (hb : ∀ (k : Nat) o, w.heap[k]? = some o → Bs o → w'.heap[k]? = some o) : Bk N b u t v gs w' :=
  ⟨h.lo, hb _ _ h.box (.inl rfl), Bk.row_keep h.row (fun k cs hc => hb k _ hc (.inr rfl)), fun g hg => (h.gr g hg).keep (fun k es c hk => hb k _ hk trivial)⟩
theorem Bk.below (h : Bk N b u t v gs w) (hb : Below w.heap.size w w') : Bk N b u t v gs w' := h.keep fun k o hk _ => (hb.block k (lt_of_some hk)).trans hk
theorem Bk.alloc (h : Bk N b u t v gs w) (o : Obj) : Bk N b u t v gs (w.alloc o) := h.below ((Below.refl _ _).alloc (Nat.le_refl _) o)
theorem Bk.drewN (h : Bk N b u t v gs w) (m : Nat) : Bk N b u t v gs (w.drewN m) := h.below (pw_below_drewN (Below.refl _ _) m)
theorem Bk.drew (h : Bk N b u t v gs w) : Bk N b u t v gs w.drew := h.below (Below.refl _ _).drew
theorem Bk.lt (h : Bk N b u t v gs w) : b < w.heap.size := lt_of_some h.box
theorem Bk.cells (h : Bk N b u t v gs w) : w.cell? ⟨b, 0, none⟩ = some (.bool u) ∧ w.cell? ⟨b, 1, none⟩ = some (.int .i64 t) ∧ w.cell? ⟨b, 2, none⟩ = some v ∧ w.frozen? ⟨b, 0, none⟩ = false ∧ w.frozen? ⟨b, 1, none⟩ = false ∧ w.frozen? ⟨b, 2, none⟩ = false := by
  have hb := h.box
  refine ⟨by simp [World.cell?, hb], by simp [World.cell?, hb], by simp [World.cell?, hb], by simp [World.frozen?, hb], by simp [World.frozen?, hb], by simp [World.frozen?, hb]⟩
theorem box_set {o : Nat} {cs : Array Value} {x : Value} (hb : w.heap[b]? = some (Obj.cells cs 52 (0, 0))) :
    (w.setCell ⟨b, o, none⟩ x).heap[b]? = some (Obj.cells (cs.setIfInBounds o x) 52 (0, 0)) := by
  simp only [World.setCell, Array.getElem?_modify, hb]
  simp
theorem box_grown {o : Nat} {x : Value} : w.grownBy (w.setCell ⟨b, o, none⟩ x) (some b) :=
  ⟨rfl, rfl, rfl, by simp [World.setCell], fun k _ hk => Below.heap_setCell _ _ _ _ (by rintro rfl; exact hk rfl)⟩
theorem box_other {o : Nat} {x : Value} {cs : Array Value} (hb : w.heap[b]? = some (Obj.cells cs 52 (0, 0))) {k : Nat} {ob : Obj} (hk : w.heap[k]? = some ob) (hne : ∀ cs, ob ≠ Obj.cells cs 52 (0, 0)) : (w.setCell ⟨b, o, none⟩ x).heap[k]? = some ob := by
  refine (Below.heap_setCell _ _ _ _ ?_).trans hk
  rintro rfl
  rw [hb] at hk
  exact hne _ (Option.some.inj hk).symm
theorem Bk.ch_set (h : Bk N b u t v gs w) (o : Nat) (x : Value) : Ch N w (w.setCell ⟨b, o, none⟩ x) :=
  Ch.of_grown box_grown (fun k hk => by cases hk; exact ⟨h.lo, fun o ho => by rw [h.box] at ho; cases ho; exact .inl rfl⟩)
theorem Bk.setU (h : Bk N b u t v gs w) (u' : Bool) : Bk N b u' t v gs (w.setCell ⟨b, 0, none⟩ (.bool u')) :=
  ⟨h.lo, by simpa using box_set (o := 0) h.box, Bk.row_keep h.row (fun k cs hc => box_other h.box hc (by intro cs e; cases e)), fun g hg => (h.gr g hg).keep (fun k es c hk => box_other h.box hk (by intro cs e; cases e))⟩
theorem Bk.setV {v0 v' : Value} {gs' : List Gr} (lo : N ≤ b) (hb : w.heap[b]? = some (Obj.cells #[.bool u, .int .i64 t, v0] 52 (0, 0))) (hr : Kd.R kG 56 w N (fun _ => True) v' gs') (hg : ∀ g ∈ gs', GrIn N w g) : Bk N b u t v' gs' (w.setCell ⟨b, 2, none⟩ v') :=
  ⟨lo, by simpa using box_set (o := 2) hb, Bk.row_keep hr (fun k cs hc => box_other hb hc (by intro cs e; cases e)), fun g hg' => (hg g hg').keep (fun k es c hk => box_other hb hk (by intro cs e; cases e))⟩
theorem ch_set {cs : Array Value} (lo : N ≤ b) (hb : w.heap[b]? = some (Obj.cells cs 52 (0, 0))) (o : Nat) (x : Value) : Ch N w (w.setCell ⟨b, o, none⟩ x) :=
  Ch.of_grown box_grown (fun k hk => by cases hk; exact ⟨lo, fun o ho => by rw [hb] at ho; cases ho; exact .inl rfl⟩)
/-- The row's block alone has turned. -/
theorem Bk.row_grown (h : Bk N b u t v gs w) (hg : w.grownBy w' v.ownBlock) : w'.heap[b]? = some (Obj.cells #[.bool u, .int .i64 t, v] 52 (0, 0)) ∧ (∀ g ∈ gs, GrIn N w' g) ∧ Ch N w w' ∧ ∀ (k : Nat) es c, w.heap[k]? = some (Obj.map es c) → w'.heap[k]? = some (Obj.map es c) := by
  have ty := Kd.R_typed h.row
  have hm : ∀ (k : Nat) es c, w.heap[k]? = some (Obj.map es c) → w'.heap[k]? = some (Obj.map es c) := fun k es c hk => (hg.block k (lt_of_some hk) (fun e => by
      obtain ⟨cs, hc⟩ := ty k e.symm
      rw [hk] at hc; cases hc)).trans hk
  refine ⟨(hg.block b h.lt (fun e => ?_)).trans h.box, fun g hg' => (h.gr g hg').keep hm, Ch.of_grown hg (fun k hk => ⟨Kd.R_base h.row k hk, fun o ho => ?_⟩), hm⟩
  · obtain ⟨cs, hc⟩ := ty b e.symm
    rw [h.box] at hc; cases hc
  · obtain ⟨cs, hc⟩ := ty k hk
    rw [ho] at hc; cases hc; exact .inr rfl
end
end Go.Proofs.Ytcmaoldklldfmaa.P
