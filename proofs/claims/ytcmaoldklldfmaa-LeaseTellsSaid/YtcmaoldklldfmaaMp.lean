/- Maps of whatever elements in a walk: a block is a map, f tells its element at each key; what a look-up, a store, an entry do. -/
import Derived.Maps.OwnSet
import Derived.WideKeyEntry
import Derived.DeepKeys4
import Derived.WalkKit
namespace Go.Proofs.Ytcmaoldklldfmaa.Mp
open Go.RowKit Go.Maps Go.WideElems Go.ChangeShapes Go.WideShapes Go.MapKept Go.ChangeMaps
open Go.WideMaps (KeyLaw)

/-- An element as a token of itself: whatever the elements' type is. -/
def Rv (v : Value) : Option (DataW Value × List MemPlace) := some (.held v, [])

/-- Block b of w is a map of at most n entries: f tells its element at each key. -/
def Is (P : Program) (k : TypeId) (w : World) (b n : Nat) (f : Value → Option Value) : Prop :=
  ∃ D : DataW Value, w.ownsMap P k Rv b n D ∧ ∀ key kl, keyOf P k key = some kl → Maps.has D kl = (f key).isSome ∧ ∀ v, f key = some v → ∀ z, D.atKey kl z = .held v

open Classical in
/-- The map with one element set. -/
noncomputable def up (f : Value → Option Value) (key v : Value) : Value → Option Value := fun k => if k = key then some v else f k

section
variable {P : Program} {k e t : TypeId} {w w1 : World} {b n : Nat} {f : Value → Option Value}

theorem Is.congr {g : Value → Option Value} (h : Is P k w b n f) (hg : ∀ key kl, keyOf P k key = some kl → f key = g key) : Is P k w b n g := by
  obtain ⟨D, h1, h2⟩ := h
  exact ⟨D, h1, fun key kl hk => by rw [← hg key kl hk]; exact h2 key kl hk⟩
theorem Is.mono {n' : Nat} (h : Is P k w b n f) (hn : n ≤ n') : Is P k w b n' f := by
  obtain ⟨D, h1, h2⟩ := h
  exact ⟨D, h1.mono hn, h2⟩
theorem Is.lt (h : Is P k w b n f) : b < w.heap.size := by obtain ⟨D, h1, _⟩ := h; exact h1.lt
theorem Is.of_block (h : Is P k w b n f) (hb : w1.heap[b]? = w.heap[b]?) : Is P k w1 b n f := by
  obtain ⟨D, ⟨es, c, h1, h3⟩, h2⟩ := h
  exact ⟨D, ⟨es, c, hb.trans h1, h3⟩, h2⟩
theorem Is.kept {row : Option Nat} (h : Is P k w b n f) (hg : w.grownBy w1 row) (hne : some b ≠ row) : Is P k w1 b n f := h.of_block (hg.block b h.lt hne)
theorem Is.isMap (h : Is P k w b n f) : ∃ es c, w.heap[b]? = some (.map es c) := by obtain ⟨D, ⟨es, c, h1, _⟩, _⟩ := h; exact ⟨es, c, h1⟩

theorem Is.made (w : World) (P : Program) (k : TypeId) : Is P k (w.alloc (.map #[] 0)) w.heap.size 0 (fun _ => none) :=
  ⟨.map [], World.ownsMap_made w P k Rv, fun key kl _ => ⟨rfl, fun v hv => by cases hv⟩⟩

theorem Is.look (h : Is P k w b n f) (K : Keyed P k) (ht : P.underlying t = some (.map k e)) {z : Value} (hz : (zeroValue e).run P w = .ok z w) {key : Value} {kl : Lit} (hkey : keyOf P k key = some kl) :
    (Instr.lookup t (.map (some b)) key false).run P w = .ok ((f key).getD z) w := by
  obtain ⟨D, h1, h2⟩ := h
  obtain ⟨v, ps, hrun, hv⟩ := h1.lookup K ht hz (zd := .held z) (zp := []) rfl hkey
  obtain ⟨h3, h4⟩ := h2 key kl hkey
  rw [hrun]
  cases hf : f key with
  | none =>
    rw [hf] at h3
    rw [Maps.atKey_of_not_has h3] at hv
    simp only [Rv, Option.some.injEq, Prod.mk.injEq, DataW.held.injEq] at hv
    rw [hv.1]; rfl
  | some u =>
    rw [h4 u hf] at hv
    simp only [Rv, Option.some.injEq, Prod.mk.injEq, DataW.held.injEq] at hv
    rw [hv.1]; rfl

theorem Is.look_ok (h : Is P k w b n f) (K : Keyed P k) (ht : P.underlying t = some (.map k e)) {z : Value} (hz : (zeroValue e).run P w = .ok z w) {key : Value} {kl : Lit} (hkey : keyOf P k key = some kl) :
    (Instr.lookup t (.map (some b)) key true).run P w = .ok (.tuple #[(f key).getD z, .bool (f key).isSome]) w := by
  obtain ⟨D, h1, h2⟩ := h
  obtain ⟨v, ps, hrun, hv⟩ := h1.look_ok K ht hz (zd := .held z) (zp := []) rfl hkey
  obtain ⟨h3, h4⟩ := h2 key kl hkey
  rw [hrun, h3]
  cases hf : f key with
  | none =>
    rw [hf] at h3
    rw [Maps.atKey_of_not_has h3] at hv
    simp only [Rv, Option.some.injEq, Prod.mk.injEq, DataW.held.injEq] at hv
    rw [hv.1]; rfl
  | some u =>
    rw [h4 u hf] at hv
    simp only [Rv, Option.some.injEq, Prod.mk.injEq, DataW.held.injEq] at hv
    rw [hv.1]; rfl

theorem Is.update (h : Is P k w b n f) (K : Keyed P k) (ht : P.underlying t = some (.map k e)) (hn : n < maxLen) {key : Value} {kl : Lit} (hkey : keyOf P k key = some kl) (val : Value) :
    ∃ w', (Instr.mapUpdate t (.map (some b)) key val).run P w = .ok () w' ∧ Is P k w' b (n + 1) (up f key val) ∧ w.grownBy w' (some b) := by
  obtain ⟨D, h1, h2⟩ := h
  obtain ⟨w', hrun, ho, hg⟩ := h1.update K ht hn hkey (val := val) (d := .held val) (ps := []) rfl
  refine ⟨w', hrun, ⟨_, ho, fun key' kl' hk' => ?_⟩, hg⟩
  have hD := h1.isMap
  by_cases e1 : key' = key
  · subst e1
    have : kl' = kl := Option.some.inj (hk'.symm.trans hkey)
    subst this
    refine ⟨by rw [Maps.has_put_same hD (K.key hkey)]; simp [up], fun v hv z => ?_⟩
    simp only [up, if_true, Option.some.injEq] at hv
    rw [Maps.atKey_put_same hD (K.key hkey), hv]
  · have hne : kl' ≠ kl := fun e2 => e1 (K.inj hk' (e2 ▸ hkey))
    obtain ⟨h3, h4⟩ := h2 key' kl' hk'
    refine ⟨by rw [Maps.has_put_other hne, h3]; simp [up, e1], fun v hv z => ?_⟩
    rw [Maps.atKey_put_other hne]
    exact h4 v (by simpa [up, e1] using hv) z

/-- 'm[k] op= v' as the model has it: the entry is made (or found), its element told; then stored. -/
theorem Is.entry (h : Is P k w b n f) (K : Keyed P k) (ht : P.underlying t = some (.map k e)) {z : Value} (hz : ∀ u : World, (zeroValue e).run P u = .ok z u) (hn : n < maxLen) {key : Value} {kl : Lit} (hkey : keyOf P k key = some kl) :
    ∃ (v0 : Value) (st : Nat) (w1 : World), (Instr.mapEntry t (.map (some b)) key).run P w = .ok (.tuple #[v0, goInt st]) w1 ∧ Is P k w1 b (n + 1) (up f key ((f key).getD z)) ∧ w.grownBy w1 (some b) ∧
      ∀ (w2 : World) (val : Value), w2.heap[b]? = w1.heap[b]? → ∃ w3, (Instr.entryStore t (.map (some b)) (goInt st) val).run P w2 = .ok () w3 ∧ Is P k w3 b (n + 1) (up f key val) ∧ w2.grownBy w3 (some b) := by
  have h0 := h
  obtain ⟨D, ⟨es, clock, hb, F, hs, hD⟩, h2⟩ := h0
  obtain ⟨s1, s2, _⟩ := F.stamped
  have hlook := h.look K ht (hz w) hkey
  have fin : ∀ (v : Value) (es' : Array MapEntry) (clock' : Nat), (Instr.mapUpdate t (.map (some b)) key v).run P w = .ok () (setBlock w b (.map es' clock')) → Is P k (setBlock w b (.map es' clock')) b (n + 1) (up f key v) ∧ w.grownBy (setBlock w b (.map es' clock')) (some b) := by
    intro v es' clock' hu
    obtain ⟨w', hrun, r1, r2⟩ := h.update K ht hn hkey v
    rw [hu] at hrun
    injection hrun with _ hw
    subst hw
    exact ⟨r1, r2⟩
  have fin2 : ∀ (w1 w2 : World) (v : Value) (es0 es' : Array MapEntry) (clock0 clock' : Nat), w1.heap[b]? = some (.map es0 clock0) → w2.heap[b]? = w1.heap[b]? → (Instr.mapUpdate t (.map (some b)) key v).run P w = .ok () (setBlock w b (.map es' clock')) →
      Is P k (setBlock w2 b (.map es' clock')) b (n + 1) (up f key v) ∧ w2.grownBy (setBlock w2 b (.map es' clock')) (some b) := by
    intro w1 w2 v es0 es' clock0 clock' hw1 hw2 hu
    have r := (fin v es' clock' hu).1
    refine ⟨r.of_block ?_, ⟨rfl, rfl, rfl, by simp [setBlock], fun i _ hi => heap_setBlock_other (hw2.trans hw1) _ (fun e => hi (by rw [e]))⟩⟩
    rw [heap_setBlock_same (hw2.trans hw1), heap_setBlock_same hb]
  rcases K.find w hkey es.toList F.keys with ⟨h1, h3⟩ | ⟨j, e0, h1, h3, h4⟩
  · have hv0 : (f key).getD z = z := by
      have e1 : (Instr.lookup t (.map (some b)) key false).run P w = .ok z w := by simp [Instr.lookup, run_underlying ht, MapKept.run_getObj_map hb, K.check w _ hkey, h1, hz, Result.andThen]
      rw [e1] at hlook
      injection hlook with e2
      exact e2.symm
    have hup : ∀ val, (Instr.mapUpdate t (.map (some b)) key val).run P w = .ok () (setBlock w b (.map (es.push ⟨key, val, clock⟩) (clock + 1))) := fun val => by
      simp [Instr.mapUpdate, run_underlying ht, MapKept.run_getObj_map hb, K.check w false hkey, h1, MapKept.run_setObj_map _ hb, Result.andThen, setBlock]
    obtain ⟨r1, r2⟩ := fin z _ _ (hup z)
    refine ⟨z, clock, setBlock w b (.map (es.push ⟨key, z, clock⟩) (clock + 1)), ?_, by rw [hv0]; exact r1, r2, fun w2 val hw2 => ?_⟩
    · simp [Instr.mapEntry, run_underlying ht, MapKept.run_getObj_map hb, K.check w false hkey, h1, hz, MapKept.run_setObj_map _ hb, Result.andThen, setBlock]
    · have hw1 : (setBlock w b (.map (es.push ⟨key, z, clock⟩) (clock + 1))).heap[b]? = some (.map (es.push ⟨key, z, clock⟩) (clock + 1)) := heap_setBlock_same hb _
      obtain ⟨r3, r4⟩ := fin2 _ w2 val _ _ _ _ hw1 hw2 (hup val)
      refine ⟨_, ?_, r3, r4⟩
      have hw2' := hw2.trans hw1
      have hidx : (es.push ⟨key, z, clock⟩).findIdx? (fun e => ((e.born : Nat) : Int) == ((clock : Nat) : Int)) = some es.size := by
        rw [findIdx_arr]
        have := findIdx_born (l := (es.push ⟨key, z, clock⟩).toList) (j := es.size) (e0 := ⟨key, z, clock⟩) (by
          simp only [Array.toList_push, List.map_append, List.map_cons, List.map_nil]
          refine List.nodup_append.2 ⟨s2, by simp, fun a ha c hc e1 => ?_⟩
          simp only [List.mem_singleton] at hc
          obtain ⟨x, hx, rfl⟩ := List.mem_map.1 ha
          have := s1 x hx
          omega) (by simp)
        exact this
      have hmod : (es.push ⟨key, z, clock⟩).modify es.size (fun e => { e with val := val }) = es.push ⟨key, val, clock⟩ := by
        apply Array.ext'
        rw [Array.toList_modify, Array.toList_push, Array.toList_push, ← Array.length_toList, modify_last]
      simp [Instr.entryStore, MapKept.run_getObj_map hw2', asInt, asIntOf, goInt, hidx, hmod, MapKept.run_setObj_map _ hw2', Result.andThen, setBlock]
  · have hj : es[j]? = some e0 := by simpa using h3
    have hsame : es.modify j (fun e => { e with key := key }) = es := by
      apply Array.ext'
      rw [Array.toList_modify, modify_eq_set _ _ _ _ h3]
      have : ({ e0 with key := key } : MapEntry) = e0 := by rw [← h4]
      rw [this]
      exact set_self _ _ _ h3
    have hv0 : (f key).getD z = e0.val := by
      have e1 : (Instr.lookup t (.map (some b)) key false).run P w = .ok e0.val w := by simp [Instr.lookup, run_underlying ht, MapKept.run_getObj_map hb, K.check w _ hkey, h1, Result.andThen]
      rw [e1] at hlook
      injection hlook with e2
      exact e2.symm
    have hup : ∀ val, (Instr.mapUpdate t (.map (some b)) key val).run P w = .ok () (setBlock w b (.map (es.modify j (fun e' => { e' with key := key, val := val })) clock)) := fun val => by
      simp [Instr.mapUpdate, run_underlying ht, MapKept.run_getObj_map hb, K.check w false hkey, h1, hj, h4, K.stays w hkey, MapKept.run_setObj_map _ hb, Result.andThen, setBlock]
    have hone : es.modify j (fun e' => { e' with key := key, val := e0.val }) = es := by
      apply Array.ext'
      rw [Array.toList_modify, modify_eq_set _ _ _ _ h3]
      have : ({ e0 with key := key, val := e0.val } : MapEntry) = e0 := by rw [← h4]
      rw [this]
      exact set_self _ _ _ h3
    obtain ⟨r1, r2⟩ := fin e0.val _ _ (hup e0.val)
    rw [hone] at r1 r2
    refine ⟨e0.val, e0.born, setBlock w b (.map es clock), ?_, by rw [hv0]; exact r1, r2, fun w2 val hw2 => ?_⟩
    · simp [Instr.mapEntry, run_underlying ht, MapKept.run_getObj_map hb, K.check w false hkey, h1, hj, h4, K.stays w hkey, hsame, MapKept.run_setObj_map _ hb, Result.andThen, setBlock]
    · have hw1 : (setBlock w b (.map es clock)).heap[b]? = some (.map es clock) := heap_setBlock_same hb _
      obtain ⟨r3, r4⟩ := fin2 _ w2 val _ _ _ _ hw1 hw2 (hup val)
      refine ⟨_, ?_, r3, r4⟩
      have hw2' := hw2.trans hw1
      have hidx : es.findIdx? (fun e => ((e.born : Nat) : Int) == ((e0.born : Nat) : Int)) = some j := by
        rw [findIdx_arr]
        exact findIdx_born s2 h3
      have hmod : es.modify j (fun e => { e with val := val }) = es.modify j (fun e' => { e' with key := key, val := val }) := by
        apply Array.ext'
        rw [Array.toList_modify, Array.toList_modify, modify_eq_set _ _ _ _ h3, modify_eq_set _ _ _ _ h3, ← h4]
      simp [Instr.entryStore, MapKept.run_getObj_map hw2', asInt, asIntOf, goInt, hidx, hmod, MapKept.run_setObj_map _ hw2', Result.andThen, setBlock]

/-- A store at the operation: '(at_mapUpdate; refine wpList_up rfl _ _ _ T rfl K E law A.underlyingT B _ _ rfl hIs hn _ _ _ rfl rfl hkey ?_; intro w1 hIs1 hg1)'. -/
theorem wpList_up {ops : Array Oper} {rest : List Oper} {o : Oper} {a : Act} {Q : Exit → Act → World → Prop}
    (hg : o.guard = none) (m x v : Operand) (t : TypeId) (hop : o.op = Op.mapUpdate t m x v)
    (k e : TypeId) (K : Keyed P k) (ht : P.underlying t = some (.map k e)) (b n : Nat) (f : Value → Option Value)
    (hm : a.eval m = .map (some b)) (hIs : Is P k w b n f) (hn : n < maxLen) (key val : Value) (kl : Lit) (hx : a.eval x = key) (hv : a.eval v = val) (hkey : keyOf P k key = some kl)
    (hK : ∀ w', Is P k w' b (n + 1) (up f key val) → w.grownBy w' (some b) → wpList P ops Q rest (a.put o.dst undef) w') :
    wpList P ops Q (o :: rest) a w := by
  refine wpList_plain hg fun K' hK' => ?_
  obtain ⟨w', hrun, r1, r2⟩ := hIs.update K ht hn hkey val
  unfold Oper.wp
  simp [execOp, hop, hm, hx, hv, hrun, Result.andThen]
  exact hK' _ _ (hK w' r1 r2)
end
end Go.Proofs.Ytcmaoldklldfmaa.Mp
