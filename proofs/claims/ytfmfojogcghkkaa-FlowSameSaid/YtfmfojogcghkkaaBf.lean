/- The search for ways in plain terms: what is come to, from where, by which edge; the way back; that its edges are none twice. -/
import Derived.Test.YtfmfojogcghkkaaPx0
import Derived.Test.YtfmfojogcghkkaaFl
namespace Go.Proofs.Ytfmfojogcghkkaa.Bf
open Go.RowKit Go.Proofs.Ytfmfojogcghkkaa.P Go.Proofs.YtfmfojogcghkkaaW.PrintWords Go.Proofs.Ytfmfojogcghkkaa.Fl

/-- A step: from where, by which edge, against it. -/
structure S66 where
  f0 : Int
  f1 : Int
  f2 : Bool

def cand (l : List S41) (F : List Int) (u : Int) (i : Nat) : Option (Int × Bool) :=
  if (rd_T41 l i).f0 = u ∧ rd F i < (rd_T41 l i).f2 then some ((rd_T41 l i).f1, false)
  else if (rd_T41 l i).f1 = u ∧ 0 < rd F i then some ((rd_T41 l i).f0, true) else none
abbrev St := List Int × (Int → Option S66)
/-- v is come to by edge i from u, unless it has been. -/
def visit (u : Int) (i : Nat) (st : St) (v : Int) (b : Bool) : St := if (st.2 v).isSome = true then st else (st.1 ++ [v], fun x => if x = v then some ⟨u, i, b⟩ else st.2 x)
def scan1 (l : List S41) (F : List Int) (u : Int) (st : St) (i : Nat) : St := match cand l F u i with
  | none => st
  | some (v, b) => visit u i st v b
def scanK (l : List S41) (F : List Int) (u : Int) (st : St) : Nat → St
  | 0 => st
  | i + 1 => scan1 l F u (scanK l F u st i) i
def bfsK (l : List S41) (F : List Int) (s : Int) : Nat → St
  | 0 => ([s], fun x => if x = s then some ⟨0, 0, false⟩ else none)
  | k + 1 => if k < (bfsK l F s k).1.length then scanK l F (rd (bfsK l F s k).1 k) (bfsK l F s k) l.length else bfsK l F s k

/-- The edges' ends are vertices. -/
def Ends (l : List S41) (N : Int) : Prop := ∀ i : Nat, i < l.length → (0 ≤ (rd_T41 l i).f0 ∧ (rd_T41 l i).f0 < N) ∧ (0 ≤ (rd_T41 l i).f1 ∧ (rd_T41 l i).f1 < N) ∧ (rd_T41 l i).f0 ≠ (rd_T41 l i).f1

theorem rd_app {q : List Int} {v : Int} (p : Nat) (hp : p < q.length + 1) : rd (q ++ [v]) p = if p < q.length then rd q p else v := by
  unfold rd
  rw [Int.toNat_natCast, List.getD_eq_getElem?_getD, List.getD_eq_getElem?_getD]
  by_cases h : p < q.length
  · rw [if_pos h, List.getElem?_append_left h]
  · rw [if_neg h, List.getElem?_append_right (by omega), show p - q.length = 0 by omega]; rfl

/-- Numbers from 0 on below N, none twice: no more than N. -/
theorem pigeon : ∀ (N : Nat) (f : Nat → Int) (n : Nat), (∀ p, p < n → 0 ≤ f p ∧ f p < N) → (∀ p r, p < n → r < n → f p = f r → p = r) → n ≤ N
  | 0, f, n, h, _ => by
    rcases Nat.eq_zero_or_pos n with h0 | h0
    · omega
    · have := h 0 h0; omega
  | N + 1, f, n, h, hi => by
    by_cases hx : ∃ p, p < n ∧ f p = N
    · obtain ⟨p0, hp0, e0⟩ := hx
      have := pigeon N (fun p => if p = p0 then f (n - 1) else f p) (n - 1) (fun p hp => by
        by_cases c : p = p0
        · simp only [if_pos c]
          have h1 := h (n - 1) (by omega)
          have h2 : f (n - 1) ≠ N := fun e => by have := hi (n - 1) p0 (by omega) hp0 (by rw [e, e0]); omega
          omega
        · simp only [if_neg c]
          have h1 := h p (by omega)
          have h2 : f p ≠ N := fun e => c (hi p p0 (by omega) hp0 (by rw [e, e0]))
          omega) (fun p r hp hr e => by
        by_cases c : p = p0
        · by_cases c2 : r = p0
          · omega
          · simp only [if_pos c, if_neg c2] at e
            have := hi (n - 1) r (by omega) (by omega) e; omega
        · by_cases c2 : r = p0
          · simp only [if_neg c, if_pos c2] at e
            have := hi p (n - 1) (by omega) (by omega) e; omega
          · simp only [if_neg c, if_neg c2] at e
            exact hi p r (by omega) (by omega) e)
      omega
    · have := pigeon N f n (fun p hp => by
        have h1 := h p hp
        have : f p ≠ N := fun e => hx ⟨p, hp, e⟩
        omega) hi
      omega

structure BInv (l : List S41) (F : List Int) (s N : Int) (st : St) : Prop where
  pos : 0 < st.1.length
  head : rd st.1 0 = s
  rng : ∀ p : Nat, p < st.1.length → 0 ≤ rd st.1 p ∧ rd st.1 p < N
  inj : ∀ p r : Nat, p < st.1.length → r < st.1.length → rd st.1 p = rd st.1 r → p = r
  mem : ∀ v, (st.2 v).isSome = true ↔ ∃ p : Nat, p < st.1.length ∧ rd st.1 p = v
  par : ∀ p : Nat, 0 < p → p < st.1.length → ∃ (r i : Nat) (b : Bool), r < p ∧ i < l.length ∧ st.2 (rd st.1 p) = some ⟨rd st.1 r, i, b⟩ ∧ cand l F (rd st.1 r) i = some (rd st.1 p, b)
  root : st.2 s = some ⟨0, 0, false⟩

/-- What comes behind keeps what was. -/
structure Ext (st st' : St) : Prop where
  len : st.1.length ≤ st'.1.length
  q : ∀ p : Nat, p < st.1.length → rd st'.1 p = rd st.1 p
  by_ : ∀ v x, st.2 v = some x → st'.2 v = some x
theorem Ext.refl (st : St) : Ext st st := ⟨Nat.le_refl _, fun _ _ => rfl, fun _ _ h => h⟩
theorem Ext.trans {a b c : St} (h : Ext a b) (k : Ext b c) : Ext a c := ⟨Nat.le_trans h.len k.len, fun p hp => (k.q p (Nat.lt_of_lt_of_le hp h.len)).trans (h.q p hp), fun v x hx => k.by_ v x (h.by_ v x hx)⟩
theorem Ext.some_ {a b : St} (h : Ext a b) {v : Int} (hv : (a.2 v).isSome = true) : (b.2 v).isSome = true := by
  obtain ⟨x, hx⟩ := Option.isSome_iff_exists.1 hv
  rw [h.by_ v x hx]; rfl

theorem visit_ext (u : Int) (i : Nat) (st : St) (v : Int) (b : Bool) : Ext st (visit u i st v b) := by
  unfold visit
  by_cases h : (st.2 v).isSome = true
  · rw [if_pos h]; exact Ext.refl _
  · rw [if_neg h]
    refine ⟨by simp, fun p hp => ?_, fun x y hx => ?_⟩
    · rw [rd_app p (by omega), if_pos hp]
    · show (if x = v then _ else _) = _
      rw [if_neg (fun e => h (by rw [← e, hx]; rfl))]; exact hx
theorem visit_some (u : Int) (i : Nat) (st : St) (v : Int) (b : Bool) : ((visit u i st v b).2 v).isSome = true := by
  unfold visit
  by_cases h : (st.2 v).isSome = true
  · rw [if_pos h]; exact h
  · rw [if_neg h]; simp
theorem visit_inv {l : List S41} {F : List Int} {s N : Int} {st : St} (h : BInv l F s N st) {k i : Nat} {v : Int} {b : Bool} (hk : k < st.1.length) (hi : i < l.length) (hv : 0 ≤ v ∧ v < N) (hc : cand l F (rd st.1 k) i = some (v, b)) : BInv l F s N (visit (rd st.1 k) i st v b) := by
  unfold visit
  by_cases hx : (st.2 v).isSome = true
  · rw [if_pos hx]; exact h
  · rw [if_neg hx]
    have hnew : ∀ p : Nat, p < st.1.length → rd st.1 p ≠ v := fun p hp e => hx ((h.mem v).2 ⟨p, hp, e⟩)
    have hsv : s ≠ v := fun e => hnew 0 h.pos (by rw [← e]; exact h.head)
    have hlen : (st.1 ++ [v]).length = st.1.length + 1 := by simp
    have ha : ∀ p : Nat, p < st.1.length + 1 → rd (st.1 ++ [v]) p = if p < st.1.length then rd st.1 p else v := fun p hp => rd_app p hp
    refine ⟨by simp, ?_, ?_, ?_, ?_, ?_, ?_⟩
    · have h0 := ha 0 (by omega)
      rw [if_pos h.pos] at h0
      exact h0.trans h.head
    · intro p hp
      show 0 ≤ rd (st.1 ++ [v]) p ∧ rd (st.1 ++ [v]) p < N
      rw [ha p (by simpa using hp)]
      split
      · exact h.rng p (by assumption)
      · exact hv
    · intro p r hp hr e
      simp only [hlen] at hp hr
      simp only [ha p hp, ha r hr] at e
      by_cases c1 : p < st.1.length
      · by_cases c2 : r < st.1.length
        · rw [if_pos c1, if_pos c2] at e; exact h.inj p r c1 c2 e
        · rw [if_pos c1, if_neg c2] at e; exact absurd e (hnew p c1)
      · by_cases c2 : r < st.1.length
        · rw [if_neg c1, if_pos c2] at e; exact absurd e.symm (hnew r c2)
        · omega
    · intro x
      show (Option.isSome (if x = v then _ else _)) = true ↔ ∃ p : Nat, p < (st.1 ++ [v]).length ∧ rd (st.1 ++ [v]) p = x
      rw [hlen]
      by_cases c : x = v
      · rw [if_pos c]
        refine ⟨fun _ => ⟨st.1.length, by omega, ?_⟩, fun _ => rfl⟩
        rw [ha _ (by omega), if_neg (by omega), c]
      · rw [if_neg c, h.mem x]
        refine ⟨fun ⟨p, hp, e⟩ => ⟨p, by omega, ?_⟩, fun ⟨p, hp, e⟩ => ?_⟩
        · rw [ha p (by omega), if_pos hp]; exact e
        · rw [ha p hp] at e
          by_cases c1 : p < st.1.length
          · rw [if_pos c1] at e; exact ⟨p, c1, e⟩
          · rw [if_neg c1] at e; exact absurd e.symm c
    · intro p h0 hp
      simp only [hlen] at hp
      show ∃ (r i' : Nat) (b' : Bool), r < p ∧ i' < l.length ∧ (if rd (st.1 ++ [v]) p = v then some (⟨rd st.1 k, i, b⟩ : S66) else st.2 (rd (st.1 ++ [v]) p)) = some ⟨rd (st.1 ++ [v]) r, i', b'⟩ ∧ cand l F (rd (st.1 ++ [v]) r) i' = some (rd (st.1 ++ [v]) p, b')
      by_cases c1 : p < st.1.length
      · obtain ⟨r, i', b', h1, h2, h3, h4⟩ := h.par p h0 c1
        refine ⟨r, i', b', h1, h2, ?_, ?_⟩
        · rw [ha p hp, if_pos c1, if_neg (hnew p c1), ha r (by omega), if_pos (by omega)]; exact h3
        · rw [ha p hp, if_pos c1, ha r (by omega), if_pos (by omega)]; exact h4
      · refine ⟨k, i, b, by omega, hi, ?_, ?_⟩
        · rw [ha p hp, if_neg c1, if_pos rfl, ha k (by omega), if_pos hk]
        · rw [ha p hp, if_neg c1, ha k (by omega), if_pos hk]; exact hc
    · show (if s = v then _ else _) = _
      rw [if_neg hsv]; exact h.root

theorem cand_end {l : List S41} {F : List Int} {N u v : Int} {i : Nat} {b : Bool} (hE : Ends l N) (hi : i < l.length) (hc : cand l F u i = some (v, b)) : 0 ≤ v ∧ v < N := by
  obtain ⟨h0, h1, _⟩ := hE i hi
  unfold cand at hc
  split at hc
  · simp only [Option.some.injEq, Prod.mk.injEq] at hc; rw [← hc.1]; exact h1
  · split at hc
    · simp only [Option.some.injEq, Prod.mk.injEq] at hc; rw [← hc.1]; exact h0
    · cases hc
theorem scan1_ext (l : List S41) (F : List Int) (u : Int) (st : St) (i : Nat) : Ext st (scan1 l F u st i) := by
  unfold scan1
  cases hc : cand l F u i with
  | none => exact Ext.refl _
  | some x => exact visit_ext _ _ _ _ _
theorem scanK_ext (l : List S41) (F : List Int) (u : Int) (st : St) : ∀ i, Ext st (scanK l F u st i)
  | 0 => Ext.refl _
  | i + 1 => (scanK_ext l F u st i).trans (scan1_ext _ _ _ _ _)
theorem scan1_inv {l : List S41} {F : List Int} {s N : Int} {st : St} (hE : Ends l N) (h : BInv l F s N st) {k i : Nat} (hk : k < st.1.length) (hi : i < l.length) : BInv l F s N (scan1 l F (rd st.1 k) st i) := by
  unfold scan1
  cases hc : cand l F (rd st.1 k) i with
  | none => exact h
  | some x => exact visit_inv h hk hi (cand_end hE hi hc) hc
theorem scanK_inv {l : List S41} {F : List Int} {s N : Int} {st : St} (hE : Ends l N) (h : BInv l F s N st) {k : Nat} (hk : k < st.1.length) : ∀ i, i ≤ l.length → BInv l F s N (scanK l F (rd st.1 k) st i)
  | 0, _ => h
  | i + 1, hi => by
    have ih := scanK_inv hE h hk i (by omega)
    have e := scanK_ext l F (rd st.1 k) st i
    have := scan1_inv hE ih (k := k) (i := i) (Nat.lt_of_lt_of_le hk e.len) (by omega)
    rw [e.q k hk] at this
    exact this
theorem scanK_done {l : List S41} {F : List Int} {u : Int} (st : St) : ∀ (i j : Nat), j < i → ∀ v b, cand l F u j = some (v, b) → ((scanK l F u st i).2 v).isSome = true
  | i + 1, j, hj, v, b, hc => by
    by_cases c : j = i
    · subst c
      show ((scan1 l F u (scanK l F u st j) j).2 v).isSome = true
      unfold scan1
      rw [hc]
      exact visit_some _ _ _ _ _
    · exact (scan1_ext l F u _ i).some_ (scanK_done st i j (by omega) v b hc)

theorem bfsK_next {l : List S41} {F : List Int} {s : Int} {k : Nat} (h : k < (bfsK l F s k).1.length) : bfsK l F s (k + 1) = scanK l F (rd (bfsK l F s k).1 k) (bfsK l F s k) l.length := by simp only [bfsK]; rw [if_pos h]
theorem bfsK_stop {l : List S41} {F : List Int} {s : Int} {k : Nat} (h : ¬ k < (bfsK l F s k).1.length) : ∀ m, k ≤ m → bfsK l F s m = bfsK l F s k
  | 0, hm => by obtain rfl : k = 0 := by omega
                rfl
  | m + 1, hm => by
    by_cases c : k = m + 1
    · rw [c]
    · have ih := bfsK_stop h m (by omega)
      simp only [bfsK]
      rw [ih, if_neg (by omega)]
theorem bfsK_ext (l : List S41) (F : List Int) (s : Int) (k : Nat) : Ext (bfsK l F s k) (bfsK l F s (k + 1)) := by
  by_cases h : k < (bfsK l F s k).1.length
  · rw [bfsK_next h]; exact scanK_ext _ _ _ _ _
  · rw [bfsK_stop h (k + 1) (by omega)]; exact Ext.refl _
theorem bfsK_inv {l : List S41} {F : List Int} {s N : Int} (hE : Ends l N) (hs : 0 ≤ s ∧ s < N) : ∀ k, BInv l F s N (bfsK l F s k)
  | 0 => by
    have h0 : ∀ p : Nat, p < [s].length → p = 0 := fun p hp => by simpa using hp
    refine ⟨by simp [bfsK], rfl, fun p hp => ?_, fun p r hp hr _ => ?_, fun v => ?_, fun p h1 hp => ?_, by simp [bfsK]⟩
    · rw [h0 p hp]; exact hs
    · rw [h0 p hp, h0 r hr]
    · show (Option.isSome (if v = s then _ else _)) = true ↔ _
      by_cases c : v = s
      · rw [if_pos c]; exact ⟨fun _ => ⟨0, by simp [bfsK], c.symm⟩, fun _ => rfl⟩
      · rw [if_neg c]
        refine ⟨fun h => by simp at h, fun ⟨p, hp, e⟩ => ?_⟩
        rw [h0 p hp] at e; exact absurd e.symm c
    · have := h0 p hp; omega
  | k + 1 => by
    have ih := bfsK_inv (F := F) hE hs k
    by_cases h : k < (bfsK l F s k).1.length
    · rw [bfsK_next h]; exact scanK_inv hE ih h _ (Nat.le_refl _)
    · rw [bfsK_stop h (k + 1) (by omega)]; exact ih
theorem BInv.le {l : List S41} {F : List Int} {s N : Int} {st : St} (h : BInv l F s N st) : (st.1.length : Int) ≤ N := by
  have h0 := h.rng 0 h.pos
  have := pigeon N.toNat (fun p => rd st.1 p) st.1.length (fun p hp => by have := h.rng p hp; exact ⟨this.1, by omega⟩) h.inj
  omega
theorem bfsK_done {l : List S41} {F : List Int} {s : Int} : ∀ (k j : Nat), j < k → j < (bfsK l F s k).1.length → ∀ i, i < l.length → ∀ v b, cand l F (rd (bfsK l F s k).1 j) i = some (v, b) → ((bfsK l F s k).2 v).isSome = true
  | k + 1, j, hj, hjl, i, hi, v, b, hc => by
    have e := bfsK_ext l F s k
    by_cases c : j = k
    · subst c
      by_cases h : j < (bfsK l F s j).1.length
      · rw [e.q j h] at hc
        rw [bfsK_next h]
        exact scanK_done _ _ i hi v b hc
      · rw [bfsK_stop h (j + 1) (by omega)] at hjl; exact absurd hjl h
    · by_cases h : j < (bfsK l F s k).1.length
      · rw [e.q j h] at hc
        exact e.some_ (bfsK_done k j (by omega) h i hi v b hc)
      · exfalso
        have h2 : ¬ k < (bfsK l F s k).1.length := by omega
        rw [bfsK_stop h2 (k + 1) (by omega)] at hjl; exact h hjl

/-- The search's end. -/
def bfs (l : List S41) (F : List Int) (s N : Int) : St := bfsK l F s N.toNat
theorem bfs_inv {l : List S41} {F : List Int} {s N : Int} (hE : Ends l N) (hs : 0 ≤ s ∧ s < N) : BInv l F s N (bfs l F s N) := bfsK_inv hE hs _
theorem bfs_at {l : List S41} {F : List Int} {s N : Int} (hE : Ends l N) (hs : 0 ≤ s ∧ s < N) {k : Nat} (h : k = (bfsK l F s k).1.length) : bfsK l F s k = bfs l F s N := by
  have := (bfsK_inv (F := F) hE hs k).le
  exact (bfsK_stop (by omega) N.toNat (by omega)).symm
theorem bfs_closed {l : List S41} {F : List Int} {s N : Int} (hE : Ends l N) (hs : 0 ≤ s ∧ s < N) {u : Int} (hu : ((bfs l F s N).2 u).isSome = true) {i : Nat} (hi : i < l.length) {v : Int} {b : Bool} (hc : cand l F u i = some (v, b)) : ((bfs l F s N).2 v).isSome = true := by
  obtain ⟨p, hp, rfl⟩ := ((bfs_inv hE hs).mem u).1 hu
  have := (bfs_inv (F := F) hE hs).le
  exact bfsK_done N.toNat p (by omega) hp i hi v b hc

/-! ### Networks and flows of lists -/
def nw (N : Int) (l : List S41) : Nw := ⟨N.toNat, l.length, fun i => (rd_T41 l i).f0.toNat, fun i => (rd_T41 l i).f1.toNat, fun i => (rd_T41 l i).f2⟩
def fl (F : List Int) : Nat → Int := fun i => rd F i

theorem cand_res {l : List S41} {F : List Int} {N u v : Int} {i : Nat} {b : Bool} (hi : i < l.length) (hc : cand l F u i = some (v, b)) : Res (nw N l) (fl F) u.toNat v.toNat i := by
  refine ⟨hi, ?_⟩
  unfold cand at hc
  split at hc
  · rename_i h
    simp only [Option.some.injEq, Prod.mk.injEq] at hc
    exact .inl ⟨by show (rd_T41 l i).f0.toNat = _; rw [h.1], by show (rd_T41 l i).f1.toNat = _; rw [hc.1], h.2⟩
  · split at hc
    · rename_i h
      simp only [Option.some.injEq, Prod.mk.injEq] at hc
      exact .inr ⟨by show (rd_T41 l i).f1.toNat = _; rw [h.1], by show (rd_T41 l i).f0.toNat = _; rw [hc.1], h.2⟩
    · cases hc
theorem res_cand {l : List S41} {F : List Int} {N : Int} (hE : Ends l N) {u v i : Nat} (h : Res (nw N l) (fl F) u v i) : ∃ b, cand l F u i = some ((v : Int), b) := by
  obtain ⟨hi, h⟩ := h
  obtain ⟨h0, h1, h2⟩ := hE i hi
  rcases h with ⟨a1, a2, a3⟩ | ⟨a1, a2, a3⟩
  · have a1 : (rd_T41 l i).f0.toNat = u := a1
    have a2 : (rd_T41 l i).f1.toNat = v := a2
    refine ⟨false, ?_⟩
    unfold cand
    rw [if_pos ⟨by omega, a3⟩]
    congr 2; omega
  · have a1 : (rd_T41 l i).f1.toNat = u := a1
    have a2 : (rd_T41 l i).f0.toNat = v := a2
    refine ⟨true, ?_⟩
    unfold cand
    rw [if_neg (by omega), if_pos ⟨by omega, a3⟩]
    congr 2; omega
theorem bfs_reach {l : List S41} {F : List Int} {s N : Int} (hE : Ends l N) (hs : 0 ≤ s ∧ s < N) (v : Nat) : ((bfs l F s N).2 v).isSome = true ↔ Rch (nw N l) (fl F) s.toNat v := by
  have hI := bfs_inv (F := F) hE hs
  constructor
  · intro h
    obtain ⟨p, hp, e⟩ := (hI.mem v).1 h
    have key : ∀ n p : Nat, p ≤ n → p < (bfs l F s N).1.length → Rch (nw N l) (fl F) s.toNat (rd (bfs l F s N).1 p).toNat := by
      intro n
      induction n with
      | zero =>
        intro p h0 hp
        obtain rfl : p = 0 := by omega
        have hh : rd (bfs l F s N).1 ((0 : Nat) : Int) = s := hI.head
        rw [hh]; exact .base
      | succ n ih =>
        intro p hn hp
        by_cases c : p = 0
        · subst c
          have hh : rd (bfs l F s N).1 ((0 : Nat) : Int) = s := hI.head
          rw [hh]; exact .base
        · obtain ⟨r, i, b, h1, h2, _, h4⟩ := hI.par p (by omega) hp
          exact .step (ih r (by omega) (by omega)) (cand_res h2 h4)
    have := key p p (Nat.le_refl _) hp
    rw [e] at this
    simpa using this
  · intro h
    refine Rch.sub (S := fun v : Nat => ((bfs l F s N).2 (v : Int)).isSome) ?_ ?_ h
    · show ((bfs l F s N).2 ((s.toNat : Nat) : Int)).isSome = true
      rw [show ((s.toNat : Nat) : Int) = s by omega, hI.root]; rfl
    · intro u v i hu hr
      obtain ⟨b, hc⟩ := res_cand hE hr
      exact bfs_closed hE hs hu hr.1 hc

/-! ### The way back -/
def wayL (by_ : Int → Option S66) (s : Int) : Nat → Int → List S66
  | 0, _ => []
  | n + 1, v => if v = s then [] else match by_ v with
    | some x => x :: wayL by_ s n x.f0
    | none => []
def stp (x : S66) : Nat × Bool := (x.f1.toNat, x.f2)
/-- A step of a way that the search has found: where it comes to stands at p. -/
def StepAt (l : List S41) (F : List Int) (st : St) (p : Nat) (x : S66) : Prop :=
  0 < p ∧ p < st.1.length ∧ ∃ (r i : Nat), r < p ∧ i < l.length ∧ x.f0 = rd st.1 r ∧ x.f1 = i ∧ st.2 (rd st.1 p) = some x ∧ cand l F (rd st.1 r) i = some (rd st.1 p, x.f2)

theorem cand_ends {l : List S41} {F : List Int} {u v : Int} {i : Nat} {b : Bool} (hc : cand l F u i = some (v, b)) : if b then (rd_T41 l i).f1 = u ∧ (rd_T41 l i).f0 = v ∧ 0 < rd F i else (rd_T41 l i).f0 = u ∧ (rd_T41 l i).f1 = v ∧ rd F i < (rd_T41 l i).f2 := by
  unfold cand at hc
  split at hc
  · rename_i h
    simp only [Option.some.injEq, Prod.mk.injEq] at hc
    rw [← hc.2]; exact ⟨h.1, hc.1, h.2⟩
  · split at hc
    · rename_i h
      simp only [Option.some.injEq, Prod.mk.injEq] at hc
      rw [← hc.2]; exact ⟨h.1, hc.1, h.2⟩
    · cases hc

theorem wayL_ok {l : List S41} {F : List Int} {s N : Int} {st : St} (hI : BInv l F s N st) : ∀ (n p : Nat), p ≤ n → p < st.1.length →
    Fl.Way (nw N l) (fl F) s.toNat (rd st.1 p).toNat ((wayL st.2 s n (rd st.1 p)).map stp) ∧ (∀ x ∈ wayL st.2 s n (rd st.1 p), ∃ r, r ≤ p ∧ StepAt l F st r x) ∧
      ((wayL st.2 s n (rd st.1 p)).map fun x => (stp x).1).Nodup ∧ (wayL st.2 s n (rd st.1 p)).length ≤ p ∧ (0 < p → wayL st.2 s n (rd st.1 p) ≠ []) ∧ ∀ m, n ≤ m → wayL st.2 s m (rd st.1 p) = wayL st.2 s n (rd st.1 p)
  | n, 0, _, hp => by
    have hh : rd st.1 ((0 : Nat) : Int) = s := hI.head
    have e : ∀ m, wayL st.2 s m (rd st.1 ((0 : Nat) : Int)) = [] := fun m => by
      cases m with
      | zero => rfl
      | succ m => simp only [wayL]; rw [if_pos hh]
    refine ⟨by rw [e n, hh]; exact .nil, ?_, by rw [e n]; simp, by rw [e n]; simp, fun h => absurd h (Nat.lt_irrefl _), fun m _ => by rw [e, e]⟩
    intro x hx
    rw [e n] at hx
    cases hx
  | 0, p + 1, h, _ => by omega
  | n + 1, p + 1, hn, hp => by
    obtain ⟨r, i, b, h1, h2, h3, h4⟩ := hI.par (p + 1) (by omega) hp
    have hne : rd st.1 ((p + 1 : Nat) : Int) ≠ s := fun e => by
      have := hI.inj (p + 1) 0 hp hI.pos (e.trans hI.head.symm); omega
    obtain ⟨w1, w2, w3, w4, w5, w6⟩ := wayL_ok hI n r (by omega) (by omega)
    have e : ∀ m, wayL st.2 s (m + 1) (rd st.1 ((p + 1 : Nat) : Int)) = ⟨rd st.1 r, i, b⟩ :: wayL st.2 s m (rd st.1 r) := fun m => by
      simp only [wayL]; rw [if_neg hne, h3]
    have hends := cand_ends h4
    have hstep : StepAt l F st (p + 1) ⟨rd st.1 r, i, b⟩ := ⟨by omega, hp, r, i, h1, h2, rfl, rfl, h3, h4⟩
    refine ⟨?_, ?_, ?_, ?_, fun _ => by rw [e]; simp, fun m hm => ?_⟩
    · rw [e]
      refine Fl.Way.cons w1 (show ((i : Int)).toNat < l.length by omega) ?_
      show if b = true then (rd_T41 l ((((i : Int)).toNat : Nat) : Int)).f1.toNat = _ ∧ (rd_T41 l ((((i : Int)).toNat : Nat) : Int)).f0.toNat = _ else (rd_T41 l ((((i : Int)).toNat : Nat) : Int)).f0.toNat = _ ∧ (rd_T41 l ((((i : Int)).toNat : Nat) : Int)).f1.toNat = _
      rw [Int.toNat_natCast]
      cases b
      · simp only [Bool.false_eq_true, if_false] at hends ⊢; rw [hends.1, hends.2.1]; exact ⟨rfl, rfl⟩
      · simp only [if_true] at hends ⊢; rw [hends.1, hends.2.1]; exact ⟨rfl, rfl⟩
    · intro x hx
      rw [e] at hx
      rcases List.mem_cons.1 hx with rfl | hx
      · exact ⟨p + 1, Nat.le_refl _, hstep⟩
      · obtain ⟨r', hr, hs⟩ := w2 x hx
        exact ⟨r', by omega, hs⟩
    · rw [e, List.map_cons, List.nodup_cons]
      refine ⟨fun hm => ?_, w3⟩
      obtain ⟨x, hx, hxe⟩ := List.mem_map.1 hm
      obtain ⟨r', hr, _, hr2, r'', i', g1, g2, g3, g4, g5, g6⟩ := w2 x hx
      have hxe : x.f1.toNat = ((i : Int)).toNat := hxe
      rw [g4] at hxe
      obtain rfl : i' = i := by omega
      have q1 := cand_ends g6
      have nr : rd st.1 r' ≠ rd st.1 ((p + 1 : Nat) : Int) := fun e => by have := hI.inj r' (p + 1) hr2 hp e; omega
      have key : rd st.1 ((p + 1 : Nat) : Int) = rd st.1 r'' := by
        revert hends q1 nr
        generalize rd st.1 ((p + 1 : Nat) : Int) = vp
        generalize rd st.1 (r' : Int) = v1
        generalize rd st.1 (r'' : Int) = v2
        intro hends q1 nr
        cases b <;> cases hb : x.f2 <;> simp only [hb, Bool.false_eq_true, if_false, if_true] at hends q1
        · exact absurd (q1.2.1.symm.trans hends.2.1) nr
        · rw [← hends.2.1, ← q1.1]
        · rw [← hends.2.1, ← q1.1]
        · exact absurd (q1.2.1.symm.trans hends.2.1) nr
      have := hI.inj (p + 1) r'' hp (by omega) key
      omega
    · rw [e, List.length_cons]; omega
    · obtain ⟨m, rfl⟩ : ∃ m', m = m' + 1 := ⟨m - 1, by omega⟩
      rw [e, e, w6 m (by omega)]
end Go.Proofs.Ytfmfojogcghkkaa.Bf
