/- graph.Right, fits, balance, Good, Value: what they answer, in plain terms. -/
import Derived.Test.YtfmfojogcghkkaaSn
import Derived.Test.YtfmfojogcghkkaaPx10
namespace Go.Proofs.Ytfmfojogcghkkaa.Gp
open Go.RowKit Go.Proofs.Ytfmfojogcghkkaa.P Go.Proofs.YtfmfojogcghkkaaW.PrintWords Go.Proofs.YtfmfojogcghkkaaW.PrintLast
open Go.Proofs.Ytfmfojogcghkkaa.Fl Go.Proofs.Ytfmfojogcghkkaa.Bf Go.Proofs.Ytfmfojogcghkkaa.Pp

theorem badE_ok {N : Int} {x : S41} (h0 : 0 ≤ x.f0 ∧ x.f0 < N) (h1 : 0 ≤ x.f1 ∧ x.f1 < N) (hne : x.f0 ≠ x.f1) (h2 : 0 ≤ x.f2 ∧ x.f2 ≤ 1000) : badE N x = false := by
  have a := (wth_iff x.f0 0 (N - 1)).2 (by omega)
  have b := (wth_iff x.f1 0 (N - 1)).2 (by omega)
  have c := (wth_iff x.f2 0 1000).2 (by omega)
  unfold badE
  rw [a, b, c, if_neg (by simp), if_neg (by simp), if_neg hne]; rfl
theorem right_iff (N : Int) (l : List S41) : rightB N l = true ↔ NetOk N l := by
  constructor
  · intro h
    obtain ⟨a, b, c, d, e⟩ := right_ends h
    exact ⟨a, b, c, d, e⟩
  · intro h
    have a := (wth_iff N 2 64).2 ⟨h.n0, h.n1⟩
    unfold rightB
    rw [a, if_neg (by simp), if_pos (by have := h.len; omega)]
    have : l.any (badE N) = false := by
      rw [List.any_eq_false]
      intro x hx
      obtain ⟨i, hi, rfl⟩ := List.getElem_of_mem hx
      rw [← rdE hi]
      have := h.ends i hi
      rw [badE_ok this.1 this.2.1 this.2.2 (h.cap i hi)]
      simp
    rw [this]; rfl

/-- A flow that fits. -/
structure FitsP (N : Int) (l : List S41) (F : List Int) : Prop where
  net : NetOk N l
  len : F.length = l.length
  fits : Fits (nw N l) (fl F)
structure GoodP (N : Int) (l : List S41) (F : List Int) (s t : Int) : Prop where
  net : NetOk N l
  len : F.length = l.length
  sb : 0 ≤ s ∧ s < N
  tb : 0 ≤ t ∧ t < N
  good : Fl.Good (nw N l) (fl F) s.toNat t.toNat

theorem fits_loop (l : List S41) (F : List Int) (hlen : l.length ≤ 256) (hl : F.length = l.length) (d : Nat) : ∀ i : Nat, i ≤ l.length → l.length - i = d →
    ∃ r, Ev (fun k => graph_fits.l0 k F l (l.length : Int) (i : Int)) r ∧ (r = true ↔ ∀ j : Nat, i ≤ j → j < l.length → 0 ≤ rd F j ∧ rd F j ≤ (rd_T41 l j).f2) := by
  induction d with
  | zero =>
    intro i hi hd
    refine ⟨true, Ev.step (f := fun _ => some true) (fun k => ?_) (Ev.now _), by simp; omega⟩
    simp only [graph_fits.l0]; rw [if_neg (by omega)]
  | succ d ih =>
    intro i hi hd
    have ew : wrap64 ((i : Int) + 1) = ((i + 1 : Nat) : Int) := by rw [w64 (by omega) (by omega)]; omega
    by_cases c : 0 ≤ rd F i ∧ rd F i ≤ (rd_T41 l i).f2
    · obtain ⟨r, h1, h2⟩ := ih (i + 1) (by omega) (by omega)
      refine ⟨r, Ev.step (fun k => ?_) h1, h2.trans ⟨fun h j hj hjl => ?_, fun h j hj hjl => h j (by omega) hjl⟩⟩
      · simp only [graph_fits.l0, graph_within.f]
        rw [if_pos (by omega), if_pos (by omega), if_pos (by omega), if_pos (by omega), if_pos c.1, Option.bind_some, if_pos (by simpa using c.2), ew]
      · by_cases e : j = i
        · subst e; exact c
        · exact h j (by omega) hjl
    · refine ⟨false, Ev.step (f := fun _ => some false) (fun k => ?_) (Ev.now _), by simp only [Bool.false_eq_true, false_iff]; exact fun h => c (h i (Nat.le_refl _) (by omega))⟩
      simp only [graph_fits.l0, graph_within.f]
      rw [if_pos (by omega), if_pos (by omega), if_pos (by omega), if_pos (by omega)]
      by_cases c1 : rd F i ≥ 0
      · rw [if_pos c1, Option.bind_some, if_neg (by simp; omega)]
      · rw [if_neg c1, Option.bind_some, if_neg (by simp)]
theorem fits_ev (N : Int) (l : List S41) (F : List Int) : ∃ r, Ev (fun k => graph_fits.f k N l F) r ∧ (r = true ↔ FitsP N l F) := by
  cases hr : rightB N l with
  | false =>
    refine ⟨false, Ev.congr (f := fun k => graph_fits.j0 k F true N l) (fun k => ?_) (Ev.step (f := fun _ => some false) (fun k => ?_) (Ev.now _)), ?_⟩
    · simp only [graph_fits.f, graph_Right.f]; rw [hr]; rfl
    · simp only [graph_fits.j0]; rfl
    · simp only [Bool.false_eq_true, false_iff]
      intro h
      rw [(right_iff N l).2 h.net] at hr; cases hr
  | true =>
    have hN := (right_iff N l).1 hr
    have e0 : ∀ k, graph_fits.f k N l F = graph_fits.j0 k F ((F.length : Int) != (l.length : Int)) N l := fun k => by
      simp only [graph_fits.f, graph_Right.f]; rw [hr]; rfl
    by_cases hl : F.length = l.length
    · have e1 : ((F.length : Int) != (l.length : Int)) = false := by simp; omega
      obtain ⟨r, h1, h2⟩ := fits_loop l F hN.len hl l.length 0 (by omega) (by omega)
      refine ⟨r, Ev.congr e0 (Ev.step (fun k => ?_) h1), h2.trans ⟨fun h => ⟨hN, hl, fun i hi => h i (by omega) hi⟩, fun h j _ hj => h.fits j hj⟩⟩
      simp only [graph_fits.j0]; rw [e1, if_neg (by simp)]; rfl
    · have e1 : ((F.length : Int) != (l.length : Int)) = true := by simp; omega
      refine ⟨false, Ev.congr e0 (Ev.step (f := fun _ => some false) (fun k => ?_) (Ev.now _)), ?_⟩
      · simp only [graph_fits.j0]; rw [e1]; rfl
      · simp only [Bool.false_eq_true, false_iff]; exact fun h => hl h.len

theorem Ev.uniq {α : Type} {g : Nat → Option α} {a b : α} (h : Ev g a) (k : Ev g b) : a = b := by
  obtain ⟨x, hx⟩ := h
  obtain ⟨y, hy⟩ := k
  have h1 := hx (max x y) (by omega)
  have h2 := hy (max x y) (by omega)
  rw [h1] at h2
  exact Option.some.inj h2
theorem fits_true {N : Int} {l : List S41} {F : List Int} (h : FitsP N l F) : Ev (fun k => graph_fits.f k N l F) true := by
  obtain ⟨r, h1, h2⟩ := fits_ev N l F
  rw [h2.2 h] at h1; exact h1
theorem fits_false {N : Int} {l : List S41} {F : List Int} (h : ¬ FitsP N l F) : Ev (fun k => graph_fits.f k N l F) false := by
  obtain ⟨r, h1, h2⟩ := fits_ev N l F
  cases r
  · exact h1
  · exact absurd (h2.1 rfl) h

/-! ### balance -/
def trm (N : Int) (l : List S41) (F : List Int) (v : Nat) (i : Nat) : Int := (if (nw N l).src i = v then fl F i else 0) - (if (nw N l).dst i = v then fl F i else 0)
def balK (N : Int) (l : List S41) (F : List Int) (i : Nat) : List Int := (List.range N.toNat).map fun v => sm (trm N l F v) i
theorem balK_len (N : Int) (l : List S41) (F : List Int) (i : Nat) : (balK N l F i).length = N.toNat := by simp [balK]
theorem balK_rd {N : Int} {l : List S41} {F : List Int} {i : Nat} {v : Int} (h0 : 0 ≤ v) (h1 : v < N) : rd (balK N l F i) v = sm (trm N l F v.toNat) i := by
  unfold rd
  rw [List.getD_eq_getElem?_getD, List.getElem?_eq_getElem (by rw [balK_len]; omega)]
  simp [balK]
theorem balK_all (N : Int) (l : List S41) (F : List Int) : balK N l F l.length = (List.range N.toNat).map fun v => bal (nw N l) (fl F) v := rfl
theorem trm_bd {N : Int} {l : List S41} {F : List Int} (h : FitsP N l F) (v i : Nat) (hi : i < l.length) : -1000 ≤ trm N l F v i ∧ trm N l F v i ≤ 1000 := by
  have := good_bd h.net h.fits i hi
  have e : fl F i = rd F i := rfl
  unfold trm
  rw [e]
  split <;> split <;> omega
theorem smtrm_bd {N : Int} {l : List S41} {F : List Int} (h : FitsP N l F) (v : Nat) : ∀ i : Nat, i ≤ l.length → -(1000 * (i : Int)) ≤ sm (trm N l F v) i ∧ sm (trm N l F v) i ≤ 1000 * (i : Int)
  | 0, _ => by simp [sm]
  | i + 1, hi => by
    have a := smtrm_bd h v i (by omega)
    have b := trm_bd h v i (by omega)
    simp only [sm]
    omega
theorem balK_next {N : Int} {l : List S41} {F : List Int} (h : FitsP N l F) {i : Nat} (hi : i < l.length) :
    ((balK N l F i).set (rd_T41 l i).f0.toNat (wrap64 (rd (balK N l F i) (rd_T41 l i).f0 + rd F i))).set (rd_T41 l i).f1.toNat
      (wrap64 (rd ((balK N l F i).set (rd_T41 l i).f0.toNat (wrap64 (rd (balK N l F i) (rd_T41 l i).f0 + rd F i))) (rd_T41 l i).f1 - rd F i)) = balK N l F (i + 1) := by
  obtain ⟨a, b, c⟩ := h.net.ends i hi
  have hlen := h.net.len
  have hF := good_bd h.net h.fits i hi
  have e1 : wrap64 (rd (balK N l F i) (rd_T41 l i).f0 + rd F i) = sm (trm N l F (rd_T41 l i).f0.toNat) i + rd F i := by
    have := smtrm_bd h (rd_T41 l i).f0.toNat i (by omega)
    rw [balK_rd a.1 a.2, w64 (by omega) (by omega)]
  have e2 : rd ((balK N l F i).set (rd_T41 l i).f0.toNat (wrap64 (rd (balK N l F i) (rd_T41 l i).f0 + rd F i))) (rd_T41 l i).f1 = sm (trm N l F (rd_T41 l i).f1.toNat) i := by
    rw [← balK_rd b.1 b.2]
    unfold rd
    rw [List.getD_eq_getElem?_getD, List.getElem?_set_ne (by omega), ← List.getD_eq_getElem?_getD]
  rw [e2, e1]
  have e3 : wrap64 (sm (trm N l F (rd_T41 l i).f1.toNat) i - rd F i) = sm (trm N l F (rd_T41 l i).f1.toNat) i - rd F i := by
    have := smtrm_bd h (rd_T41 l i).f1.toNat i (by omega)
    rw [w64 (by omega) (by omega)]
  rw [e3]
  refine List.ext_getElem (by simp [balK]) fun v h1 h2 => ?_
  rw [balK_len] at h2
  rw [List.getElem_set, List.getElem_set]
  simp only [balK, List.getElem_map, List.getElem_range, sm]
  show _ = _ + ((if (rd_T41 l i).f0.toNat = v then rd F i else 0) - (if (rd_T41 l i).f1.toNat = v then rd F i else 0))
  by_cases c1 : (rd_T41 l i).f1.toNat = v
  · rw [if_pos c1, if_pos c1, if_neg (by omega), c1]; omega
  · rw [if_neg c1, if_neg c1]
    by_cases c2 : (rd_T41 l i).f0.toNat = v
    · rw [if_pos c2, if_pos c2, c2]; omega
    · rw [if_neg c2, if_neg c2]; omega
theorem balance_loop {N : Int} {l : List S41} {F : List Int} (h : FitsP N l F) (d : Nat) : ∀ i : Nat, i ≤ l.length → l.length - i = d →
    Ev (fun k => graph_balance.l0 k F (balK N l F i) l (l.length : Int) (i : Int)) (balK N l F l.length) := by
  have hlen := h.net.len
  have hl := h.len
  induction d with
  | zero =>
    intro i hi hd
    obtain rfl : i = l.length := by omega
    refine Ev.step (f := fun _ => some (balK N l F l.length)) (fun k => ?_) (Ev.now _)
    simp only [graph_balance.l0]; rw [if_neg (by omega)]
  | succ d ih =>
    intro i hi hd
    have ew : wrap64 ((i : Int) + 1) = ((i + 1 : Nat) : Int) := by rw [w64 (by omega) (by omega)]; omega
    obtain ⟨a, b, c⟩ := h.net.ends i (by omega)
    have hn := balK_len N l F i
    refine Ev.step (fun k => ?_) (ih (i + 1) (by omega) (by omega))
    simp only [graph_balance.l0]
    rw [if_pos (by omega), if_pos (by omega), if_pos (by omega), if_pos a.1, if_pos (by omega), if_pos (by omega), Option.bind_some, if_pos b.1, if_pos (by (try rw [List.length_set]); omega), ew, balK_next h (by omega)]
theorem balance_ev {N : Int} {l : List S41} {F : List Int} (h : FitsP N l F) : Ev (fun k => graph_balance.f k N l F) ((List.range N.toNat).map fun v => bal (nw N l) (fl F) v) := by
  have h0 := h.net.n0
  have h1 := h.net.n1
  refine Ev.congr (fun k => ?_) (balance_loop h l.length 0 (by omega) (by omega))
  simp only [graph_balance.f]
  rw [if_pos (by omega), if_pos (by omega)]
  have : List.replicate N.toNat (0 : Int) = balK N l F 0 := by
    refine List.ext_getElem (by simp [balK]) fun v h1 h2 => ?_
    simp [balK, sm]
  rw [this]; rfl

/-! ### Value -/
theorem within_ev (a b c : Int) : graph_within.f a b c = some (decide (b ≤ a ∧ a ≤ c)) := by
  unfold graph_within.f
  by_cases h : a ≥ b
  · rw [if_pos h]; congr 1; simp; omega
  · rw [if_neg h]; congr 1; simp; omega
noncomputable def valP (N : Int) (l : List S41) (F : List Int) (s : Int) : Int := by
  classical exact if FitsP N l F ∧ 0 ≤ s ∧ s < N then bal (nw N l) (fl F) s.toNat else 0
theorem value_ev (N : Int) (l : List S41) (F : List Int) (s : Int) : Ev (fun k => graph_Value.f k N l F s) (valP N l F s) := by
  unfold valP
  by_cases h : FitsP N l F
  · have ew : wrap64 (N - 1) = N - 1 := w64 (by have := h.net.n0; omega) (by have := h.net.n1; omega)
    refine Ev.bind (fits_true h) ?_
    by_cases c : 0 ≤ s ∧ s < N
    · rw [if_pos ⟨h, c⟩]
      refine Ev.congr (f := fun k => (graph_balance.f k N l F).bind fun t163 => (if 0 ≤ s then (if s < (t163.length : Int) then (some (rd t163 s)) else (none)) else (none))) (fun k => ?_) (Ev.bind (balance_ev h) (Ev.congr (fun k => ?_) (Ev.now _)))
      · rw [if_pos rfl, within_ev, ew, Option.bind_some, if_pos (by simp; omega)]
      · rw [if_pos c.1, if_pos (by simp; omega)]
        congr 1
        exact balK_rd (F := F) (i := l.length) c.1 c.2
    · rw [if_neg (fun h => c h.2)]
      refine Ev.congr (fun k => ?_) (Ev.now _)
      rw [if_pos rfl, within_ev, ew, Option.bind_some, if_neg (by simp; omega)]
  · rw [if_neg (fun k => h k.1)]
    refine Ev.bind (fits_false h) (Ev.congr (fun k => ?_) (Ev.now _))
    rw [if_neg (by simp)]

/-! ### Good -/
theorem any_set2 (L : List Int) (s t : Nat) : ((L.set s 0).set t 0).any (· != 0) = false ↔ ∀ v (h : v < L.length), v ≠ s → v ≠ t → L[v] = 0 := by
  rw [List.any_eq_false]
  constructor
  · intro h v hv h1 h2
    have := h (((L.set s 0).set t 0)[v]'(by simpa using hv)) (List.getElem_mem _)
    rw [List.getElem_set_ne (by omega), List.getElem_set_ne (by omega)] at this
    simpa using this
  · intro h x hx
    obtain ⟨v, hv, rfl⟩ := List.getElem_of_mem hx
    have hv' : v < L.length := by simpa using hv
    rw [List.getElem_set, List.getElem_set]
    by_cases c1 : t = v
    · rw [if_pos c1]; simp
    · rw [if_neg c1]
      by_cases c2 : s = v
      · rw [if_pos c2]; simp
      · rw [if_neg c2, h v hv' (by omega) (by omega)]; simp
theorem good_ev (N : Int) (l : List S41) (F : List Int) (s t : Int) : ∃ r, Ev (fun k => graph_Good.f k N l F s t) r ∧ (r = true ↔ GoodP N l F s t) := by
  have hno : ∀ h : ¬ GoodP N l F s t, (false = true ↔ GoodP N l F s t) := fun h => by simpa using h
  have jno : Ev (fun k => graph_Good.j0 k F s t true N l) false := Ev.step (f := fun _ => some false) (fun k => by simp only [graph_Good.j0]; rfl) (Ev.now _)
  by_cases h : FitsP N l F
  · have ew : wrap64 (N - 1) = N - 1 := w64 (by have := h.net.n0; omega) (by have := h.net.n1; omega)
    by_cases c1 : 0 ≤ s ∧ s < N
    · by_cases c2 : 0 ≤ t ∧ t < N
      · by_cases c3 : s = t
        · refine ⟨false, Ev.bind (fits_true h) (Ev.congr (fun k => ?_) jno), hno fun g => g.good.ne (by rw [c3])⟩
          rw [if_pos rfl, within_ev, within_ev, ew, Option.bind_some, if_pos (by simp; omega), Option.bind_some, if_pos (by simp; omega)]
          congr 1; simpa using c3
        · have hne : (s == t) = false := by simpa using c3
          have hb := balance_ev h
          have hL : ((List.range N.toNat).map fun v => bal (nw N l) (fl F) v).length = N.toNat := by simp
          have hLv : ∀ v (h : v < ((List.range N.toNat).map fun v => bal (nw N l) (fl F) v).length), ((List.range N.toNat).map fun v => bal (nw N l) (fl F) v)[v] = bal (nw N l) (fl F) v := fun v h => by simp
          generalize ((List.range N.toNat).map fun v => bal (nw N l) (fl F) v) = L at hb hL hLv
          refine ⟨!((L.set s.toNat 0).set t.toNat 0).any (· != 0), Ev.bind (fits_true h) (Ev.congr (f := fun k => graph_Good.j0 k F s t false N l) (fun k => ?_) (Ev.step (f := fun k => (graph_balance.f k N l F).bind fun t154 => (if 0 ≤ s then (if s < (t154.length : Int) then (if 0 ≤ t then (if t < (t154.length : Int) then ((slices_ContainsFunc_int_int.f ((t154.set (s : Int).toNat 0).set (t : Int).toNat 0)).bind fun t159 => (some (!t159))) else (none)) else (none)) else (none)) else (none))) (fun k => ?_) (Ev.bind hb (Ev.congr (fun k => ?_) (Ev.now _))))), ?_⟩
          · rw [if_pos rfl, within_ev, within_ev, ew, Option.bind_some, if_pos (by simp; omega), Option.bind_some, if_pos (by simp; omega), hne]
          · simp only [graph_Good.j0]; rw [if_neg (by simp)]
          · rw [if_pos c1.1, if_pos (by omega), if_pos c2.1, if_pos (by omega)]; rfl
          · rw [Bool.not_eq_true', any_set2]
            constructor
            · intro g
              refine ⟨h.net, h.len, c1, c2, h.net.ok, h.fits, ?_, ?_, by omega, fun v hv h1 h2 => ?_⟩
              · show s.toNat < N.toNat; omega
              · show t.toNat < N.toNat; omega
              · have hv : v < N.toNat := hv
                have := g v (by omega) h1 h2
                rwa [hLv] at this
            · intro g v hv h1 h2
              rw [hLv]
              exact g.good.bal v (by show v < N.toNat; omega) h1 h2
      · refine ⟨false, Ev.bind (fits_true h) (Ev.congr (fun k => ?_) jno), hno fun g => c2 g.tb⟩
        rw [if_pos rfl, within_ev, within_ev, ew, Option.bind_some, if_pos (by simp; omega), Option.bind_some, if_neg (by simp; omega)]
    · refine ⟨false, Ev.bind (fits_true h) (Ev.congr (fun k => ?_) jno), hno fun g => c1 g.sb⟩
      rw [if_pos rfl, within_ev, ew, Option.bind_some, if_neg (by simp; omega)]
  · refine ⟨false, Ev.bind (fits_false h) (Ev.congr (fun k => ?_) jno), hno fun g => h ⟨g.net, g.len, g.good.fits⟩⟩
    rw [if_neg (by simp)]
theorem good_true {N : Int} {l : List S41} {F : List Int} {s t : Int} (h : GoodP N l F s t) : Ev (fun k => graph_Good.f k N l F s t) true := by
  obtain ⟨r, h1, h2⟩ := good_ev N l F s t
  rw [h2.2 h] at h1; exact h1
theorem good_false {N : Int} {l : List S41} {F : List Int} {s t : Int} (h : ¬ GoodP N l F s t) : Ev (fun k => graph_Good.f k N l F s t) false := by
  obtain ⟨r, h1, h2⟩ := good_ev N l F s t
  cases r
  · exact h1
  · exact absurd (h2.1 rfl) h

theorem rd_rep (n : Nat) (i : Int) : rd (List.replicate n 0) i = 0 := by
  unfold rd
  rw [List.getD_eq_getElem?_getD]
  by_cases h : i.toNat < n
  · rw [List.getElem?_eq_getElem (by simpa using h)]; simp
  · rw [List.getElem?_eq_none (by simpa using h)]; rfl
theorem zero_good {N : Int} {l : List S41} {s t : Int} (hN : NetOk N l) (hs : 0 ≤ s ∧ s < N) (ht : 0 ≤ t ∧ t < N) (hne : s ≠ t) : GoodP N l (List.replicate l.length 0) s t ∧ ∀ v, bal (nw N l) (fl (List.replicate l.length 0)) v = 0 := by
  have e : ∀ i : Nat, fl (List.replicate l.length 0) i = 0 := fun i => rd_rep _ _
  have hb : ∀ v, bal (nw N l) (fl (List.replicate l.length 0)) v = 0 := fun v => sm_all0 fun i _ => by rw [e]; simp
  refine ⟨⟨hN, by simp, hs, ht, hN.ok, fun i hi => ?_, ?_, ?_, by omega, fun v _ _ _ => hb v⟩, hb⟩
  · rw [e]; exact ⟨by omega, (hN.cap i hi).1⟩
  · show s.toNat < N.toNat; omega
  · show t.toNat < N.toNat; omega
end Go.Proofs.Ytfmfojogcghkkaa.Gp
