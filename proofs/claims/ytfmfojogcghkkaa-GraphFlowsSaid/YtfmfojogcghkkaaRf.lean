/- The document's own Right, fits, out, Good, Value, Cut, Reach: what they answer, in plain terms. -/
import Derived.Test.YtfmfojogcghkkaaFa
import Derived.Test.YtfmfojogcghkkaaPx16
import Derived.Test.YtfmfojogcghkkaaPx17
namespace Go.Proofs.Ytfmfojogcghkkaa.Rf
open Go.RowKit Go.Proofs.Ytfmfojogcghkkaa.P Go.Proofs.YtfmfojogcghkkaaW.PrintWords Go.Proofs.YtfmfojogcghkkaaW.PrintLast
open Go.Proofs.Ytfmfojogcghkkaa.Fl Go.Proofs.Ytfmfojogcghkkaa.Bf Go.Proofs.Ytfmfojogcghkkaa.Pp Go.Proofs.Ytfmfojogcghkkaa.Gp Go.Proofs.Ytfmfojogcghkkaa.Fw

def EOk (N : Int) (x : S41) : Prop := (0 ≤ x.f0 ∧ x.f0 < N) ∧ (0 ≤ x.f1 ∧ x.f1 < N) ∧ x.f0 ≠ x.f1 ∧ 0 ≤ x.f2 ∧ x.f2 ≤ 1000
theorem right_loop (N : Int) (l : List S41) (hlen : l.length ≤ 256) (d : Nat) : ∀ i : Nat, i ≤ l.length → l.length - i = d →
    ∃ r, Ev (fun k => billetref05_Right.l0 k (i : Int) N l) r ∧ (r = true ↔ ∀ j : Nat, i ≤ j → j < l.length → EOk N (rd_T41 l j)) := by
  induction d with
  | zero =>
    intro i hi hd
    refine ⟨true, Ev.step (f := fun _ => some true) (fun k => ?_) (Ev.now _), by simp; omega⟩
    simp only [billetref05_Right.l0]; rw [if_neg (by omega)]
  | succ d ih =>
    intro i hi hd
    by_cases c : EOk N (rd_T41 l i)
    · obtain ⟨r, h1, h2⟩ := ih (i + 1) (by omega) (by omega)
      refine ⟨r, Ev.step (fun k => ?_) h1, h2.trans ⟨fun h j hj hjl => ?_, fun h j hj hjl => h j (by omega) hjl⟩⟩
      · obtain ⟨⟨a1, a2⟩, ⟨a3, a4⟩, a5, a6, a7⟩ := c
        simp only [billetref05_Right.l0]
        rw [if_pos (show (i : Int) < (l.length : Int) by omega), if_pos (show (0 : Int) ≤ (i : Int) by omega), if_neg (by omega), if_neg (by omega), if_neg (by omega), if_neg (by omega), if_neg a5, if_neg (by omega), if_neg (by omega), w64 (n := (i : Int) + 1) (by omega) (by omega)]; rfl
      · by_cases e : j = i
        · subst e; exact c
        · exact h j (by omega) hjl
    · refine ⟨false, Ev.step (f := fun _ => some false) (fun k => ?_) (Ev.now _), by simp only [Bool.false_eq_true, false_iff]; exact fun h => c (h i (Nat.le_refl _) (by omega))⟩
      simp only [billetref05_Right.l0]
      rw [if_pos (show (i : Int) < (l.length : Int) by omega), if_pos (show (0 : Int) ≤ (i : Int) by omega)]
      by_cases b1 : (rd_T41 l i).f0 < 0
      · rw [if_pos b1]
      rw [if_neg b1]
      by_cases b2 : (rd_T41 l i).f0 ≥ N
      · rw [if_pos b2]
      rw [if_neg b2]
      by_cases b3 : (rd_T41 l i).f1 < 0
      · rw [if_pos b3]
      rw [if_neg b3]
      by_cases b4 : (rd_T41 l i).f1 ≥ N
      · rw [if_pos b4]
      rw [if_neg b4]
      by_cases b5 : (rd_T41 l i).f0 = (rd_T41 l i).f1
      · rw [if_pos b5]
      rw [if_neg b5]
      by_cases b6 : (rd_T41 l i).f2 < 0
      · rw [if_pos b6]
      rw [if_neg b6]
      by_cases b7 : (rd_T41 l i).f2 > 1000
      · rw [if_pos b7]
      exact absurd ⟨⟨by omega, by omega⟩, ⟨by omega, by omega⟩, b5, by omega, by omega⟩ c
theorem right_ev (N : Int) (l : List S41) : ∃ r, Ev (fun k => billetref05_Right.f k N l) r ∧ (r = true ↔ NetOk N l) := by
  have jno : Ev (fun k => billetref05_Right.j0 k true N l) false := Ev.step (f := fun _ => some false) (fun k => by simp only [billetref05_Right.j0]; rfl) (Ev.now _)
  by_cases a : N < 2
  · refine ⟨false, Ev.congr (fun k => ?_) jno, by simp only [Bool.false_eq_true, false_iff]; exact fun h => by have := h.n0; omega⟩
    simp only [billetref05_Right.f]; rw [if_pos a]
  · by_cases b : N > 64
    · refine ⟨false, Ev.congr (fun k => ?_) jno, by simp only [Bool.false_eq_true, false_iff]; exact fun h => by have := h.n1; omega⟩
      simp only [billetref05_Right.f]; rw [if_neg a, if_pos b]
    · by_cases c : (l.length : Int) > 256
      · refine ⟨false, Ev.congr (fun k => ?_) jno, by simp only [Bool.false_eq_true, false_iff]; exact fun h => by have := h.len; omega⟩
        simp only [billetref05_Right.f]; rw [if_neg a, if_neg b, decide_eq_true c]
      · obtain ⟨r, h1, h2⟩ := right_loop N l (by omega) l.length 0 (by omega) (by omega)
        refine ⟨r, Ev.congr (f := fun k => billetref05_Right.j0 k false N l) (fun k => ?_) (Ev.step (fun k => ?_) h1), h2.trans ⟨fun h => ⟨by omega, by omega, by omega, fun i hi => ?_, fun i hi => ?_⟩, fun h j _ hj => ?_⟩⟩
        · simp only [billetref05_Right.f]; rw [if_neg a, if_neg b, decide_eq_false c]
        · simp only [billetref05_Right.j0]; rw [if_neg (by simp)]; rfl
        · obtain ⟨a, b, c, _⟩ := h i (by omega) hi; exact ⟨a, b, c⟩
        · obtain ⟨_, _, _, d⟩ := h i (by omega) hi; exact d
        · have a := h.ends j hj; exact ⟨a.1, a.2.1, a.2.2, h.cap j hj⟩

theorem fits_loop (N : Int) (l : List S41) (F : List Int) (hlen : l.length ≤ 256) (hl : F.length = l.length) (d : Nat) : ∀ i : Nat, i ≤ l.length → l.length - i = d →
    ∃ r, Ev (fun k => billetref05_fits.l0 k F (i : Int) N l) r ∧ (r = true ↔ ∀ j : Nat, i ≤ j → j < l.length → 0 ≤ rd F j ∧ rd F j ≤ (rd_T41 l j).f2) := by
  induction d with
  | zero =>
    intro i hi hd
    refine ⟨true, Ev.step (f := fun _ => some true) (fun k => ?_) (Ev.now _), by simp; omega⟩
    simp only [billetref05_fits.l0]; rw [if_neg (by omega)]
  | succ d ih =>
    intro i hi hd
    by_cases c : 0 ≤ rd F i ∧ rd F i ≤ (rd_T41 l i).f2
    · obtain ⟨r, h1, h2⟩ := ih (i + 1) (by omega) (by omega)
      refine ⟨r, Ev.step (fun k => ?_) h1, h2.trans ⟨fun h j hj hjl => ?_, fun h j hj hjl => h j (by omega) hjl⟩⟩
      · simp only [billetref05_fits.l0]
        rw [if_pos (show (i : Int) < (F.length : Int) by omega), if_pos (show (0 : Int) ≤ (i : Int) by omega), if_neg (by omega), if_pos (show (i : Int) < (l.length : Int) by omega), if_neg (by omega), w64 (n := (i : Int) + 1) (by omega) (by omega)]; rfl
      · by_cases e : j = i
        · subst e; exact c
        · exact h j (by omega) hjl
    · refine ⟨false, Ev.step (f := fun _ => some false) (fun k => ?_) (Ev.now _), by simp only [Bool.false_eq_true, false_iff]; exact fun h => c (h i (Nat.le_refl _) (by omega))⟩
      simp only [billetref05_fits.l0]
      rw [if_pos (show (i : Int) < (F.length : Int) by omega), if_pos (show (0 : Int) ≤ (i : Int) by omega)]
      by_cases c1 : rd F i < 0
      · rw [if_pos c1]
      · rw [if_neg c1, if_pos (show (i : Int) < (l.length : Int) by omega), if_pos (by omega)]
theorem fits_ev (N : Int) (l : List S41) (F : List Int) : ∃ r, Ev (fun k => billetref05_fits.f k N l F) r ∧ (r = true ↔ FitsP N l F) := by
  have jno : Ev (fun k => billetref05_fits.j0 k F true N l) false := Ev.step (f := fun _ => some false) (fun k => by simp only [billetref05_fits.j0]; rfl) (Ev.now _)
  obtain ⟨b, hb1, hb2⟩ := right_ev N l
  cases b with
  | false =>
    refine ⟨false, Ev.bind hb1 (Ev.congr (fun k => ?_) jno), by simp only [Bool.false_eq_true, false_iff]; exact fun h => by have := hb2.2 h.net; cases this⟩
    rw [if_neg (by simp)]
  | true =>
    have hN := hb2.1 rfl
    by_cases hl : F.length = l.length
    · have e1 : ((F.length : Int) != (l.length : Int)) = false := by simp; omega
      obtain ⟨r, h1, h2⟩ := fits_loop N l F hN.len hl l.length 0 (by omega) (by omega)
      refine ⟨r, Ev.bind hb1 (Ev.congr (f := fun k => billetref05_fits.j0 k F false N l) (fun k => ?_) (Ev.step (fun k => ?_) h1)), h2.trans ⟨fun h => ⟨hN, hl, fun i hi => h i (by omega) hi⟩, fun h j _ hj => h.fits j hj⟩⟩
      · rw [if_pos rfl, e1]
      · simp only [billetref05_fits.j0]; rw [if_neg (by simp)]; rfl
    · have e1 : ((F.length : Int) != (l.length : Int)) = true := by simp; omega
      refine ⟨false, Ev.bind hb1 (Ev.congr (fun k => ?_) jno), by simp only [Bool.false_eq_true, false_iff]; exact fun h => hl h.len⟩
      rw [if_pos rfl, e1]
theorem fits_true {N : Int} {l : List S41} {F : List Int} (h : FitsP N l F) : Ev (fun k => billetref05_fits.f k N l F) true := by
  obtain ⟨r, h1, h2⟩ := fits_ev N l F
  rw [h2.2 h] at h1; exact h1
theorem fits_false {N : Int} {l : List S41} {F : List Int} (h : ¬ FitsP N l F) : Ev (fun k => billetref05_fits.f k N l F) false := by
  obtain ⟨r, h1, h2⟩ := fits_ev N l F
  cases r
  · exact h1
  · exact absurd (h2.1 rfl) h

theorem out_loop {N : Int} {l : List S41} {F : List Int} (h : FitsP N l F) {v : Int} (hv : 0 ≤ v) (d : Nat) : ∀ i : Nat, i ≤ l.length → l.length - i = d →
    Ev (fun k => billetref05_out.l0 k F v (sm (trm N l F v.toNat) i) (i : Int) N l) (bal (nw N l) (fl F) v.toNat) := by
  have hlen := h.net.len
  have hl := h.len
  induction d with
  | zero =>
    intro i hi hd
    obtain rfl : i = l.length := by omega
    refine Ev.step (f := fun _ => some (bal (nw N l) (fl F) v.toNat)) (fun k => ?_) (Ev.now _)
    simp only [billetref05_out.l0]; rw [if_neg (by omega)]; rfl
  | succ d ih =>
    intro i hi hd
    obtain ⟨a, b, c⟩ := h.net.ends i (by omega)
    have hb := smtrm_bd h v.toNat i (by omega)
    have hF := good_bd h.net h.fits i (by omega)
    have e : sm (trm N l F v.toNat) (i + 1) = sm (trm N l F v.toNat) i + ((if (rd_T41 l i).f0.toNat = v.toNat then rd F i else 0) - (if (rd_T41 l i).f1.toNat = v.toNat then rd F i else 0)) := rfl
    refine Ev.step (fun k => ?_) (ih (i + 1) (by omega) (by omega))
    rw [e]
    generalize sm (trm N l F v.toNat) i = S at hb
    simp only [billetref05_out.l0]
    rw [if_pos (show (i : Int) < (F.length : Int) by omega), if_pos (show (0 : Int) ≤ (i : Int) by omega), if_pos (show (i : Int) < (l.length : Int) by omega), w64 (n := (i : Int) + 1) (by omega) (by omega)]
    by_cases c0 : (rd_T41 l i).f0 = v
    · rw [if_pos c0, if_neg (fun h => c (c0.trans h.symm)), if_pos (by omega), if_neg (by omega), w64 (by omega) (by omega), Int.sub_zero]; rfl
    · rw [if_neg c0, if_neg (show ¬ (rd_T41 l i).f0.toNat = v.toNat by omega)]
      by_cases c1 : (rd_T41 l i).f1 = v
      · rw [if_pos c1, if_pos (by omega), w64 (by omega) (by omega), show S + (0 - rd F i) = S - rd F i by omega]; rfl
      · rw [if_neg c1, if_neg (by omega), show S + ((0 : Int) - 0) = S by omega]; rfl
theorem out_ev {N : Int} {l : List S41} {F : List Int} (h : FitsP N l F) {v : Int} (hv : 0 ≤ v) : Ev (fun k => billetref05_out.f k N l F v) (bal (nw N l) (fl F) v.toNat) := out_loop h hv l.length 0 (by omega) (by omega)
theorem value_ev (N : Int) (l : List S41) (F : List Int) (s : Int) : Ev (fun k => billetref05_Value.f k N l F s) (valP N l F s) := by
  unfold valP
  by_cases h : FitsP N l F
  · refine Ev.bind (fits_true h) ?_
    by_cases c : 0 ≤ s ∧ s < N
    · rw [if_pos ⟨h, c⟩]
      refine Ev.congr (f := fun k => (billetref05_out.f k N l F s).bind fun t229 => (some t229)) (fun k => ?_) (Ev.bind (out_ev h c.1) (Ev.now _))
      rw [if_pos rfl, if_neg (by omega), if_neg (by omega)]
    · rw [if_neg (fun h => c h.2)]
      refine Ev.congr (fun k => ?_) (Ev.now _)
      rw [if_pos rfl]
      by_cases c1 : s < 0
      · rw [if_pos c1]
      · rw [if_neg c1, if_pos (by omega)]
  · rw [if_neg (fun k => h k.1)]
    refine Ev.bind (fits_false h) (Ev.congr (fun k => ?_) (Ev.now _))
    rw [if_neg (by simp)]
theorem val_of {N : Int} {l : List S41} {F : List Int} {s : Int} (g : FitsP N l F) (hs : 0 ≤ s ∧ s < N) : Ev (fun k => billetref05_Value.f k N l F s) (bal (nw N l) (fl F) s.toNat) := by
  have := value_ev N l F s
  unfold valP at this
  rwa [if_pos ⟨g, hs⟩] at this

/-! ### Good -/
theorem good_loop {N : Int} {l : List S41} {F : List Int} (h : FitsP N l F) (s t : Int) (d : Nat) : ∀ v : Nat, (v : Int) ≤ N → N - v = d →
    ∃ r, Ev (fun k => billetref05_Good.l0 k F s t (v : Int) N l) r ∧ (r = true ↔ ∀ u : Nat, v ≤ u → (u : Int) < N → (u : Int) ≠ s → (u : Int) ≠ t → bal (nw N l) (fl F) u = 0) := by
  have n1 := h.net.n1
  induction d with
  | zero =>
    intro v hv hd
    refine ⟨true, Ev.step (f := fun _ => some true) (fun k => ?_) (Ev.now _), by simp; omega⟩
    simp only [billetref05_Good.l0]; rw [if_neg (by omega)]
  | succ d ih =>
    intro v hv hd
    have next : ∀ (_ : (v : Int) = s ∨ (v : Int) = t ∨ bal (nw N l) (fl F) v = 0) (_ : ∀ k, billetref05_Good.l0 (k + 1) F s t (v : Int) N l = billetref05_Good.l0 k F s t (wrap64 ((v : Int) + 1)) N l), ∃ r, Ev (fun k => billetref05_Good.l0 k F s t (v : Int) N l) r ∧ (r = true ↔ ∀ u : Nat, v ≤ u → (u : Int) < N → (u : Int) ≠ s → (u : Int) ≠ t → bal (nw N l) (fl F) u = 0) := fun hx he => by
      obtain ⟨r, h1, h2⟩ := ih (v + 1) (by omega) (by omega)
      refine ⟨r, Ev.step (fun k => ?_) h1, h2.trans ⟨fun g u hu hun h3 h4 => ?_, fun g u hu hun h3 h4 => g u (by omega) hun h3 h4⟩⟩
      · rw [he k, w64 (n := (v : Int) + 1) (by omega) (by omega)]; rfl
      · by_cases e : u = v
        · subst e
          rcases hx with hx | hx | hx
          · exact absurd hx h3
          · exact absurd hx h4
          · exact hx
        · exact g u (by omega) hun h3 h4
    by_cases c1 : (v : Int) = s
    · exact next (.inl c1) fun k => by simp only [billetref05_Good.l0]; rw [if_pos (show (v : Int) < N by omega), if_pos c1]
    · by_cases c2 : (v : Int) = t
      · exact next (.inr (.inl c2)) fun k => by simp only [billetref05_Good.l0]; rw [if_pos (show (v : Int) < N by omega), if_neg c1, if_pos c2]
      · have ho := out_ev h (v := (v : Int)) (by omega)
        rw [Int.toNat_natCast] at ho
        by_cases c3 : bal (nw N l) (fl F) v = 0
        · obtain ⟨r, h1, h2⟩ := ih (v + 1) (by omega) (by omega)
          refine ⟨r, Ev.step (f := fun k => (billetref05_out.f k N l F v).bind fun t226 => (if t226 = 0 then (billetref05_Good.l0 k F s t ((v + 1 : Nat) : Int) N l) else (some false))) (fun k => ?_) (Ev.bind ho (Ev.congr (fun k => ?_) h1)), h2.trans ⟨fun g u hu hun h3 h4 => ?_, fun g u hu hun h3 h4 => g u (by omega) hun h3 h4⟩⟩
          · simp only [billetref05_Good.l0]; rw [if_pos (show (v : Int) < N by omega), if_neg c1, if_neg c2, w64 (n := (v : Int) + 1) (by omega) (by omega)]; rfl
          · rw [if_pos c3]
          · by_cases e : u = v
            · subst e; exact c3
            · exact g u (by omega) hun h3 h4
        · refine ⟨false, Ev.step (f := fun k => (billetref05_out.f k N l F v).bind fun t226 => (if t226 = 0 then (billetref05_Good.l0 k F s t (wrap64 ((v : Int) + 1)) N l) else (some false))) (fun k => ?_) (Ev.bind ho (Ev.congr (fun k => ?_) (Ev.now _))), by simp only [Bool.false_eq_true, false_iff]; exact fun g => c3 (g v (Nat.le_refl _) (by omega) c1 c2)⟩
          · simp only [billetref05_Good.l0]; rw [if_pos (show (v : Int) < N by omega), if_neg c1, if_neg c2]
          · rw [if_neg c3]
theorem good_ev (N : Int) (l : List S41) (F : List Int) (s t : Int) : ∃ r, Ev (fun k => billetref05_Good.f k N l F s t) r ∧ (r = true ↔ GoodP N l F s t) := by
  have hno : ∀ h : ¬ GoodP N l F s t, (false = true ↔ GoodP N l F s t) := fun h => by simpa using h
  have jno : Ev (fun k => billetref05_Good.j0 k F s t true N l) false := Ev.step (f := fun _ => some false) (fun k => by simp only [billetref05_Good.j0]; rfl) (Ev.now _)
  by_cases h : FitsP N l F
  · by_cases a1 : s < 0
    · refine ⟨false, Ev.bind (fits_true h) (Ev.congr (fun k => ?_) jno), hno fun g => by have := g.sb; omega⟩
      rw [if_pos rfl, if_pos a1]
    by_cases a2 : s ≥ N
    · refine ⟨false, Ev.bind (fits_true h) (Ev.congr (fun k => ?_) jno), hno fun g => by have := g.sb; omega⟩
      rw [if_pos rfl, if_neg a1, if_pos a2]
    by_cases a3 : t < 0
    · refine ⟨false, Ev.bind (fits_true h) (Ev.congr (fun k => ?_) jno), hno fun g => by have := g.tb; omega⟩
      rw [if_pos rfl, if_neg a1, if_neg a2, if_pos a3]
    by_cases a4 : t ≥ N
    · refine ⟨false, Ev.bind (fits_true h) (Ev.congr (fun k => ?_) jno), hno fun g => by have := g.tb; omega⟩
      rw [if_pos rfl, if_neg a1, if_neg a2, if_neg a3, if_pos a4]
    by_cases a5 : s = t
    · refine ⟨false, Ev.bind (fits_true h) (Ev.congr (fun k => ?_) jno), hno fun g => g.good.ne (by rw [a5])⟩
      rw [if_pos rfl, if_neg a1, if_neg a2, if_neg a3, if_neg a4, beq_iff_eq.2 a5]
    have n0 := h.net.n0
    obtain ⟨r, h1, h2⟩ := good_loop h s t N.toNat 0 (by omega) (by omega)
    refine ⟨r, Ev.bind (fits_true h) (Ev.congr (f := fun k => billetref05_Good.j0 k F s t false N l) (fun k => ?_) (Ev.step (fun k => ?_) h1)), h2.trans ⟨fun g => ?_, fun g u _ hu h3 h4 => g.good.bal u (by show u < N.toNat; omega) (by omega) (by omega)⟩⟩
    · rw [if_pos rfl, if_neg a1, if_neg a2, if_neg a3, if_neg a4, beq_eq_false_iff_ne.2 a5]
    · simp only [billetref05_Good.j0]; rw [if_neg (by simp)]; rfl
    · refine ⟨h.net, h.len, by omega, by omega, h.net.ok, h.fits, ?_, ?_, by omega, fun v hv h1 h2 => ?_⟩
      · show s.toNat < N.toNat; omega
      · show t.toNat < N.toNat; omega
      · have hv : v < N.toNat := hv
        exact g v (by omega) (by omega) (by omega) (by omega)
  · refine ⟨false, Ev.bind (fits_false h) (Ev.congr (fun k => ?_) jno), hno fun g => h ⟨g.net, g.len, g.good.fits⟩⟩
    rw [if_neg (by simp)]
theorem good_true {N : Int} {l : List S41} {F : List Int} {s t : Int} (h : GoodP N l F s t) : Ev (fun k => billetref05_Good.f k N l F s t) true := by
  obtain ⟨r, h1, h2⟩ := good_ev N l F s t
  rw [h2.2 h] at h1; exact h1

theorem good_false {N : Int} {l : List S41} {F : List Int} {s t : Int} (h : ¬ GoodP N l F s t) : Ev (fun k => billetref05_Good.f k N l F s t) false := by
  obtain ⟨r, h1, h2⟩ := good_ev N l F s t
  cases r
  · exact h1
  · exact absurd (h2.1 rfl) h
#print axioms good_true
end Go.Proofs.Ytfmfojogcghkkaa.Rf
