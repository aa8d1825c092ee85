/- The document's own Right, fits, out, Good, Value, Cut, Reach: what they answer, in plain terms. -/
import Derived.Test.YtfmfojogcghkkaaFw
import Derived.Test.YtfmfojogcghkkaaPx14
import Derived.Test.YtfmfojogcghkkaaPx16
import Derived.Test.YtfmfojogcghkkaaPx17
import Derived.Test.YtfmfojogcghkkaaPx18
namespace Go.Proofs.Ytfmfojogcghkkaa.Rf
open Go.RowKit Go.Proofs.Ytfmfojogcghkkaa.P Go.Proofs.YtfmfojogcghkkaaW.PrintWords Go.Proofs.YtfmfojogcghkkaaW.PrintLast
open Go.Proofs.Ytfmfojogcghkkaa.Fl Go.Proofs.Ytfmfojogcghkkaa.Bf Go.Proofs.Ytfmfojogcghkkaa.Pp Go.Proofs.Ytfmfojogcghkkaa.Gp Go.Proofs.Ytfmfojogcghkkaa.Fw

def EOk (N : Int) (x : S41) : Prop := (0 ≤ x.f0 ∧ x.f0 < N) ∧ (0 ≤ x.f1 ∧ x.f1 < N) ∧ x.f0 ≠ x.f1 ∧ 0 ≤ x.f2 ∧ x.f2 ≤ 1000
theorem right_loop (N : Int) (l : List S41) (hlen : l.length ≤ 256) (d : Nat) : ∀ i : Nat, i ≤ l.length → l.length - i = d →
    ∃ r, Ev (fun k => billetref05_Right.l0 k (i : Int) N l) r ∧ (r = true ↔ ∀ j : Nat, i ≤ j → j < l.length → EOk N (rd_T41 l j)) := by
  induction d with
  | zero =>
    intro i hi hd
    refine ⟨true, Ev.step (f := fun _ => some true) (fun k => ?_) (Ev.now _), by simp; omega⟩
    simp only [billetref05_Right.l0]; rw [if_neg (by omega)]
  | succ d ih =>
    intro i hi hd
    by_cases c : EOk N (rd_T41 l i)
    · obtain ⟨r, h1, h2⟩ := ih (i + 1) (by omega) (by omega)
      refine ⟨r, Ev.step (fun k => ?_) h1, h2.trans ⟨fun h j hj hjl => ?_, fun h j hj hjl => h j (by omega) hjl⟩⟩
      · obtain ⟨⟨a1, a2⟩, ⟨a3, a4⟩, a5, a6, a7⟩ := c
        simp only [billetref05_Right.l0]
        rw [if_pos (show (i : Int) < (l.length : Int) by omega), if_pos (show (0 : Int) ≤ (i : Int) by omega), if_neg (by omega), if_neg (by omega), if_neg (by omega), if_neg (by omega), if_neg a5, if_neg (by omega), if_neg (by omega), w64 (n := (i : Int) + 1) (by omega) (by omega)]; rfl
      · by_cases e : j = i
        · subst e; exact c
        · exact h j (by omega) hjl
    · refine ⟨false, Ev.step (f := fun _ => some false) (fun k => ?_) (Ev.now _), by simp only [Bool.false_eq_true, false_iff]; exact fun h => c (h i (Nat.le_refl _) (by omega))⟩
      simp only [billetref05_Right.l0]
      rw [if_pos (show (i : Int) < (l.length : Int) by omega), if_pos (show (0 : Int) ≤ (i : Int) by omega)]
      by_cases b1 : (rd_T41 l i).f0 < 0
      · rw [if_pos b1]
      rw [if_neg b1]
      by_cases b2 : (rd_T41 l i).f0 ≥ N
      · rw [if_pos b2]
      rw [if_neg b2]
      by_cases b3 : (rd_T41 l i).f1 < 0
      · rw [if_pos b3]
      rw [if_neg b3]
      by_cases b4 : (rd_T41 l i).f1 ≥ N
      · rw [if_pos b4]
      rw [if_neg b4]
      by_cases b5 : (rd_T41 l i).f0 = (rd_T41 l i).f1
      · rw [if_pos b5]
      rw [if_neg b5]
      by_cases b6 : (rd_T41 l i).f2 < 0
      · rw [if_pos b6]
      rw [if_neg b6]
      by_cases b7 : (rd_T41 l i).f2 > 1000
      · rw [if_pos b7]
      exact absurd ⟨⟨by omega, by omega⟩, ⟨by omega, by omega⟩, b5, by omega, by omega⟩ c
theorem right_ev (N : Int) (l : List S41) : ∃ r, Ev (fun k => billetref05_Right.f k N l) r ∧ (r = true ↔ NetOk N l) := by
  have jno : Ev (fun k => billetref05_Right.j0 k true N l) false := Ev.step (f := fun _ => some false) (fun k => by simp only [billetref05_Right.j0]; rfl) (Ev.now _)
  by_cases a : N < 2
  · refine ⟨false, Ev.congr (fun k => ?_) jno, by simp only [Bool.false_eq_true, false_iff]; exact fun h => by have := h.n0; omega⟩
    simp only [billetref05_Right.f]; rw [if_pos a]
  · by_cases b : N > 64
    · refine ⟨false, Ev.congr (fun k => ?_) jno, by simp only [Bool.false_eq_true, false_iff]; exact fun h => by have := h.n1; omega⟩
      simp only [billetref05_Right.f]; rw [if_neg a, if_pos b]
    · by_cases c : (l.length : Int) > 256
      · refine ⟨false, Ev.congr (fun k => ?_) jno, by simp only [Bool.false_eq_true, false_iff]; exact fun h => by have := h.len; omega⟩
        simp only [billetref05_Right.f]; rw [if_neg a, if_neg b, decide_eq_true c]
      · obtain ⟨r, h1, h2⟩ := right_loop N l (by omega) l.length 0 (by omega) (by omega)
        refine ⟨r, Ev.congr (f := fun k => billetref05_Right.j0 k false N l) (fun k => ?_) (Ev.step (fun k => ?_) h1), h2.trans ⟨fun h => ⟨by omega, by omega, by omega, fun i hi => ?_, fun i hi => ?_⟩, fun h j _ hj => ?_⟩⟩
        · simp only [billetref05_Right.f]; rw [if_neg a, if_neg b, decide_eq_false c]
        · simp only [billetref05_Right.j0]; rw [if_neg (by simp)]; rfl
        · obtain ⟨a, b, c, _⟩ := h i (by omega) hi; exact ⟨a, b, c⟩
        · obtain ⟨_, _, _, d⟩ := h i (by omega) hi; exact d
        · have a := h.ends j hj; exact ⟨a.1, a.2.1, a.2.2, h.cap j hj⟩

theorem fits_loop (N : Int) (l : List S41) (F : List Int) (hlen : l.length ≤ 256) (hl : F.length = l.length) (d : Nat) : ∀ i : Nat, i ≤ l.length → l.length - i = d →
    ∃ r, Ev (fun k => billetref05_fits.l0 k F (i : Int) N l) r ∧ (r = true ↔ ∀ j : Nat, i ≤ j → j < l.length → 0 ≤ rd F j ∧ rd F j ≤ (rd_T41 l j).f2) := by
  induction d with
  | zero =>
    intro i hi hd
    refine ⟨true, Ev.step (f := fun _ => some true) (fun k => ?_) (Ev.now _), by simp; omega⟩
    simp only [billetref05_fits.l0]; rw [if_neg (by omega)]
  | succ d ih =>
    intro i hi hd
    by_cases c : 0 ≤ rd F i ∧ rd F i ≤ (rd_T41 l i).f2
    · obtain ⟨r, h1, h2⟩ := ih (i + 1) (by omega) (by omega)
      refine ⟨r, Ev.step (fun k => ?_) h1, h2.trans ⟨fun h j hj hjl => ?_, fun h j hj hjl => h j (by omega) hjl⟩⟩
      · simp only [billetref05_fits.l0]
        rw [if_pos (show (i : Int) < (F.length : Int) by omega), if_pos (show (0 : Int) ≤ (i : Int) by omega), if_neg (by omega), if_pos (show (i : Int) < (l.length : Int) by omega), if_neg (by omega), w64 (n := (i : Int) + 1) (by omega) (by omega)]; rfl
      · by_cases e : j = i
        · subst e; exact c
        · exact h j (by omega) hjl
    · refine ⟨false, Ev.step (f := fun _ => some false) (fun k => ?_) (Ev.now _), by simp only [Bool.false_eq_true, false_iff]; exact fun h => c (h i (Nat.le_refl _) (by omega))⟩
      simp only [billetref05_fits.l0]
      rw [if_pos (show (i : Int) < (F.length : Int) by omega), if_pos (show (0 : Int) ≤ (i : Int) by omega)]
      by_cases c1 : rd F i < 0
      · rw [if_pos c1]
      · rw [if_neg c1, if_pos (show (i : Int) < (l.length : Int) by omega), if_pos (by omega)]
theorem fits_ev (N : Int) (l : List S41) (F : List Int) : ∃ r, Ev (fun k => billetref05_fits.f k N l F) r ∧ (r = true ↔ FitsP N l F) := by
  have jno : Ev (fun k => billetref05_fits.j0 k F true N l) false := Ev.step (f := fun _ => some false) (fun k => by simp only [billetref05_fits.j0]; rfl) (Ev.now _)
  obtain ⟨b, hb1, hb2⟩ := right_ev N l
  cases b with
  | false =>
    refine ⟨false, Ev.bind hb1 (Ev.congr (fun k => ?_) jno), by simp only [Bool.false_eq_true, false_iff]; exact fun h => by have := hb2.2 h.net; cases this⟩
    rw [if_neg (by simp)]
  | true =>
    have hN := hb2.1 rfl
    by_cases hl : F.length = l.length
    · have e1 : ((F.length : Int) != (l.length : Int)) = false := by simp; omega
      obtain ⟨r, h1, h2⟩ := fits_loop N l F hN.len hl l.length 0 (by omega) (by omega)
      refine ⟨r, Ev.bind hb1 (Ev.congr (f := fun k => billetref05_fits.j0 k F false N l) (fun k => ?_) (Ev.step (fun k => ?_) h1)), h2.trans ⟨fun h => ⟨hN, hl, fun i hi => h i (by omega) hi⟩, fun h j _ hj => h.fits j hj⟩⟩
      · rw [if_pos rfl, e1]
      · simp only [billetref05_fits.j0]; rw [if_neg (by simp)]; rfl
    · have e1 : ((F.length : Int) != (l.length : Int)) = true := by simp; omega
      refine ⟨false, Ev.bind hb1 (Ev.congr (fun k => ?_) jno), by simp only [Bool.false_eq_true, false_iff]; exact fun h => hl h.len⟩
      rw [if_pos rfl, e1]
theorem fits_true {N : Int} {l : List S41} {F : List Int} (h : FitsP N l F) : Ev (fun k => billetref05_fits.f k N l F) true := by
  obtain ⟨r, h1, h2⟩ := fits_ev N l F
  rw [h2.2 h] at h1; exact h1
theorem fits_false {N : Int} {l : List S41} {F : List Int} (h : ¬ FitsP N l F) : Ev (fun k => billetref05_fits.f k N l F) false := by
  obtain ⟨r, h1, h2⟩ := fits_ev N l F
  cases r
  · exact h1
  · exact absurd (h2.1 rfl) h

theorem out_loop {N : Int} {l : List S41} {F : List Int} (h : FitsP N l F) {v : Int} (hv : 0 ≤ v) (d : Nat) : ∀ i : Nat, i ≤ l.length → l.length - i = d →
    Ev (fun k => billetref05_out.l0 k F v (sm (trm N l F v.toNat) i) (i : Int) N l) (bal (nw N l) (fl F) v.toNat) := by
  have hlen := h.net.len
  have hl := h.len
  induction d with
  | zero =>
    intro i hi hd
    obtain rfl : i = l.length := by omega
    refine Ev.step (f := fun _ => some (bal (nw N l) (fl F) v.toNat)) (fun k => ?_) (Ev.now _)
    simp only [billetref05_out.l0]; rw [if_neg (by omega)]; rfl
  | succ d ih =>
    intro i hi hd
    obtain ⟨a, b, c⟩ := h.net.ends i (by omega)
    have hb := smtrm_bd h v.toNat i (by omega)
    have hF := good_bd h.net h.fits i (by omega)
    have e : sm (trm N l F v.toNat) (i + 1) = sm (trm N l F v.toNat) i + ((if (rd_T41 l i).f0.toNat = v.toNat then rd F i else 0) - (if (rd_T41 l i).f1.toNat = v.toNat then rd F i else 0)) := rfl
    refine Ev.step (fun k => ?_) (ih (i + 1) (by omega) (by omega))
    rw [e]
    generalize sm (trm N l F v.toNat) i = S at hb
    simp only [billetref05_out.l0]
    rw [if_pos (show (i : Int) < (F.length : Int) by omega), if_pos (show (0 : Int) ≤ (i : Int) by omega), if_pos (show (i : Int) < (l.length : Int) by omega), w64 (n := (i : Int) + 1) (by omega) (by omega)]
    by_cases c0 : (rd_T41 l i).f0 = v
    · rw [if_pos c0, if_neg (fun h => c (c0.trans h.symm)), if_pos (by omega), if_neg (by omega), w64 (by omega) (by omega), Int.sub_zero]; rfl
    · rw [if_neg c0, if_neg (show ¬ (rd_T41 l i).f0.toNat = v.toNat by omega)]
      by_cases c1 : (rd_T41 l i).f1 = v
      · rw [if_pos c1, if_pos (by omega), w64 (by omega) (by omega), show S + (0 - rd F i) = S - rd F i by omega]; rfl
      · rw [if_neg c1, if_neg (by omega), show S + ((0 : Int) - 0) = S by omega]; rfl
theorem out_ev {N : Int} {l : List S41} {F : List Int} (h : FitsP N l F) {v : Int} (hv : 0 ≤ v) : Ev (fun k => billetref05_out.f k N l F v) (bal (nw N l) (fl F) v.toNat) := out_loop h hv l.length 0 (by omega) (by omega)
theorem value_ev (N : Int) (l : List S41) (F : List Int) (s : Int) : Ev (fun k => billetref05_Value.f k N l F s) (valP N l F s) := by
  unfold valP
  by_cases h : FitsP N l F
  · refine Ev.bind (fits_true h) ?_
    by_cases c : 0 ≤ s ∧ s < N
    · rw [if_pos ⟨h, c⟩]
      refine Ev.congr (f := fun k => (billetref05_out.f k N l F s).bind fun t229 => (some t229)) (fun k => ?_) (Ev.bind (out_ev h c.1) (Ev.now _))
      rw [if_pos rfl, if_neg (by omega), if_neg (by omega)]
    · rw [if_neg (fun h => c h.2)]
      refine Ev.congr (fun k => ?_) (Ev.now _)
      rw [if_pos rfl]
      by_cases c1 : s < 0
      · rw [if_pos c1]
      · rw [if_neg c1, if_pos (by omega)]
  · rw [if_neg (fun k => h k.1)]
    refine Ev.bind (fits_false h) (Ev.congr (fun k => ?_) (Ev.now _))
    rw [if_neg (by simp)]
theorem val_of {N : Int} {l : List S41} {F : List Int} {s : Int} (g : FitsP N l F) (hs : 0 ≤ s ∧ s < N) : Ev (fun k => billetref05_Value.f k N l F s) (bal (nw N l) (fl F) s.toNat) := by
  have := value_ev N l F s
  unfold valP at this
  rwa [if_pos ⟨g, hs⟩] at this

/-! ### Good -/
theorem good_loop {N : Int} {l : List S41} {F : List Int} (h : FitsP N l F) (s t : Int) (d : Nat) : ∀ v : Nat, (v : Int) ≤ N → N - v = d →
    ∃ r, Ev (fun k => billetref05_Good.l0 k F s t (v : Int) N l) r ∧ (r = true ↔ ∀ u : Nat, v ≤ u → (u : Int) < N → (u : Int) ≠ s → (u : Int) ≠ t → bal (nw N l) (fl F) u = 0) := by
  have n1 := h.net.n1
  induction d with
  | zero =>
    intro v hv hd
    refine ⟨true, Ev.step (f := fun _ => some true) (fun k => ?_) (Ev.now _), by simp; omega⟩
    simp only [billetref05_Good.l0]; rw [if_neg (by omega)]
  | succ d ih =>
    intro v hv hd
    have next : ∀ (_ : (v : Int) = s ∨ (v : Int) = t ∨ bal (nw N l) (fl F) v = 0) (_ : ∀ k, billetref05_Good.l0 (k + 1) F s t (v : Int) N l = billetref05_Good.l0 k F s t (wrap64 ((v : Int) + 1)) N l), ∃ r, Ev (fun k => billetref05_Good.l0 k F s t (v : Int) N l) r ∧ (r = true ↔ ∀ u : Nat, v ≤ u → (u : Int) < N → (u : Int) ≠ s → (u : Int) ≠ t → bal (nw N l) (fl F) u = 0) := fun hx he => by
      obtain ⟨r, h1, h2⟩ := ih (v + 1) (by omega) (by omega)
      refine ⟨r, Ev.step (fun k => ?_) h1, h2.trans ⟨fun g u hu hun h3 h4 => ?_, fun g u hu hun h3 h4 => g u (by omega) hun h3 h4⟩⟩
      · rw [he k, w64 (n := (v : Int) + 1) (by omega) (by omega)]; rfl
      · by_cases e : u = v
        · subst e
          rcases hx with hx | hx | hx
          · exact absurd hx h3
          · exact absurd hx h4
          · exact hx
        · exact g u (by omega) hun h3 h4
    by_cases c1 : (v : Int) = s
    · exact next (.inl c1) fun k => by simp only [billetref05_Good.l0]; rw [if_pos (show (v : Int) < N by omega), if_pos c1]
    · by_cases c2 : (v : Int) = t
      · exact next (.inr (.inl c2)) fun k => by simp only [billetref05_Good.l0]; rw [if_pos (show (v : Int) < N by omega), if_neg c1, if_pos c2]
      · have ho := out_ev h (v := (v : Int)) (by omega)
        rw [Int.toNat_natCast] at ho
        by_cases c3 : bal (nw N l) (fl F) v = 0
        · obtain ⟨r, h1, h2⟩ := ih (v + 1) (by omega) (by omega)
          refine ⟨r, Ev.step (f := fun k => (billetref05_out.f k N l F v).bind fun t226 => (if t226 = 0 then (billetref05_Good.l0 k F s t ((v + 1 : Nat) : Int) N l) else (some false))) (fun k => ?_) (Ev.bind ho (Ev.congr (fun k => ?_) h1)), h2.trans ⟨fun g u hu hun h3 h4 => ?_, fun g u hu hun h3 h4 => g u (by omega) hun h3 h4⟩⟩
          · simp only [billetref05_Good.l0]; rw [if_pos (show (v : Int) < N by omega), if_neg c1, if_neg c2, w64 (n := (v : Int) + 1) (by omega) (by omega)]; rfl
          · rw [if_pos c3]
          · by_cases e : u = v
            · subst e; exact c3
            · exact g u (by omega) hun h3 h4
        · refine ⟨false, Ev.step (f := fun k => (billetref05_out.f k N l F v).bind fun t226 => (if t226 = 0 then (billetref05_Good.l0 k F s t (wrap64 ((v : Int) + 1)) N l) else (some false))) (fun k => ?_) (Ev.bind ho (Ev.congr (fun k => ?_) (Ev.now _))), by simp only [Bool.false_eq_true, false_iff]; exact fun g => c3 (g v (Nat.le_refl _) (by omega) c1 c2)⟩
          · simp only [billetref05_Good.l0]; rw [if_pos (show (v : Int) < N by omega), if_neg c1, if_neg c2]
          · rw [if_neg c3]
theorem good_ev (N : Int) (l : List S41) (F : List Int) (s t : Int) : ∃ r, Ev (fun k => billetref05_Good.f k N l F s t) r ∧ (r = true ↔ GoodP N l F s t) := by
  have hno : ∀ h : ¬ GoodP N l F s t, (false = true ↔ GoodP N l F s t) := fun h => by simpa using h
  have jno : Ev (fun k => billetref05_Good.j0 k F s t true N l) false := Ev.step (f := fun _ => some false) (fun k => by simp only [billetref05_Good.j0]; rfl) (Ev.now _)
  by_cases h : FitsP N l F
  · by_cases a1 : s < 0
    · refine ⟨false, Ev.bind (fits_true h) (Ev.congr (fun k => ?_) jno), hno fun g => by have := g.sb; omega⟩
      rw [if_pos rfl, if_pos a1]
    by_cases a2 : s ≥ N
    · refine ⟨false, Ev.bind (fits_true h) (Ev.congr (fun k => ?_) jno), hno fun g => by have := g.sb; omega⟩
      rw [if_pos rfl, if_neg a1, if_pos a2]
    by_cases a3 : t < 0
    · refine ⟨false, Ev.bind (fits_true h) (Ev.congr (fun k => ?_) jno), hno fun g => by have := g.tb; omega⟩
      rw [if_pos rfl, if_neg a1, if_neg a2, if_pos a3]
    by_cases a4 : t ≥ N
    · refine ⟨false, Ev.bind (fits_true h) (Ev.congr (fun k => ?_) jno), hno fun g => by have := g.tb; omega⟩
      rw [if_pos rfl, if_neg a1, if_neg a2, if_neg a3, if_pos a4]
    by_cases a5 : s = t
    · refine ⟨false, Ev.bind (fits_true h) (Ev.congr (fun k => ?_) jno), hno fun g => g.good.ne (by rw [a5])⟩
      rw [if_pos rfl, if_neg a1, if_neg a2, if_neg a3, if_neg a4, beq_iff_eq.2 a5]
    have n0 := h.net.n0
    obtain ⟨r, h1, h2⟩ := good_loop h s t N.toNat 0 (by omega) (by omega)
    refine ⟨r, Ev.bind (fits_true h) (Ev.congr (f := fun k => billetref05_Good.j0 k F s t false N l) (fun k => ?_) (Ev.step (fun k => ?_) h1)), h2.trans ⟨fun g => ?_, fun g u _ hu h3 h4 => g.good.bal u (by show u < N.toNat; omega) (by omega) (by omega)⟩⟩
    · rw [if_pos rfl, if_neg a1, if_neg a2, if_neg a3, if_neg a4, beq_eq_false_iff_ne.2 a5]
    · simp only [billetref05_Good.j0]; rw [if_neg (by simp)]; rfl
    · refine ⟨h.net, h.len, by omega, by omega, h.net.ok, h.fits, ?_, ?_, by omega, fun v hv h1 h2 => ?_⟩
      · show s.toNat < N.toNat; omega
      · show t.toNat < N.toNat; omega
      · have hv : v < N.toNat := hv
        exact g v (by omega) (by omega) (by omega) (by omega)
  · refine ⟨false, Ev.bind (fits_false h) (Ev.congr (fun k => ?_) jno), hno fun g => h ⟨g.net, g.len, g.good.fits⟩⟩
    rw [if_neg (by simp)]
theorem good_true {N : Int} {l : List S41} {F : List Int} {s t : Int} (h : GoodP N l F s t) : Ev (fun k => billetref05_Good.f k N l F s t) true := by
  obtain ⟨r, h1, h2⟩ := good_ev N l F s t
  rw [h2.2 h] at h1; exact h1

/-! ### Cut -/
def sideF (S : List Bool) : Nat → Bool := fun v => rdOf false S (v : Int)
theorem cut_loop {N : Int} {l : List S41} {S : List Bool} (hN : NetOk N l) (hS : (S.length : Int) = N) (d : Nat) : ∀ i : Nat, i ≤ l.length → l.length - i = d →
    Ev (fun k => billetref05_Cut.l0 k S (sm (fun i => if sideF S ((nw N l).src i) = true ∧ sideF S ((nw N l).dst i) = false then (nw N l).cap i else 0) i) (i : Int) N l) (cut (nw N l) (sideF S)) := by
  have hlen := hN.len
  have hbd : ∀ i : Nat, i ≤ l.length → 0 ≤ sm (fun i => if sideF S ((nw N l).src i) = true ∧ sideF S ((nw N l).dst i) = false then (nw N l).cap i else 0) i ∧ sm (fun i => if sideF S ((nw N l).src i) = true ∧ sideF S ((nw N l).dst i) = false then (nw N l).cap i else 0) i ≤ 1000 * i := fun i hi => by
    have hc : ∀ j, j < i → 0 ≤ (if sideF S ((nw N l).src j) = true ∧ sideF S ((nw N l).dst j) = false then (nw N l).cap j else 0) ∧ (if sideF S ((nw N l).src j) = true ∧ sideF S ((nw N l).dst j) = false then (nw N l).cap j else 0) ≤ 1000 := fun j hj => by
      have hc : 0 ≤ (nw N l).cap j ∧ (nw N l).cap j ≤ 1000 := hN.cap j (by omega)
      split <;> omega
    exact ⟨sm_nn fun j hj => (hc j hj).1, sm_bd fun j hj => (hc j hj).2⟩
  induction d with
  | zero =>
    intro i hi hd
    obtain rfl : i = l.length := by omega
    refine Ev.step (f := fun _ => some (cut (nw N l) (sideF S))) (fun k => ?_) (Ev.now _)
    simp only [billetref05_Cut.l0]; rw [if_neg (by omega)]; rfl
  | succ d ih =>
    intro i hi hd
    obtain ⟨a, b, c⟩ := hN.ends i (by omega)
    have hc := hN.cap i (by omega)
    have hb := hbd i (by omega)
    have e : sm (fun i => if sideF S ((nw N l).src i) = true ∧ sideF S ((nw N l).dst i) = false then (nw N l).cap i else 0) (i + 1) = sm (fun i => if sideF S ((nw N l).src i) = true ∧ sideF S ((nw N l).dst i) = false then (nw N l).cap i else 0) i + (if rdOf false S (rd_T41 l i).f0 = true ∧ rdOf false S (rd_T41 l i).f1 = false then (rd_T41 l i).f2 else 0) := by
      simp only [sm, sideF]
      show _ + (if rdOf false S (((rd_T41 l i).f0.toNat : Nat) : Int) = true ∧ rdOf false S (((rd_T41 l i).f1.toNat : Nat) : Int) = false then (rd_T41 l i).f2 else 0) = _
      rw [Int.toNat_of_nonneg a.1, Int.toNat_of_nonneg b.1]
    refine Ev.step (fun k => ?_) (ih (i + 1) (by omega) (by omega))
    rw [e]
    clear e
    generalize sm (fun i => if sideF S ((nw N l).src i) = true ∧ sideF S ((nw N l).dst i) = false then (nw N l).cap i else 0) i = X at hb
    simp only [billetref05_Cut.l0]
    rw [if_pos (show (i : Int) < (l.length : Int) by omega), if_pos (show (0 : Int) ≤ (i : Int) by omega), if_pos a.1, if_pos (by omega), w64 (n := (i : Int) + 1) (by omega) (by omega)]
    cases c1 : rdOf false S (rd_T41 l i).f0
    · rw [if_neg (by simp), if_neg (by simp), Int.add_zero]; rfl
    · rw [if_pos rfl, if_pos b.1, if_pos (by omega)]
      cases c2 : rdOf false S (rd_T41 l i).f1
      · rw [if_neg (by simp), if_pos (by simp), w64 (by omega) (by omega)]; rfl
      · rw [if_pos rfl, if_neg (by simp), Int.add_zero]; rfl
theorem cut_ev {N : Int} {l : List S41} {S : List Bool} (hN : NetOk N l) (hS : (S.length : Int) = N) : Ev (fun k => billetref05_Cut.f k N l S) (cut (nw N l) (sideF S)) := by
  obtain ⟨r, h1, h2⟩ := right_ev N l
  rw [h2.2 hN] at h1
  refine Ev.bind h1 (Ev.congr (f := fun k => billetref05_Cut.j0 k S false N l) (fun k => ?_) (Ev.step (fun k => ?_) (cut_loop hN hS l.length 0 (by omega) (by omega))))
  · rw [if_pos rfl, bne_eq_false_iff_eq.2 hS]
  · simp only [billetref05_Cut.j0]; rw [if_neg (by simp)]; rfl

/-! ### Reach -/
structure RInv (N : Int) (l : List S41) (F : List Int) (s : Int) (S : List Bool) : Prop where
  len : (S.length : Int) = N
  base : rdOf false S s = true
  sound : ∀ v : Int, 0 ≤ v → v < N → rdOf false S v = true → Rch (nw N l) (fl F) s.toNat v.toNat
def Shut (l : List S41) (F : List Int) (S : List Bool) (i : Nat) : Prop := ∀ j : Nat, j < i → (rdOf false S (rd_T41 l j).f0 = true → rdOf false S (rd_T41 l j).f1 = false → ¬ rd F j < (rd_T41 l j).f2) ∧ (rdOf false S (rd_T41 l j).f1 = true → rdOf false S (rd_T41 l j).f0 = false → ¬ 0 < rd F j)
/-- What Reach tells. -/
structure RTold (N : Int) (l : List S41) (F : List Int) (s : Int) (S : List Bool) : Prop where
  len : (S.length : Int) = N
  told : ∀ v : Nat, v < N.toNat → (sideF S v = true ↔ Rch (nw N l) (fl F) s.toNat v)
theorem RInv.told {N : Int} {l : List S41} {F : List Int} {s : Int} {S : List Bool} (hN : NetOk N l) (hs : 0 ≤ s ∧ s < N) (h : RInv N l F s S) (hc : Shut l F S l.length) : RTold N l F s S := by
  refine ⟨h.len, fun v hv => ⟨fun hx => ?_, fun hx => ?_⟩⟩
  · have := h.sound v (by omega) (by omega) hx
    rwa [Int.toNat_natCast] at this
  · refine Rch.sub (S := sideF S) (by unfold sideF; rw [Int.toNat_of_nonneg hs.1]; exact h.base) (fun u v i hu r => ?_) hx
    obtain ⟨hi, r⟩ := r
    have hi : i < l.length := hi
    obtain ⟨a, b, _⟩ := hN.ends i hi
    obtain ⟨c1, c2⟩ := hc i hi
    rcases r with ⟨e1, e2, e3⟩ | ⟨e1, e2, e3⟩
    · have e1 : (rd_T41 l i).f0.toNat = u := e1
      have e2 : (rd_T41 l i).f1.toNat = v := e2
      have e3 : rd F i < (rd_T41 l i).f2 := e3
      unfold sideF at hu ⊢
      rw [← e1, Int.toNat_of_nonneg a.1] at hu
      rw [← e2, Int.toNat_of_nonneg b.1]
      cases hd : rdOf false S (rd_T41 l i).f1
      · exact absurd e3 (c1 hu hd)
      · rfl
    · have e1 : (rd_T41 l i).f1.toNat = u := e1
      have e2 : (rd_T41 l i).f0.toNat = v := e2
      have e3 : 0 < rd F i := e3
      unfold sideF at hu ⊢
      rw [← e1, Int.toNat_of_nonneg b.1] at hu
      rw [← e2, Int.toNat_of_nonneg a.1]
      cases hd : rdOf false S (rd_T41 l i).f0
      · exact absurd e3 (c2 hu hd)
      · rfl
theorem RInv.set {N : Int} {l : List S41} {F : List Int} {s : Int} {S : List Bool} (hs : 0 ≤ s ∧ s < N) (h : RInv N l F s S) {v : Int} (hv : 0 ≤ v ∧ v < N) (hn : rdOf false S v = false) (hr : Rch (nw N l) (fl F) s.toNat v.toNat) : RInv N l F s (S.set v.toNat true) ∧ cf (S.set v.toNat true) + 1 = cf S := by
  have hl := h.len
  refine ⟨⟨by rw [List.length_set]; exact hl, ?_, fun x h0 h1 hx => ?_⟩, ?_⟩
  · rw [rdO_set hs.1 (by omega), h.base]; simp
  · rw [rdO_set h0 (by omega)] at hx
    by_cases c : x.toNat = v.toNat
    · rw [c]; exact hr
    · rw [if_neg c] at hx; exact h.sound x h0 h1 hx
  · rw [rdO hv.1 (by omega)] at hn
    exact cf_set S _ (by omega) hn

theorem pass_ev {N : Int} {l : List S41} {F : List Int} {s : Int} {R : List Bool → Prop} (hf : FitsP N l F) (hs : 0 ≤ s ∧ s < N) (n : Nat)
    (H : ∀ S again, RInv N l F s S → (again = true ∧ cf S < n ∨ again = false ∧ Shut l F S l.length) → ∃ r, Ev (fun k => billetref05_Reach.l0 k F S again N l) r ∧ R r) (d : Nat) : ∀ (i : Nat) (S : List Bool) (again : Bool), i ≤ l.length → l.length - i = d → RInv N l F s S → (again = true ∧ cf S < n ∨ again = false ∧ cf S ≤ n ∧ Shut l F S i) →
    ∃ r, Ev (fun k => billetref05_Reach.l1 k F S again (i : Int) N l) r ∧ R r := by
  have hlen := hf.net.len
  have hl := hf.len
  induction d with
  | zero =>
    intro i S again hi hd hS ha
    obtain rfl : i = l.length := by omega
    obtain ⟨r, h1, h2⟩ := H S again hS (ha.imp id fun h => ⟨h.1, h.2.2⟩)
    refine ⟨r, Ev.step (fun k => ?_) h1, h2⟩
    simp only [billetref05_Reach.l1]; rw [if_neg (by omega)]
  | succ d ih =>
    intro i S again hi hd hS ha
    obtain ⟨a, b, c⟩ := hf.net.ends i (by omega)
    have hSl := hS.len
    have f0 : (rd_T41 l i).f0 < (S.length : Int) := by omega
    have f1 : (rd_T41 l i).f1 < (S.length : Int) := by omega
    have i0 : (i : Int) < (F.length : Int) := by omega
    have i1 : (0 : Int) ≤ (i : Int) := by omega
    have i2 : (i : Int) < (l.length : Int) := by omega
    have ew0 : ∀ _ : True, wrap64 ((i : Int) + 1) = ((i + 1 : Nat) : Int) := fun _ => (w64 (n := (i : Int) + 1) (by omega) (by omega)).trans (by omega)
    have keep : ∀ (_ : ¬ (rdOf false S (rd_T41 l i).f0 = true ∧ rdOf false S (rd_T41 l i).f1 = false ∧ rd F i < (rd_T41 l i).f2)) (_ : ¬ (rdOf false S (rd_T41 l i).f1 = true ∧ rdOf false S (rd_T41 l i).f0 = false ∧ 0 < rd F i)), ∃ r, Ev (fun k => billetref05_Reach.l1 k F S again ((i + 1 : Nat) : Int) N l) r ∧ R r := fun k1 k2 => by
      refine ih (i + 1) S again (by omega) (by omega) hS (ha.imp id fun h => ⟨h.1, h.2.1, fun j hj => ?_⟩)
      by_cases e : j = i
      · subst e; exact ⟨fun x y z => k1 ⟨x, y, z⟩, fun x y z => k2 ⟨x, y, z⟩⟩
      · exact h.2.2 j (by omega)
    have hn : cf S ≤ n := by rcases ha with h | h <;> omega
    cases c0 : rdOf false S (rd_T41 l i).f0
    · cases c1 : rdOf false S (rd_T41 l i).f1
      · obtain ⟨r, h1, h2⟩ := keep (fun h => by rw [c0] at h; cases h.1) (fun h => by rw [c1] at h; cases h.1)
        refine ⟨r, Ev.step (f := fun k => billetref05_Reach.j3 k F S again (i : Int) false N l (rd_T41 l i).f0 (rd_T41 l i).f1 (rd_T41 l i).f2) (fun k => ?_) (Ev.step (fun k => ?_) h1), h2⟩
        · simp only [billetref05_Reach.l1]; rw [if_pos i0, if_pos i1, if_pos i2, if_pos a.1, if_pos f0, c0, if_neg (by simp)]
        · simp only [billetref05_Reach.j3]; rw [if_neg (by simp), if_pos b.1, if_pos f1, c1, if_neg (by simp), ew0 trivial]
      · by_cases c2 : 0 < rd F i
        · obtain ⟨w1, w2⟩ := hS.set hs a c0 (Rch.step (hS.sound _ b.1 b.2 c1) (i := i) ⟨by show i < l.length; omega, .inr ⟨rfl, rfl, c2⟩⟩)
          obtain ⟨r, h1, h2⟩ := ih (i + 1) _ true (by omega) (by omega) w1 (.inl ⟨rfl, by omega⟩)
          refine ⟨r, Ev.step (f := fun k => billetref05_Reach.j3 k F S again (i : Int) false N l (rd_T41 l i).f0 (rd_T41 l i).f1 (rd_T41 l i).f2) (fun k => ?_) (Ev.step (fun k => ?_) h1), h2⟩
          · simp only [billetref05_Reach.l1]; rw [if_pos i0, if_pos i1, if_pos i2, if_pos a.1, if_pos f0, c0, if_neg (by simp)]
          · simp only [billetref05_Reach.j3]; rw [if_neg (by simp), if_pos b.1, if_pos f1, c1, if_pos rfl, if_pos a.1, if_pos f0, c0, if_neg (by simp), if_pos i1, if_pos i0, if_pos c2, ew0 trivial]
        · obtain ⟨r, h1, h2⟩ := keep (fun h => by rw [c0] at h; cases h.1) (fun h => c2 h.2.2)
          refine ⟨r, Ev.step (f := fun k => billetref05_Reach.j3 k F S again (i : Int) false N l (rd_T41 l i).f0 (rd_T41 l i).f1 (rd_T41 l i).f2) (fun k => ?_) (Ev.step (fun k => ?_) h1), h2⟩
          · simp only [billetref05_Reach.l1]; rw [if_pos i0, if_pos i1, if_pos i2, if_pos a.1, if_pos f0, c0, if_neg (by simp)]
          · simp only [billetref05_Reach.j3]; rw [if_neg (by simp), if_pos b.1, if_pos f1, c1, if_pos rfl, if_pos a.1, if_pos f0, c0, if_neg (by simp), if_pos i1, if_pos i0, if_neg c2, ew0 trivial]
    · cases c1 : rdOf false S (rd_T41 l i).f1
      · by_cases c2 : rd F i < (rd_T41 l i).f2
        · obtain ⟨w1, w2⟩ := hS.set hs b c1 (Rch.step (hS.sound _ a.1 a.2 c0) (i := i) ⟨by show i < l.length; omega, .inl ⟨rfl, rfl, c2⟩⟩)
          obtain ⟨r, h1, h2⟩ := ih (i + 1) _ true (by omega) (by omega) w1 (.inl ⟨rfl, by omega⟩)
          have s1 : rdOf false (S.set (rd_T41 l i).f1.toNat true) (rd_T41 l i).f1 = true := by rw [rdO_set b.1 f1, if_pos rfl]
          have s0 : rdOf false (S.set (rd_T41 l i).f1.toNat true) (rd_T41 l i).f0 = true := by rw [rdO_set a.1 f0, c0]; simp
          refine ⟨r, Ev.step (f := fun k => billetref05_Reach.j3 k F S again (i : Int) true N l (rd_T41 l i).f0 (rd_T41 l i).f1 (rd_T41 l i).f2) (fun k => ?_) (Ev.step (fun k => ?_) h1), h2⟩
          · simp only [billetref05_Reach.l1]; rw [if_pos i0, if_pos i1, if_pos i2, if_pos a.1, if_pos f0, c0, if_pos rfl, if_pos b.1, if_pos f1, c1, if_neg (by simp), decide_eq_true c2]
          · simp only [billetref05_Reach.j3]; rw [if_pos trivial, if_pos b.1, if_pos f1, Option.bind_some, s1, if_pos rfl, if_pos a.1, if_pos f0, s0, if_pos rfl, ew0 trivial]
        · obtain ⟨r, h1, h2⟩ := keep (fun h => c2 h.2.2) (fun h => by rw [c1] at h; cases h.1)
          refine ⟨r, Ev.step (f := fun k => billetref05_Reach.j3 k F S again (i : Int) false N l (rd_T41 l i).f0 (rd_T41 l i).f1 (rd_T41 l i).f2) (fun k => ?_) (Ev.step (fun k => ?_) h1), h2⟩
          · simp only [billetref05_Reach.l1]; rw [if_pos i0, if_pos i1, if_pos i2, if_pos a.1, if_pos f0, c0, if_pos rfl, if_pos b.1, if_pos f1, c1, if_neg (by simp), decide_eq_false c2]
          · simp only [billetref05_Reach.j3]; rw [if_neg (by simp), if_pos b.1, if_pos f1, c1, if_neg (by simp), ew0 trivial]
      · obtain ⟨r, h1, h2⟩ := keep (fun h => by rw [c1] at h; cases h.2.1) (fun h => by rw [c0] at h; cases h.2.1)
        refine ⟨r, Ev.step (f := fun k => billetref05_Reach.j3 k F S again (i : Int) false N l (rd_T41 l i).f0 (rd_T41 l i).f1 (rd_T41 l i).f2) (fun k => ?_) (Ev.step (fun k => ?_) h1), h2⟩
        · simp only [billetref05_Reach.l1]; rw [if_pos i0, if_pos i1, if_pos i2, if_pos a.1, if_pos f0, c0, if_pos rfl, if_pos b.1, if_pos f1, c1, if_pos rfl]
        · simp only [billetref05_Reach.j3]; rw [if_neg (by simp), if_pos b.1, if_pos f1, c1, if_pos rfl, if_pos a.1, if_pos f0, c0, if_pos rfl, ew0 trivial]
theorem reach_loop {N : Int} {l : List S41} {F : List Int} {s : Int} (hf : FitsP N l F) (hs : 0 ≤ s ∧ s < N) (n : Nat) : ∀ S, cf S ≤ n → RInv N l F s S → ∃ r, Ev (fun k => billetref05_Reach.l0 k F S true N l) r ∧ RTold N l F s r := by
  induction n with
  | zero =>
    intro S hn hS
    obtain ⟨r, h1, h2⟩ := pass_ev hf hs 0 (R := RTold N l F s) (fun S again hS ha => by
      rcases ha with h | ⟨rfl, hc⟩
      · omega
      · exact ⟨S, Ev.step (f := fun _ => some S) (fun k => by simp only [billetref05_Reach.l0]; rw [if_neg (by simp)]) (Ev.now _), hS.told hf.net hs hc⟩) l.length 0 S false (by omega) (by omega) hS (.inr ⟨rfl, hn, fun j hj => by omega⟩)
    exact ⟨r, Ev.step (fun k => by simp only [billetref05_Reach.l0]; rfl) h1, h2⟩
  | succ n ih =>
    intro S hn hS
    obtain ⟨r, h1, h2⟩ := pass_ev hf hs (n + 1) (R := RTold N l F s) (fun S again hS ha => by
      rcases ha with ⟨rfl, h⟩ | ⟨rfl, hc⟩
      · exact ih S (by omega) hS
      · exact ⟨S, Ev.step (f := fun _ => some S) (fun k => by simp only [billetref05_Reach.l0]; rw [if_neg (by simp)]) (Ev.now _), hS.told hf.net hs hc⟩) l.length 0 S false (by omega) (by omega) hS (.inr ⟨rfl, hn, fun j hj => by omega⟩)
    exact ⟨r, Ev.step (fun k => by simp only [billetref05_Reach.l0]; rfl) h1, h2⟩
theorem reach_ev {N : Int} {l : List S41} {F : List Int} {s : Int} (hf : FitsP N l F) (hs : 0 ≤ s ∧ s < N) : ∃ S, Ev (fun k => billetref05_Reach.f k N l F s) S ∧ RTold N l F s S := by
  have n0 := hf.net.n0
  have n1 := hf.net.n1
  have h0 : RInv N l F s ((List.replicate N.toNat false).set s.toNat true) := by
    have hl : ((List.replicate N.toNat false).length : Int) = N := by simp; omega
    refine ⟨by rw [List.length_set]; exact hl, by rw [rdO_set hs.1 (by omega), if_pos rfl], fun v h0 h1 hv => ?_⟩
    rw [rdO_set h0 (by omega)] at hv
    by_cases c : v.toNat = s.toNat
    · rw [c]; exact .base
    · rw [if_neg c, rdO h0 (by omega)] at hv; simp at hv
  obtain ⟨r, h1, h2⟩ := reach_loop hf hs _ _ (Nat.le_refl _) h0
  refine ⟨r, Ev.bind (fits_true hf) (Ev.congr (f := fun k => billetref05_Reach.j0 k F s false N l) (fun k => ?_) (Ev.step (fun k => ?_) h1)), h2⟩
  · rw [if_pos rfl, if_neg (by omega), decide_eq_false (by omega)]
  · simp only [billetref05_Reach.j0]
    rw [if_neg (by simp), if_pos (show 0 ≤ N by omega), if_pos (show N.toNat ≤ 281474976710656 by omega), Option.bind_some, if_pos hs.1, if_pos (by simp; omega)]
#print axioms reach_ev
#print axioms cut_ev
#print axioms good_true
end Go.Proofs.Ytfmfojogcghkkaa.Rf
