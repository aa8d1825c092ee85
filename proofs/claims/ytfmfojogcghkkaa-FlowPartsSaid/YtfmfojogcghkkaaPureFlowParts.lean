/- FlowParts in plain terms. -/
import Derived.Test.YtfmfojogcghkkaaFm
import Derived.Test.YtfmfojogcghkkaaPx45
namespace Go.Proofs.Ytfmfojogcghkkaa.Pp2
open Go.RowKit Go.Proofs.Ytfmfojogcghkkaa.P Go.Proofs.YtfmfojogcghkkaaW.PrintWords Go.Proofs.YtfmfojogcghkkaaW.PrintLast
open Go.Proofs.Ytfmfojogcghkkaa.Fl Go.Proofs.Ytfmfojogcghkkaa.Bf Go.Proofs.Ytfmfojogcghkkaa.Pp Go.Proofs.Ytfmfojogcghkkaa.Gp Go.Proofs.Ytfmfojogcghkkaa.Fw Go.Proofs.Ytfmfojogcghkkaa.Fm

theorem sm_shift (g : Nat → Int) : ∀ n : Nat, sm g (n + 1) = g 0 + sm (fun i => g (i + 1)) n
  | 0 => by simp [sm]
  | n + 1 => by
    have := sm_shift g n
    have e : sm g (n + 2) = sm g (n + 1) + g (n + 1) := rfl
    rw [e, this]; simp only [sm]; omega
theorem sm_rev (g : Nat → Int) : ∀ n : Nat, sm (fun q => g (n - 1 - q)) n = sm g n
  | 0 => rfl
  | n + 1 => by
    rw [sm_shift]
    have h1 := sm_rev g n
    have h2 : sm (fun i => g (n + 1 - 1 - (i + 1))) n = sm (fun q => g (n - 1 - q)) n := sm_congr fun i hi => by rw [show n + 1 - 1 - (i + 1) = n - 1 - i by omega]
    rw [h2, h1]
    simp only [sm, Nat.add_sub_cancel, Nat.sub_zero]; omega

/-- The edges of the parted network, but the first. -/
def pE (l : List S41) (kk : Nat) (c : Int) (i : Nat) : S41 := ⟨(rd_T41 l i).f0, (rd_T41 l i).f1, if i = kk then (rd_T41 l i).f2 - c else (rd_T41 l i).f2⟩
def pm (l : List S41) (kk : Nat) (c : Int) (p : Nat) : List S41 := ⟨(rd_T41 l kk).f0, (rd_T41 l kk).f1, c⟩ :: (List.range p).map fun q => pE l kk c (l.length - 1 - q)
theorem pm_len (l : List S41) (kk : Nat) (c : Int) (p : Nat) : (pm l kk c p).length = p + 1 := by simp [pm]
theorem pm_0 (l : List S41) (kk : Nat) (c : Int) (p : Nat) : rd_T41 (pm l kk c p) ((0 : Nat) : Int) = ⟨(rd_T41 l kk).f0, (rd_T41 l kk).f1, c⟩ := by
  rw [rdE (by rw [pm_len]; omega)]; rfl
theorem pm_S (l : List S41) (kk : Nat) (c : Int) {p q : Nat} (hq : q < p) : rd_T41 (pm l kk c p) ((q + 1 : Nat) : Int) = pE l kk c (l.length - 1 - q) := by
  rw [rdE (by rw [pm_len]; omega)]; simp [pm]
theorem pm_net {N : Int} {l : List S41} {kk : Nat} {c : Int} (h : FitOk N l) (hl : l.length ≤ 39) (hk : kk < l.length) (h0 : 0 ≤ c) (h1 : c ≤ (rd_T41 l kk).f2) : NetOk N (pm l kk c l.length) := by
  have hn := h.n1
  refine ⟨h.n0, by omega, by rw [pm_len]; omega, fun i hi => ?_, fun i hi => ?_⟩
  · rw [pm_len] at hi
    rcases i with _ | q
    · rw [pm_0]; exact h.ends kk hk
    · rw [pm_S _ _ _ (by omega)]; exact h.ends (l.length - 1 - q) (by omega)
  · rw [pm_len] at hi
    rcases i with _ | q
    · rw [pm_0]; have := h.cap kk hk; show 0 ≤ c ∧ c ≤ 1000; omega
    · rw [pm_S _ _ _ (by omega)]
      have := h.cap (l.length - 1 - q) (by omega)
      unfold pE
      by_cases e : l.length - 1 - q = kk
      · rw [e] at this ⊢; simp only [if_true]; omega
      · simp only [e, if_false]; omega
theorem pm_bal {N : Int} {l : List S41} {kk : Nat} {c : Int} (hk : kk < l.length) (f g : Nat → Int) (hfg : ∀ i, i < l.length → f i = (if i = kk then g 0 else 0) + g (l.length - i)) (v : Nat) :
    bal (nw N (pm l kk c l.length)) g v = bal (nw N l) f v := by
  have eD : bal (nw N l) f v = sm (fun i => if i = kk then ((if (rd_T41 l kk).f0.toNat = v then g 0 else 0) - (if (rd_T41 l kk).f1.toNat = v then g 0 else 0)) else 0) l.length
      + sm (fun i => (if (rd_T41 l i).f0.toNat = v then g (l.length - i) else 0) - (if (rd_T41 l i).f1.toNat = v then g (l.length - i) else 0)) l.length := by
    rw [← sm_add]
    refine sm_congr fun i hi => ?_
    show (if (rd_T41 l i).f0.toNat = v then f i else 0) - (if (rd_T41 l i).f1.toNat = v then f i else 0) = _
    rw [hfg i hi]
    by_cases e : i = kk
    · subst e
      rw [if_pos rfl, if_pos rfl]
      split <;> split <;> omega
    · rw [if_neg e, if_neg e]
      split <;> split <;> omega
  rw [eD, sm_one, if_pos hk]
  unfold bal
  show sm _ (pm l kk c l.length).length = _
  rw [pm_len, sm_shift]
  have e0 : ((if (nw N (pm l kk c l.length)).src 0 = v then g 0 else 0) - (if (nw N (pm l kk c l.length)).dst 0 = v then g 0 else 0)) = ((if (rd_T41 l kk).f0.toNat = v then g 0 else 0) - (if (rd_T41 l kk).f1.toNat = v then g 0 else 0)) := by
    show (if (rd_T41 (pm l kk c l.length) ((0 : Nat) : Int)).f0.toNat = v then g 0 else 0) - (if (rd_T41 (pm l kk c l.length) ((0 : Nat) : Int)).f1.toNat = v then g 0 else 0) = _
    rw [pm_0]
  rw [e0]
  congr 1
  rw [← sm_rev (fun i => (if (rd_T41 l i).f0.toNat = v then g (l.length - i) else 0) - (if (rd_T41 l i).f1.toNat = v then g (l.length - i) else 0)) l.length]
  refine sm_congr fun q hq => ?_
  show (if (rd_T41 (pm l kk c l.length) ((q + 1 : Nat) : Int)).f0.toNat = v then g (q + 1) else 0) - (if (rd_T41 (pm l kk c l.length) ((q + 1 : Nat) : Int)).f1.toNat = v then g (q + 1) else 0) = _
  rw [pm_S _ _ _ hq, show l.length - (l.length - 1 - q) = q + 1 by omega]
  rfl

theorem loop_ev {N : Int} {l : List S41} {kk : Nat} {c : Int} (hlen : l.length ≤ 40) (hc0 : 0 ≤ c) (hc1 : c ≤ (rd_T41 l kk).f2) (hc2 : (rd_T41 l kk).f2 ≤ 9) {r : Bool}
    (he : Ev (fun k => (flow_Max.f k N l 0 1).bind fun bt849 => ((flow_Max.f k N (pm l kk c l.length) 0 1).bind fun bt854 => (if bt849.2.2 = 0 then (if bt854.2.2 = 0 then (some (bt849.2.1 == bt854.2.1)) else (some false)) else (some false)))) r) (d : Nat) : ∀ p : Nat, p ≤ l.length → l.length - p = d →
    Ev (fun k => billetlaw06_FlowParts.l0 k true (kk : Int) c ((l.length : Int) - 1 - p) N l (rd_T41 l kk).f0 (rd_T41 l kk).f1 (rd_T41 l kk).f2 N (pm l kk c p)) r := by
  induction d with
  | zero =>
    intro p hp hd
    obtain rfl : p = l.length := by omega
    refine Ev.step (fun k => ?_) he
    simp only [billetlaw06_FlowParts.l0]
    rw [if_neg (by omega)]; simp only [if_true]
  | succ d ih =>
    intro p hp hd
    have h2 := ih (p + 1) (by omega) (by omega)
    have e : pm l kk c (p + 1) = pm l kk c p ++ [pE l kk c (l.length - 1 - p)] := by unfold pm; rw [List.range_succ, List.map_append]; rfl
    have hl : (pm l kk c p).length < 5864062014805 := by rw [pm_len]; omega
    rw [e] at h2
    obtain ⟨i, hi⟩ : ∃ i : Nat, l.length - 1 - p = i := ⟨_, rfl⟩
    have e1 : (l.length : Int) - 1 - (p : Int) = (i : Int) := by omega
    have e2 : (l.length : Int) - 1 - ((p + 1 : Nat) : Int) = (i : Int) - 1 := by omega
    have e3 : i < l.length := by omega
    rw [hi, e2] at h2
    rw [e1]
    refine Ev.step (fun k => ?_) h2
    simp only [billetlaw06_FlowParts.l0]
    rw [if_pos (by omega), if_pos (by omega), if_pos (by omega), w64 (n := (i : Int) - 1) (by omega) (by omega), w64 (n := (rd_T41 l kk).f2 - c) (by omega) (by omega)]
    unfold pE
    by_cases c1 : i = kk
    · rw [if_pos (by omega), if_pos hl, if_pos c1]
      subst c1; rfl
    · rw [if_neg (by omega), if_pos hl, if_neg c1]
theorem bal_none (N : Int) (f : Nat → Int) (v : Nat) : bal (nw N []) f v = 0 := rfl

theorem parts {a0 : Int} {l0 : List S41} {a1 a2 : Int} (h0 : I64 a0) (hl : ∀ x ∈ l0, Sz x) (h1 : I64 a1) (h2 : I64 a2) : Ev (fun k => billetlaw06_FlowParts.f k a0 l0 a1 a2) true := by
  have hmn : 0 ≤ mn (l0.length : Int) 39 ∧ mn (l0.length : Int) 39 ≤ (l0.length : Int) ∧ mn (l0.length : Int) 39 ≤ 39 := by
    have := mn_le (l0.length : Int) 39; omega
  have hl' : ∀ x ∈ l0.take (mn (l0.length : Int) 39).toNat, Sz x := fun x hx => hl x (List.mem_of_mem_take hx)
  have hf := fit_ok (fitN_bd a0).1 (fitN_bd a0).2 (l0.take (mn (l0.length : Int) 39).toNat)
  have ef := fit_ev h0 hl'
  have h39 : (fitL (fitN a0) (l0.take (mn (l0.length : Int) 39).toNat)).length ≤ 39 := by unfold fitL; simp; omega
  generalize fitN a0 = N at hf ef h39
  generalize fitL N (l0.take (mn (l0.length : Int) 39).toNat) = l at hf ef h39
  have n0 := hf.n0
  have n1 := hf.n1
  obtain ⟨F, v, e1, g1, b1, _, r1⟩ := max_ev hf.net (s := 0) (t := 1) (by omega) (by omega) (by omega)
  have z0 : (0 : Int).toNat = 0 := rfl
  have z1 : (1 : Int).toNat = 1 := rfl
  rw [z0] at b1
  refine Ev.bind awake_ev ?_
  by_cases hz : l.length = 0
  · obtain rfl : l = [] := List.eq_nil_of_length_eq_zero hz
    have hv : v = 0 := by rw [← b1]; rfl
    refine Ev.congr (f := fun k => (billetlaw05_Fit.f k a0 (l0.take (mn (l0.length : Int) 39).toNat)).bind fun bt823 => (if (bt823.2.length : Int) = 0 then ((flow_Max.f k bt823.1 bt823.2 0 1).bind fun bt828 => (if true = true then (if bt828.2.2 = 0 then (some (bt828.2.1 == 0)) else (some false)) else (some false))) else ((billetlaw06_pick.f a1 (bt823.2.length : Int)).bind fun t833 => (if 0 ≤ t833 then (if t833 < (bt823.2.length : Int) then ((billetlaw06_pick.f a2 (wrap64 (((rd_T41 bt823.2 t833).f2) + 1))).bind fun t836 => (billetlaw06_FlowParts.l0 k true t833 t836 (wrap64 ((bt823.2.length : Int) - 1)) bt823.1 bt823.2 ((rd_T41 bt823.2 t833).f0) ((rd_T41 bt823.2 t833).f1) ((rd_T41 bt823.2 t833).f2) bt823.1 (([(⟨(rd_T41 bt823.2 t833).f0, (rd_T41 bt823.2 t833).f1, t836⟩ : S41)] : List (S41))))) else (none)) else (none))))) (fun k => ?_) (Ev.bind ef (Ev.congr (f := fun k => (flow_Max.f k N [] 0 1).bind fun bt828 => (if true = true then (if bt828.2.2 = 0 then (some (bt828.2.1 == 0)) else (some false)) else (some false))) (fun k => ?_) (Ev.bind e1 (Ev.congr (fun k => ?_) (Ev.now _)))))
    · rw [if_pos hmn.1, if_pos hmn.2.1]
    · rw [if_pos (by simp)]
    · rw [if_pos rfl, if_pos rfl, hv]; rfl
  · have bk := pk_bd a1 (n := (l.length : Int)) (by omega)
    have pk1 := pick6 h1 (n := (l.length : Int)) (by omega)
    generalize pk a1 (l.length : Int) = kz at bk pk1
    obtain ⟨kk, rfl⟩ : ∃ kk : Nat, kz = kk := ⟨kz.toNat, by omega⟩
    have hk : kk < l.length := by omega
    have hcap := hf.cap kk hk
    have bc := pk_bd a2 (n := (rd_T41 l kk).f2 + 1) (by omega)
    have pk2 := pick6 h2 (n := (rd_T41 l kk).f2 + 1) (by omega)
    generalize pk a2 ((rd_T41 l kk).f2 + 1) = c at bc pk2
    have hN2 := pm_net hf h39 hk bc.1 (c := c) (by omega)
    obtain ⟨H, w, e2, g2, b2, _, r2⟩ := max_ev hN2 (s := 0) (t := 1) (by omega) (by omega) (by omega)
    rw [z0] at b2
    have key : v = w := by
      -- from the flow of the one to one of the other
      have hfk : 0 ≤ fl F kk ∧ fl F kk ≤ (rd_T41 l kk).f2 := g1.good.fits kk hk
      have A : Fl.Good (nw N (pm l kk c l.length)) (fun j => if j = 0 then (if fl F kk ≤ c then fl F kk else c) else if l.length - j = kk then fl F kk - (if fl F kk ≤ c then fl F kk else c) else fl F (l.length - j)) 0 1 ∧
          bal (nw N (pm l kk c l.length)) (fun j => if j = 0 then (if fl F kk ≤ c then fl F kk else c) else if l.length - j = kk then fl F kk - (if fl F kk ≤ c then fl F kk else c) else fl F (l.length - j)) 0 = v := by
        have hb := pm_bal (N := N) (c := c) hk (fl F) (fun j => if j = 0 then (if fl F kk ≤ c then fl F kk else c) else if l.length - j = kk then fl F kk - (if fl F kk ≤ c then fl F kk else c) else fl F (l.length - j)) (fun i hi => by
          simp only []
          rw [if_neg (show ¬ l.length - i = 0 by omega), show l.length - (l.length - i) = i by omega]
          by_cases e : i = kk
          · subst e; rw [if_pos rfl, if_pos rfl]; simp only [if_true]; omega
          · rw [if_neg e, if_neg e]; omega)
        refine ⟨⟨hN2.ok, fun j hj => ?_, ?_, ?_, by omega, fun u hu h3 h4 => ?_⟩, (hb 0).trans b1⟩
        · have hj : j < (pm l kk c l.length).length := hj
          rw [pm_len] at hj
          rcases j with _ | q
          · show 0 ≤ (if (0 : Nat) = 0 then _ else _) ∧ (if (0 : Nat) = 0 then _ else _) ≤ (rd_T41 (pm l kk c l.length) ((0 : Nat) : Int)).f2
            rw [pm_0, if_pos rfl]
            show _ ∧ _ ≤ c
            split <;> omega
          · show 0 ≤ (if q + 1 = 0 then _ else _) ∧ (if q + 1 = 0 then _ else _) ≤ (rd_T41 (pm l kk c l.length) ((q + 1 : Nat) : Int)).f2
            rw [pm_S _ _ _ (by omega), if_neg (by omega), show l.length - (q + 1) = l.length - 1 - q by omega]
            unfold pE
            dsimp only
            by_cases e : l.length - 1 - q = kk
            · rw [if_pos e, if_pos e, e]; split <;> omega
            · rw [if_neg e, if_neg e]; exact g1.good.fits _ (by show l.length - 1 - q < l.length; omega)
        · show 0 < N.toNat; omega
        · show 1 < N.toNat; omega
        · rw [hb u]; exact g1.good.bal u hu h3 h4
      have B : Fl.Good (nw N l) (fun i => (if i = kk then fl H 0 else 0) + fl H (l.length - i)) 0 1 ∧ bal (nw N l) (fun i => (if i = kk then fl H 0 else 0) + fl H (l.length - i)) 0 = w := by
        have hb := pm_bal (N := N) (c := c) hk (fun i => (if i = kk then fl H 0 else 0) + fl H (l.length - i)) (fl H) (fun i hi => rfl)
        have hx : ∀ j : Nat, j < l.length + 1 → 0 ≤ fl H j ∧ fl H j ≤ (rd_T41 (pm l kk c l.length) (j : Int)).f2 := fun j hj => g2.good.fits j (by show j < (pm l kk c l.length).length; rw [pm_len]; exact hj)
        refine ⟨⟨hf.net.ok, fun i hi => ?_, ?_, ?_, by omega, fun u hu h3 h4 => ?_⟩, (hb 0).symm.trans b2⟩
        · have hi : i < l.length := hi
          have y0 := hx 0 (by omega)
          have y1 := hx (l.length - 1 - i + 1) (by omega)
          rw [pm_0] at y0
          rw [pm_S _ _ _ (by omega), show l.length - 1 - (l.length - 1 - i) = i by omega, show l.length - 1 - i + 1 = l.length - i by omega] at y1
          have y0 : 0 ≤ fl H 0 ∧ fl H 0 ≤ c := y0
          show 0 ≤ (if i = kk then fl H 0 else 0) + fl H (l.length - i) ∧ (if i = kk then fl H 0 else 0) + fl H (l.length - i) ≤ (rd_T41 l i).f2
          unfold pE at y1
          by_cases e : i = kk
          · simp only [e, if_true] at y1 ⊢; omega
          · simp only [e, if_false] at y1 ⊢; omega
        · show 0 < N.toNat; omega
        · show 1 < N.toNat; omega
        · rw [← hb u]; exact g2.good.bal u (by exact hu) h3 h4
      have k1 := reach_most g2.good A.1 r2
      have k2 := reach_most g1.good B.1 r1
      rw [z0] at k1 k2
      rw [A.2, b2] at k1
      rw [B.2, b1] at k2
      omega
    have eL := loop_ev (N := N) (kk := kk) (c := c) (r := true) hf.len bc.1 (by omega) hcap.2 (Ev.bind e1 (Ev.bind (f := fun _ bt854 => (if ((F, v, (0 : Int)) : List Int × Int × Int).2.2 = 0 then (if bt854.2.2 = 0 then (some (v == bt854.2.1)) else (some false)) else (some false))) e2 (Ev.congr (fun k => by rw [if_pos rfl, if_pos rfl, key]; simp) (Ev.now true)))) l.length 0 (by omega) (by omega)
    have ew : (∀ _ : True, wrap64 ((l.length : Int) - 1) = (l.length : Int) - 1 - ((0 : Nat) : Int)) := fun _ => by rw [w64 (by omega) (by omega)]; omega
    have ew2 : (∀ _ : True, wrap64 ((rd_T41 l kk).f2 + 1) = (rd_T41 l kk).f2 + 1) := fun _ => w64 (by omega) (by omega)
    refine Ev.congr (f := fun k => (billetlaw05_Fit.f k a0 (l0.take (mn (l0.length : Int) 39).toNat)).bind fun bt823 => (if (bt823.2.length : Int) = 0 then ((flow_Max.f k bt823.1 bt823.2 0 1).bind fun bt828 => (if true = true then (if bt828.2.2 = 0 then (some (bt828.2.1 == 0)) else (some false)) else (some false))) else ((billetlaw06_pick.f a1 (bt823.2.length : Int)).bind fun t833 => (if 0 ≤ t833 then (if t833 < (bt823.2.length : Int) then ((billetlaw06_pick.f a2 (wrap64 (((rd_T41 bt823.2 t833).f2) + 1))).bind fun t836 => (billetlaw06_FlowParts.l0 k true t833 t836 (wrap64 ((bt823.2.length : Int) - 1)) bt823.1 bt823.2 ((rd_T41 bt823.2 t833).f0) ((rd_T41 bt823.2 t833).f1) ((rd_T41 bt823.2 t833).f2) bt823.1 (([(⟨(rd_T41 bt823.2 t833).f0, (rd_T41 bt823.2 t833).f1, t836⟩ : S41)] : List (S41))))) else (none)) else (none))))) (fun k => ?_) (Ev.bind ef (Ev.congr (f := fun k => (billetlaw06_pick.f a1 (l.length : Int)).bind fun t833 => (if 0 ≤ t833 then (if t833 < (l.length : Int) then ((billetlaw06_pick.f a2 (wrap64 (((rd_T41 l t833).f2) + 1))).bind fun t836 => (billetlaw06_FlowParts.l0 k true t833 t836 (wrap64 ((l.length : Int) - 1)) N l ((rd_T41 l t833).f0) ((rd_T41 l t833).f1) ((rd_T41 l t833).f2) N (([(⟨(rd_T41 l t833).f0, (rd_T41 l t833).f1, t836⟩ : S41)] : List (S41))))) else (none)) else (none))) (fun k => ?_) (Ev.bind pk1 (Ev.congr (f := fun k => (billetlaw06_pick.f a2 ((rd_T41 l kk).f2 + 1)).bind fun t836 => (billetlaw06_FlowParts.l0 k true (kk : Int) t836 ((l.length : Int) - 1 - ((0 : Nat) : Int)) N l ((rd_T41 l kk).f0) ((rd_T41 l kk).f1) ((rd_T41 l kk).f2) N (([(⟨(rd_T41 l kk).f0, (rd_T41 l kk).f1, t836⟩ : S41)] : List (S41))))) (fun k => ?_) (Ev.bind pk2 eL)))))
    · rw [if_pos hmn.1, if_pos hmn.2.1]
    · rw [if_neg (show ¬ ((l.length : Int) = 0) by omega)]
    · rw [if_pos bk.1, if_pos bk.2, ew2 trivial, ew trivial]
#print axioms parts
end Go.Proofs.Ytfmfojogcghkkaa.Pp2
