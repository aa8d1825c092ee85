/- ShareRoom, over lists and numbers alone. -/
import Derived.Test.YtpdgdogcfmfakaaPx23
import Derived.Test.YtpdgdogcfmfakaaSh
namespace Go.Proofs.Ytpdgdogcfmfakaa.Pure
open Go.RowKit Go.Proofs.Ytpdgdogcfmfakaa.P Go.Proofs.YtpdgdogcfmfakaaW.PrintWords Go.Proofs.YtpdgdogcfmfakaaW.PrintLast
open Go.Proofs.Ytpdgdogcfmfakaa.Sh

/-- What one cell takes of the room: no more than it lacks. -/
def tk (d r : Int) : Int := if d < r then d else r
/-- What one cell lacks. -/
def lk (h t : Int) : Int := if h < 0 then 0 else if t ≤ h then 0 else t - h
theorem lk_bd {h t : Int} (ht : 0 ≤ t) (ht1 : t ≤ 100) : 0 ≤ lk h t ∧ lk h t ≤ 100 := by unfold lk; split <;> (try split) <;> omega
theorem lk_mono {h n t : Int} (hn : h ≤ n) (h0 : h < 0 → n = h) : lk n t ≤ lk h t := by
  unfold lk; split <;> split <;> (try split) <;> (try split) <;> omega
theorem tk_bd {d r : Int} (hd : 0 ≤ d) (hr : 0 ≤ r) : 0 ≤ tk d r ∧ tk d r ≤ d ∧ tk d r ≤ r := by unfold tk; split <;> omega
theorem tk_mono {d r s : Int} (h : r ≤ s) : tk d r ≤ tk d s ∧ r - tk d r ≤ s - tk d s := by unfold tk; split <;> split <;> omega
theorem tk_le {d e r s : Int} (h : r ≤ s) (g : e ≤ d) : tk e r ≤ tk d s := by unfold tk; split <;> split <;> omega
theorem tk_sum {d0 d1 d2 r : Int} (h1 : 0 ≤ d1) (h2 : 0 ≤ d2) : tk d0 r + tk d1 (r - tk d0 r) + tk d2 (r - tk d0 r - tk d1 (r - tk d0 r)) = tk (d0 + d1 + d2) r := by
  have e : ∀ d q : Int, (tk d q = d ∧ d < q) ∨ (tk d q = q ∧ q ≤ d) := by
    intro d q; unfold tk; split
    · exact .inl ⟨rfl, by omega⟩
    · exact .inr ⟨rfl, by omega⟩
  rcases e d0 r with ⟨a, a'⟩ | ⟨a, a'⟩ <;> rw [a] <;>
  rcases e d1 (r - d0) with ⟨b, b'⟩ | ⟨b, b'⟩ <;> (try rw [b]) <;>
  rcases e d2 (r - d0 - d1) with ⟨c, c'⟩ | ⟨c, c'⟩ <;> (try rw [c]) <;>
  rcases e (d0 + d1 + d2) r with ⟨f, f'⟩ | ⟨f, f'⟩ <;> rw [f] <;> (try omega) <;>
  (have g : ∀ d : Int, 0 ≤ d → tk d 0 = 0 := by
    intro d hd; unfold tk; split <;> omega) <;> simp [g, h1, h2] <;> (try omega)
  all_goals (first | omega | (rw [show r - d0 - (r - d0) = 0 by omega, g _ h2]; omega) | (rw [show r - r = 0 by omega, g _ h1]; simp [g _ h2]; omega))
theorem mx0_bd {h : Int} (h0 : -1 ≤ h) (h1 : h ≤ 100) : 0 ≤ mx 0 h ∧ mx 0 h ≤ 100 ∧ (0 ≤ h → mx 0 h = h) ∧ (h < 0 → mx 0 h = 0) := by unfold mx; split <;> omega
/-- One cell's part, as what it takes. -/
theorem stp_tk {h t r : Int} (hh : -1 ≤ h) (hh1 : h ≤ 100) (ht : 0 ≤ t) (ht1 : t ≤ 100) (hr : 0 ≤ r) :
    (stp h t r).2 = r - tk (lk h t) r ∧ (stp h t r).1 = if h < 0 then 0 else if t ≤ h then t else h + tk (lk h t) r := by
  obtain ⟨d, hd, q, g⟩ := stp_spec hh hh1 ht ht1 hr
  have e : d = lk h t := hd
  rw [e] at q g
  exact ⟨q, g⟩
theorem stp_gain {h t r : Int} (hh : -1 ≤ h) (hh1 : h ≤ 100) (ht : 0 ≤ t) (ht1 : t ≤ 100) (hr : 0 ≤ r) : mx 0 (wrap64 ((stp h t r).1 - mx 0 h)) = tk (lk h t) r := by
  obtain ⟨b0, b1, b2, b3⟩ := mx0_bd hh hh1
  have hl := lk_bd (h := h) ht ht1
  have hk := tk_bd (d := lk h t) hl.1 hr
  have z0 : lk h t = 0 → tk (lk h t) r = 0 := by omega
  rw [(stp_tk hh hh1 ht ht1 hr).2]
  by_cases c : h < 0
  · have e : lk h t = 0 := by unfold lk; rw [if_pos c]
    rw [if_pos c, b3 c, z0 e, w64 (by decide) (by decide)]; decide
  · by_cases c2 : t ≤ h
    · have e : lk h t = 0 := by unfold lk; rw [if_neg c, if_pos c2]
      rw [if_neg c, if_pos c2, b2 (by omega), z0 e, w64 (by omega) (by omega)]
      unfold mx; rw [if_neg (by omega)]
    · rw [if_neg c, if_neg c2, b2 (by omega)]
      generalize tk (lk h t) r = q at *
      rw [w64 (by omega) (by omega)]
      unfold mx; split <;> omega
theorem stp_more {h t r s : Int} (hh : -1 ≤ h) (hh1 : h ≤ 100) (ht : 0 ≤ t) (ht1 : t ≤ 100) (hr : 0 ≤ r) (hs : r ≤ s) : ¬ (stp h t s).1 < (stp h t r).1 := by
  rw [(stp_tk hh hh1 ht ht1 hr).2, (stp_tk hh hh1 ht ht1 (Int.le_trans hr hs)).2]
  have := tk_mono (d := lk h t) hs
  by_cases c : h < 0
  · rw [if_pos c, if_pos c]; omega
  · rw [if_neg c, if_neg c]
    by_cases c2 : t ≤ h
    · rw [if_pos c2, if_pos c2]; omega
    · rw [if_neg c2, if_neg c2]; omega

theorem room_round {x10 x12 x13 x14 x15 : List Int} {h a b n c p q : Int} (i : Nat) (hi : i < 3) (l0 : x10.length = 3) (l2 : x12.length = 3) (l3 : x13.length = 3) (l4 : x14.length = 3) (l5 : x15.length = 3)
    (r0 : rd x10 i = h) (r2 : rd x12 i = a) (r3 : rd x13 i = b) (r4 : rd x14 i = n) (r5 : rd x15 i = c) (hb : ¬ b < a) (ep : mx 0 (wrap64 (a - mx 0 h)) = p) (eq : mx 0 (wrap64 (c - mx 0 n)) = q)
    (x16 x17 : Int) (b6 : 0 ≤ x16 ∧ x16 ≤ 1000) (b7 : 0 ≤ x17 ∧ x17 ≤ 1000) (bp : 0 ≤ p ∧ p ≤ 100) (bq : 0 ≤ q ∧ q ≤ 100) (k : Nat) :
    billetlaw15_ShareRoom.l0 (k + 1) x10 x12 x13 x14 x15 x16 x17 (i : Int) = billetlaw15_ShareRoom.l0 k x10 x12 x13 x14 x15 (x16 + p) (x17 + q) ((i + 1 : Nat) : Int) := by
  have p1 : (i : Int) < 3 := by omega
  have p2 : 0 ≤ (i : Int) := by omega
  have p3 : (i : Int) < (x13.length : Int) := by omega
  have p4 : (i : Int) < (x12.length : Int) := by omega
  have p5 : (i : Int) < (x10.length : Int) := by omega
  have p6 : (i : Int) < (x15.length : Int) := by omega
  have p7 : (i : Int) < (x14.length : Int) := by omega
  have e3 : wrap64 ((i : Int) + 1) = ((i + 1 : Nat) : Int) := by rw [w64 (by omega) (by omega)]; omega
  have e1 : wrap64 (x16 + p) = x16 + p := w64 (by omega) (by omega)
  have e2 : wrap64 (x17 + q) = x17 + q := w64 (by omega) (by omega)
  simp only [billetlaw15_ShareRoom.l0, r0, r2, r3, r4, r5, ep, eq, e3, e1, e2]
  rw [if_pos p1, if_pos p2, if_pos p3, if_pos p4, if_neg hb, if_pos p5, if_pos p6, if_pos p7]

theorem len3' (x y z : Int) : (([x, y, z] : List Int).length : Int) = 3 := rfl

theorem room_main {w m h0 h1 h2 t0 t1 t2 n0 n1 n2 : Int} (hw : 0 ≤ w ∧ w ≤ 20) (hm : 0 ≤ m ∧ m ≤ 9) (bh : -1 ≤ h0 ∧ h0 ≤ 7 ∧ -1 ≤ h1 ∧ h1 ≤ 7 ∧ -1 ≤ h2 ∧ h2 ≤ 7) (bt : 0 ≤ t0 ∧ t0 ≤ 8 ∧ 0 ≤ t1 ∧ t1 ≤ 8 ∧ 0 ≤ t2 ∧ t2 ≤ 8)
    (c0 : h0 ≤ n0 ∧ n0 ≤ h0 + 9 ∧ (h0 < 0 → n0 = h0)) (c1 : h1 ≤ n1 ∧ n1 ≤ h1 + 9 ∧ (h1 < 0 → n1 = h1)) (c2 : h2 ≤ n2 ∧ n2 ≤ h2 + 9 ∧ (h2 < 0 → n2 = h2)) :
    Ev (fun k => billetlaw15_ShareRoom.j0 k w true [h0, h1, h2] [t0, t1, t2] (shareS w [h0, h1, h2] [t0, t1, t2]) (shareS (w + m) [h0, h1, h2] [t0, t1, t2]) [n0, n1, n2]) true := by
  have er := room3_spec (w := w) (h0 := h0) (h1 := h1) (h2 := h2) (by omega) (by omega) (by omega) (by omega) (by omega) (by omega) (by omega) (by omega)
  have es := room3_spec (w := w + m) (h0 := h0) (h1 := h1) (h2 := h2) (by omega) (by omega) (by omega) (by omega) (by omega) (by omega) (by omega) (by omega)
  have eq := room3_spec (w := w) (h0 := n0) (h1 := n1) (h2 := n2) (by omega) (by omega) (by omega) (by omega) (by omega) (by omega) (by omega) (by omega)
  have r0 : 0 ≤ room3 w h0 h1 h2 := by rw [er]; split <;> (try split) <;> omega
  have q0 : 0 ≤ room3 w n0 n1 n2 := by rw [eq]; split <;> (try split) <;> omega
  have rs : room3 w h0 h1 h2 ≤ room3 (w + m) h0 h1 h2 := by rw [er, es]; split <;> (try split) <;> (try split) <;> omega
  have qr : room3 w n0 n1 n2 ≤ room3 w h0 h1 h2 := by rw [er, eq]; split <;> split <;> (try split) <;> (try split) <;> omega
  clear er es eq
  rw [shareS3, shareS3]
  generalize room3 w h0 h1 h2 = r at *
  generalize room3 (w + m) h0 h1 h2 = s at *
  have D0 := lk_bd (h := h0) (t := t0) (by omega) (by omega)
  have D1 := lk_bd (h := h1) (t := t1) (by omega) (by omega)
  have D2 := lk_bd (h := h2) (t := t2) (by omega) (by omega)
  have E0 := lk_bd (h := n0) (t := t0) (by omega) (by omega)
  have E1 := lk_bd (h := n1) (t := t1) (by omega) (by omega)
  have E2 := lk_bd (h := n2) (t := t2) (by omega) (by omega)
  have F0 := lk_mono (t := t0) c0.1 c0.2.2
  have F1 := lk_mono (t := t1) c1.1 c1.2.2
  have F2 := lk_mono (t := t2) c2.1 c2.2.2
  -- what is left behind each cell
  have a1 : (stp h0 t0 r).2 = r - tk (lk h0 t0) r := (stp_tk (by omega) (by omega) (by omega) (by omega) r0).1
  have a1' : (stp h0 t0 s).2 = s - tk (lk h0 t0) s := (stp_tk (by omega) (by omega) (by omega) (by omega) (by omega)).1
  have T0 := tk_bd D0.1 r0
  have M0 := tk_mono (d := lk h0 t0) rs
  have a2 : (stp h1 t1 (r - tk (lk h0 t0) r)).2 = r - tk (lk h0 t0) r - tk (lk h1 t1) (r - tk (lk h0 t0) r) := (stp_tk (by omega) (by omega) (by omega) (by omega) (by omega)).1
  have a2' : (stp h1 t1 (s - tk (lk h0 t0) s)).2 = s - tk (lk h0 t0) s - tk (lk h1 t1) (s - tk (lk h0 t0) s) := (stp_tk (by omega) (by omega) (by omega) (by omega) (by omega)).1
  have T1 := tk_bd (r := r - tk (lk h0 t0) r) D1.1 (by omega)
  have M1 := tk_mono (d := lk h1 t1) M0.2
  have T2 := tk_bd (r := r - tk (lk h0 t0) r - tk (lk h1 t1) (r - tk (lk h0 t0) r)) D2.1 (by omega)
  rw [a1, a1', a2, a2']
  refine Ev.step (f := fun k => (share_Share.f k w [n0, n1, n2] [t0, t1, t2]).bind fun c => billetlaw15_ShareRoom.j1 k [h0, h1, h2] [(stp h0 t0 r).1, (stp h1 t1 (r - tk (lk h0 t0) r)).1, (stp h2 t2 (r - tk (lk h0 t0) r - tk (lk h1 t1) (r - tk (lk h0 t0) r))).1] [(stp h0 t0 s).1, (stp h1 t1 (s - tk (lk h0 t0) s)).1, (stp h2 t2 (s - tk (lk h0 t0) s - tk (lk h1 t1) (s - tk (lk h0 t0) s))).1] [n0, n1, n2] c ((c.length : Int) != 3)) (fun k => ?_) (Ev.bind (share_ev _ _ _) ?_)
  · simp only [billetlaw15_ShareRoom.j0, len3', ↓reduceIte]
  rw [shareS3]
  generalize room3 w n0 n1 n2 = q at *
  have U0 := tk_bd (d := lk n0 t0) E0.1 q0
  have b1 : (stp n0 t0 q).2 = q - tk (lk n0 t0) q := (stp_tk (by omega) (by omega) (by omega) (by omega) q0).1
  have b2 : (stp n1 t1 (q - tk (lk n0 t0) q)).2 = q - tk (lk n0 t0) q - tk (lk n1 t1) (q - tk (lk n0 t0) q) := (stp_tk (by omega) (by omega) (by omega) (by omega) (by omega)).1
  have U1 := tk_bd (d := lk n1 t1) (r := q - tk (lk n0 t0) q) E1.1 (by omega)
  have U2 := tk_bd (r := q - tk (lk n0 t0) q - tk (lk n1 t1) (q - tk (lk n0 t0) q)) E2.1 (by omega)
  have X := tk_sum (d0 := lk h0 t0) (r := r) D1.1 D2.1
  have Y := tk_sum (d0 := lk n0 t0) (r := q) E1.1 E2.1
  have Z : tk (lk n0 t0 + lk n1 t1 + lk n2 t2) q ≤ tk (lk h0 t0 + lk h1 t1 + lk h2 t2) r := tk_le qr (by omega)
  rw [b1, b2]
  have g0 := stp_more (h := h0) (t := t0) (by omega) (by omega) (by omega) (by omega) r0 rs
  have g1 := stp_more (h := h1) (t := t1) (by omega) (by omega) (by omega) (by omega) (by omega) M0.2
  have g2 := stp_more (h := h2) (t := t2) (by omega) (by omega) (by omega) (by omega) (by omega) M1.2
  have u0 := stp_gain (h := h0) (t := t0) (r := r) (by omega) (by omega) (by omega) (by omega) r0
  have u1 := stp_gain (h := h1) (t := t1) (r := r - tk (lk h0 t0) r) (by omega) (by omega) (by omega) (by omega) (by omega)
  have u2 := stp_gain (h := h2) (t := t2) (r := r - tk (lk h0 t0) r - tk (lk h1 t1) (r - tk (lk h0 t0) r)) (by omega) (by omega) (by omega) (by omega) (by omega)
  have v0 := stp_gain (h := n0) (t := t0) (r := q) (by omega) (by omega) (by omega) (by omega) q0
  have v1 := stp_gain (h := n1) (t := t1) (r := q - tk (lk n0 t0) q) (by omega) (by omega) (by omega) (by omega) (by omega)
  have v2 := stp_gain (h := n2) (t := t2) (r := q - tk (lk n0 t0) q - tk (lk n1 t1) (q - tk (lk n0 t0) q)) (by omega) (by omega) (by omega) (by omega) (by omega)
  clear a1 a1' a2 a2' b1 b2
  generalize (stp h0 t0 r).1 = A0 at *
  generalize (stp h1 t1 (r - tk (lk h0 t0) r)).1 = A1 at *
  generalize (stp h2 t2 (r - tk (lk h0 t0) r - tk (lk h1 t1) (r - tk (lk h0 t0) r))).1 = A2 at *
  generalize (stp h0 t0 s).1 = B0 at *
  generalize (stp h1 t1 (s - tk (lk h0 t0) s)).1 = B1 at *
  generalize (stp h2 t2 (s - tk (lk h0 t0) s - tk (lk h1 t1) (s - tk (lk h0 t0) s))).1 = B2 at *
  generalize (stp n0 t0 q).1 = C0 at *
  generalize (stp n1 t1 (q - tk (lk n0 t0) q)).1 = C1 at *
  generalize (stp n2 t2 (q - tk (lk n0 t0) q - tk (lk n1 t1) (q - tk (lk n0 t0) q))).1 = C2 at *
  generalize tk (lk h2 t2) (r - tk (lk h0 t0) r - tk (lk h1 t1) (r - tk (lk h0 t0) r)) = y2 at *
  generalize tk (lk h1 t1) (r - tk (lk h0 t0) r) = y1 at *
  generalize tk (lk h0 t0) r = y0 at *
  generalize tk (lk n2 t2) (q - tk (lk n0 t0) q - tk (lk n1 t1) (q - tk (lk n0 t0) q)) = z2 at *
  generalize tk (lk n1 t1) (q - tk (lk n0 t0) q) = z1 at *
  generalize tk (lk n0 t0) q = z0 at *
  generalize tk (lk n0 t0 + lk n1 t1 + lk n2 t2) q = zs at *
  generalize tk (lk h0 t0 + lk h1 t1 + lk h2 t2) r = ys at *
  have Y0 : 0 ≤ y0 ∧ y0 ≤ 100 := by omega
  have Y1 : 0 ≤ y1 ∧ y1 ≤ 100 := by omega
  have Y2 : 0 ≤ y2 ∧ y2 ≤ 100 := by omega
  have Z0 : 0 ≤ z0 ∧ z0 ≤ 100 := by omega
  have Z1 : 0 ≤ z1 ∧ z1 ≤ 100 := by omega
  have Z2 : 0 ≤ z2 ∧ z2 ≤ 100 := by omega
  have fin : 0 + z0 + z1 + z2 ≤ 0 + y0 + y1 + y2 := by omega
  have k1 : (0 : Int) ≤ 0 + y0 ∧ 0 + y0 ≤ 1000 := by omega
  have k2 : (0 : Int) ≤ 0 + z0 ∧ 0 + z0 ≤ 1000 := by omega
  have k3 : (0 : Int) ≤ 0 + y0 + y1 ∧ 0 + y0 + y1 ≤ 1000 := by omega
  have k4 : (0 : Int) ≤ 0 + z0 + z1 ∧ 0 + z0 + z1 ≤ 1000 := by omega
  refine Ev.step (f := fun k => billetlaw15_ShareRoom.l0 k [h0, h1, h2] [A0, A1, A2] [B0, B1, B2] [n0, n1, n2] [C0, C1, C2] 0 0 ((0 : Nat) : Int)) (fun k => ?_) ?_
  · simp [billetlaw15_ShareRoom.j1]
  refine Ev.step (room_round (x10 := [h0, h1, h2]) (x12 := [A0, A1, A2]) (x13 := [B0, B1, B2]) (x14 := [n0, n1, n2]) (x15 := [C0, C1, C2]) (h := h0) (a := A0) (b := B0) (n := n0) (c := C0) 0 (by decide) rfl rfl rfl rfl rfl rfl rfl rfl rfl rfl g0 u0 v0 0 0 (by decide) (by decide) Y0 Z0) ?_
  refine Ev.step (room_round (x10 := [h0, h1, h2]) (x12 := [A0, A1, A2]) (x13 := [B0, B1, B2]) (x14 := [n0, n1, n2]) (x15 := [C0, C1, C2]) (h := h1) (a := A1) (b := B1) (n := n1) (c := C1) 1 (by decide) rfl rfl rfl rfl rfl rfl rfl rfl rfl rfl g1 u1 v1 _ _ k1 k2 Y1 Z1) ?_
  refine Ev.step (room_round (x10 := [h0, h1, h2]) (x12 := [A0, A1, A2]) (x13 := [B0, B1, B2]) (x14 := [n0, n1, n2]) (x15 := [C0, C1, C2]) (h := h2) (a := A2) (b := B2) (n := n2) (c := C2) 2 (by decide) rfl rfl rfl rfl rfl rfl rfl rfl rfl rfl g2 u2 v2 _ _ k3 k4 Y2 Z2) ?_
  refine Ev.step (f := fun _ => some true) (fun k => ?_) (Ev.now _)
  simp only [billetlaw15_ShareRoom.l0]
  rw [if_neg (by decide), decide_eq_true fin]

theorem ShareRoom : billetlaw15_ShareRoom.Pure := by
  intro a0 l1 a2 a3 hw _ _ hl hm hx
  refine Ev.rounds (r := true) ?_
  obtain ⟨h0, h1, h2, t0, t1, t2, bh, bt, hlist⟩ := lists_ev l1 hl
  obtain ⟨w, hp, w0, w1⟩ := pick_in a0 20 (by omega) hw
  obtain ⟨m, hm, m0, m1⟩ := pick_in a2 9 (by omega) hm
  obtain ⟨u, hu, u0, u1⟩ := pick_in a3 3 (by omega) hx
  unfold billetlaw15_ShareRoom.f
  refine Ev.bind awake_ev (Ev.bind hlist ?_)
  have ew : wrap64 (w + m) = w + m := w64 (by omega) (by omega)
  have s0 : wrap64 (h0 + m) = h0 + m := w64 (by omega) (by omega)
  have s1 : wrap64 (h1 + m) = h1 + m := w64 (by omega) (by omega)
  have s2 : wrap64 (h2 + m) = h2 + m := w64 (by omega) (by omega)
  simp only [hp, hm, hu, Option.bind_some, ew]
  refine Ev.bind (share_ev w _ _) (Ev.bind (share_ev (w + m) _ _) ?_)
  have q0 : rd [h0, h1, h2] 0 = h0 := rfl
  have q1 : rd [h0, h1, h2] 1 = h1 := rfl
  have q2 : rd [h0, h1, h2] 2 = h2 := rfl
  obtain rfl | rfl | rfl : u = 0 ∨ u = 1 ∨ u = 2 := by omega
  · by_cases c : h0 ≥ 0
    · refine Ev.congr (fun k => ?_) (room_main (n0 := h0 + m) (n1 := h1) (n2 := h2) ⟨w0, by omega⟩ ⟨m0, by omega⟩ bh bt (by omega) (by omega) (by omega))
      rw [if_pos (by simp)]
      simp only [List.nil_append, len3', q0, s0]
      rw [if_pos (by decide), if_pos (by decide), if_pos c]
      rfl
    · refine Ev.congr (fun k => ?_) (room_main (n0 := h0) (n1 := h1) (n2 := h2) ⟨w0, by omega⟩ ⟨m0, by omega⟩ bh bt (by omega) (by omega) (by omega))
      rw [if_pos (by simp)]
      simp only [List.nil_append, len3', q0]
      rw [if_pos (by decide), if_pos (by decide), if_neg c]
  · by_cases c : h1 ≥ 0
    · refine Ev.congr (fun k => ?_) (room_main (n0 := h0) (n1 := h1 + m) (n2 := h2) ⟨w0, by omega⟩ ⟨m0, by omega⟩ bh bt (by omega) (by omega) (by omega))
      rw [if_pos (by simp)]
      simp only [List.nil_append, len3', q1, s1]
      rw [if_pos (by decide), if_pos (by decide), if_pos c]
      rfl
    · refine Ev.congr (fun k => ?_) (room_main (n0 := h0) (n1 := h1) (n2 := h2) ⟨w0, by omega⟩ ⟨m0, by omega⟩ bh bt (by omega) (by omega) (by omega))
      rw [if_pos (by simp)]
      simp only [List.nil_append, len3', q1]
      rw [if_pos (by decide), if_pos (by decide), if_neg c]
  · by_cases c : h2 ≥ 0
    · refine Ev.congr (fun k => ?_) (room_main (n0 := h0) (n1 := h1) (n2 := h2 + m) ⟨w0, by omega⟩ ⟨m0, by omega⟩ bh bt (by omega) (by omega) (by omega))
      rw [if_pos (by simp)]
      simp only [List.nil_append, len3', q2, s2]
      rw [if_pos (by decide), if_pos (by decide), if_pos c]
      rfl
    · refine Ev.congr (fun k => ?_) (room_main (n0 := h0) (n1 := h1) (n2 := h2) ⟨w0, by omega⟩ ⟨m0, by omega⟩ bh bt (by omega) (by omega) (by omega))
      rw [if_pos (by simp)]
      simp only [List.nil_append, len3', q2]
      rw [if_pos (by decide), if_pos (by decide), if_neg c]
end Go.Proofs.Ytpdgdogcfmfakaa.Pure
