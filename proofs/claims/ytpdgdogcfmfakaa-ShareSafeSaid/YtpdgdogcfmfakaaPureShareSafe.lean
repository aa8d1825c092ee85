/- ShareSafe, over lists and numbers alone. -/
import Derived.Test.YtpdgdogcfmfakaaPx15
import Derived.Test.YtpdgdogcfmfakaaSh
namespace Go.Proofs.Ytpdgdogcfmfakaa.Pure
open Go.RowKit Go.Proofs.Ytpdgdogcfmfakaa.P Go.Proofs.YtpdgdogcfmfakaaW.PrintWords Go.Proofs.YtpdgdogcfmfakaaW.PrintLast
open Go.Proofs.Ytpdgdogcfmfakaa.Sh

theorem safe_round {x0 : Int} {x6 x7 x8 : List Int} {h t g : Int} (i : Nat) (hi : i < 3) (l6 : x6.length = 3) (l7 : x7.length = 3) (l8 : x8.length = 3) (r6 : rd x6 i = h) (r7 : rd x7 i = t) (r8 : rd x8 i = g)
    (c1 : 0 ≤ g) (c2 : g ≤ t) (c3 : h < 0 → g = 0) (b1 : h ≤ 100) (b2 : t ≤ 100) (x9 x10 : Int) (b9 : 0 ≤ x9 ∧ x9 ≤ 1000) (b10 : 0 ≤ x10 ∧ x10 ≤ 1000) (x11 : Bool) (k : Nat) :
    billetlaw15_ShareSafe.l0 (k + 1) x0 x6 x7 x8 x9 x10 x11 (i : Int) = billetlaw15_ShareSafe.l0 k x0 x6 x7 x8 (x9 + mx (mx h 0) g) (x10 + mx h 0) (x11 || decide (h < 0)) ((i + 1 : Nat) : Int) := by
  have p1 : (i : Int) < 3 := by omega
  have p2 : 0 ≤ (i : Int) := by omega
  have p3 : (i : Int) < (x8.length : Int) := by omega
  have p4 : (i : Int) < (x7.length : Int) := by omega
  have p5 : (i : Int) < (x6.length : Int) := by omega
  have n1 : ¬ g < 0 := by omega
  have n2 : ¬ g > t := by omega
  have m1 : 0 ≤ mx h 0 ∧ mx h 0 ≤ 100 := by unfold mx; split <;> omega
  have m2 : 0 ≤ mx (mx h 0) g ∧ mx (mx h 0) g ≤ 100 := by
    unfold mx at m1 ⊢; split <;> split <;> omega
  have e3 : wrap64 ((i : Int) + 1) = ((i + 1 : Nat) : Int) := by rw [w64 (by omega) (by omega)]; omega
  have e1 : wrap64 (x9 + mx (mx h 0) g) = x9 + mx (mx h 0) g := w64 (Int.le_trans (by decide) (Int.add_nonneg b9.1 m2.1)) (Int.le_trans (Int.add_le_add b9.2 m2.2) (by decide))
  have e2 : wrap64 (x10 + mx h 0) = x10 + mx h 0 := w64 (Int.le_trans (by decide) (Int.add_nonneg b10.1 m1.1)) (Int.le_trans (Int.add_le_add b10.2 m1.2) (by decide))
  simp only [billetlaw15_ShareSafe.l0, r6, r7, r8, e3, e1, e2]
  rw [if_pos p1]
  cases x11
  · rw [if_neg (by simp), if_pos p2, if_pos p5, if_pos p3, if_neg n1, if_pos p4, if_neg n2]
    by_cases c : h < 0
    · rw [if_pos c, if_pos (c3 c)]; simp [c]
    · rw [if_neg c]; simp
  · rw [if_pos rfl, if_pos p2, if_pos p3, if_neg n1, if_pos p4, if_neg n2, if_pos p5]
    by_cases c : h < 0
    · rw [if_pos c, if_pos (c3 c)]; simp
    · rw [if_neg c]; simp

set_option maxHeartbeats 4000000 in
theorem ShareSafe : billetlaw15_ShareSafe.Pure := by
  intro a0 l1 hw _ _ hl
  refine Ev.rounds (r := true) ?_
  obtain ⟨h0, h1, h2, t0, t1, t2, bh, bt, hlist⟩ := lists_ev l1 hl
  obtain ⟨w, hp, w0, w1⟩ := pick_in a0 20 (by omega) hw
  unfold billetlaw15_ShareSafe.f
  refine Ev.bind awake_ev (Ev.bind hlist ?_)
  simp only [hp, Option.bind_some]
  refine Ev.bind (share_ev w _ _) ?_
  rw [shareS3]
  have hr := room3_spec (w := w) (h0 := h0) (h1 := h1) (h2 := h2) (by omega) (by omega) (by omega) (by omega) (by omega) (by omega) (by omega) (by omega)
  have hr0 : 0 ≤ room3 w h0 h1 h2 := by rw [hr]; split <;> (try split) <;> omega
  generalize room3 w h0 h1 h2 = r0 at *
  obtain ⟨d0, hd0, q0, g0⟩ := stp_spec (h := h0) (t := t0) (r := r0) (by omega) (by omega) (by omega) (by omega) hr0
  have hr1 : 0 ≤ (stp h0 t0 r0).2 := by rw [q0]; split <;> omega
  obtain ⟨d1, hd1, q1, g1⟩ := stp_spec (h := h1) (t := t1) (r := (stp h0 t0 r0).2) (by omega) (by omega) (by omega) (by omega) hr1
  have hr2 : 0 ≤ (stp h1 t1 (stp h0 t0 r0).2).2 := by rw [q1]; split <;> omega
  obtain ⟨d2, hd2, q2, g2⟩ := stp_spec (h := h2) (t := t2) (r := (stp h1 t1 (stp h0 t0 r0).2).2) (by omega) (by omega) (by omega) (by omega) hr2
  generalize (stp h2 t2 (stp h1 t1 (stp h0 t0 r0).2).2).1 = G2 at *
  generalize (stp h2 t2 (stp h1 t1 (stp h0 t0 r0).2).2).2 = R3 at *
  generalize (stp h1 t1 (stp h0 t0 r0).2).1 = G1 at *
  generalize (stp h1 t1 (stp h0 t0 r0).2).2 = R2 at *
  generalize (stp h0 t0 r0).1 = G0 at *
  generalize (stp h0 t0 r0).2 = R1 at *
  have A0 : 0 ≤ G0 ∧ G0 ≤ t0 ∧ (h0 < 0 → G0 = 0) ∧ mx (mx h0 0) G0 = mx h0 0 + (r0 - R1) := by subst hd0; unfold mx; rw [g0, q0]; split <;> split <;> (try split) <;> (try split) <;> omega
  have A1 : 0 ≤ G1 ∧ G1 ≤ t1 ∧ (h1 < 0 → G1 = 0) ∧ mx (mx h1 0) G1 = mx h1 0 + (R1 - R2) := by subst hd1; unfold mx; rw [g1, q1]; split <;> split <;> (try split) <;> (try split) <;> omega
  have A2 : 0 ≤ G2 ∧ G2 ≤ t2 ∧ (h2 < 0 → G2 = 0) ∧ mx (mx h2 0) G2 = mx h2 0 + (R2 - R3) := by subst hd2; unfold mx; rw [g2, q2]; split <;> split <;> (try split) <;> (try split) <;> omega
  have B : ∀ h : Int, -1 ≤ h → h ≤ 7 → 0 ≤ mx h 0 ∧ mx h 0 ≤ 7 ∧ (0 ≤ h → mx h 0 = h) := by intro h _ _; unfold mx; split <;> omega
  have B0 := B h0 (by omega) (by omega)
  have B1 := B h1 (by omega) (by omega)
  have B2 := B h2 (by omega) (by omega)
  have hR3 : 0 ≤ R3 := by rw [q2]; split <;> omega
  have hR2 : R2 ≤ R1 := by rw [q1]; split <;> omega
  have hR1 : R1 ≤ r0 := by rw [q0]; split <;> omega
  have hR32 : R3 ≤ R2 := by rw [q2]; split <;> omega
  have hr0' : r0 ≤ 100 := by rw [hr]; split <;> (try split) <;> omega
  clear q0 q1 q2 g0 g1 g2 hd0 hd1 hd2
  refine Ev.congr (f := fun k => billetlaw15_ShareSafe.j0 k w [h0, h1, h2] [t0, t1, t2] [G0, G1, G2] false) (fun k => by simp) ?_
  refine Ev.step (f := fun k => billetlaw15_ShareSafe.l0 k w [h0, h1, h2] [t0, t1, t2] [G0, G1, G2] 0 0 false ((0 : Nat) : Int)) (fun k => by simp [billetlaw15_ShareSafe.j0]) ?_
  refine Ev.step (safe_round (x6 := [h0, h1, h2]) (x7 := [t0, t1, t2]) (x8 := [G0, G1, G2]) (h := h0) (t := t0) (g := G0) 0 (by omega) rfl rfl rfl rfl rfl rfl A0.1 A0.2.1 A0.2.2.1 (by omega) (by omega) 0 0 (by omega) (by omega) false) ?_
  refine Ev.step (safe_round (x6 := [h0, h1, h2]) (x7 := [t0, t1, t2]) (x8 := [G0, G1, G2]) (h := h1) (t := t1) (g := G1) 1 (by omega) rfl rfl rfl rfl rfl rfl A1.1 A1.2.1 A1.2.2.1 (by omega) (by omega) _ _ (by omega) (by omega) _) ?_
  refine Ev.step (safe_round (x6 := [h0, h1, h2]) (x7 := [t0, t1, t2]) (x8 := [G0, G1, G2]) (h := h2) (t := t2) (g := G2) 2 (by omega) rfl rfl rfl rfl rfl rfl A2.1 A2.2.1 A2.2.2.1 (by omega) (by omega) _ _ (by omega) (by omega) _) ?_
  refine Ev.step (f := fun _ => some true) (fun k => ?_) (Ev.now _)
  simp only [billetlaw15_ShareSafe.l0]
  rw [if_neg (by omega), A0.2.2.2, A1.2.2.2, A2.2.2.2]
  by_cases c : h0 < 0 ∨ h1 < 0 ∨ h2 < 0
  · rw [if_pos c] at hr
    rw [if_pos (by unfold mx at B0 B1 B2 ⊢; split <;> omega), if_pos (by rcases c with c | c | c <;> simp [c])]
    congr 1
    simp; omega
  · have e : (((false || decide (h0 < 0)) || decide (h1 < 0)) || decide (h2 < 0)) = false := by simp; omega
    rw [if_neg c] at hr
    generalize mx h0 0 = m0 at *
    generalize mx h1 0 = m1 at *
    generalize mx h2 0 = m2 at *
    rw [e, if_pos (by unfold mx; split at hr <;> split <;> omega)]
    simp
end Go.Proofs.Ytpdgdogcfmfakaa.Pure
