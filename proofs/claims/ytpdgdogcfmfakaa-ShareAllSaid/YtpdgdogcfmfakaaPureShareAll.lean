/- ShareAll, over lists and numbers alone. -/
import Derived.Test.YtpdgdogcfmfakaaPx16
import Derived.Test.YtpdgdogcfmfakaaSh
namespace Go.Proofs.Ytpdgdogcfmfakaa.Pure
open Go.RowKit Go.Proofs.Ytpdgdogcfmfakaa.P Go.Proofs.YtpdgdogcfmfakaaW.PrintWords Go.Proofs.YtpdgdogcfmfakaaW.PrintLast
open Go.Proofs.Ytpdgdogcfmfakaa.Sh

theorem rd0 (x y z : Int) : rd [x, y, z] 0 = x := rfl
theorem rd1 (x y z : Int) : rd [x, y, z] 1 = y := rfl
theorem rd2 (x y z : Int) : rd [x, y, z] 2 = z := rfl
theorem wr01 : wrap64 (0 + 1) = 1 := by rw [w64 (by omega) (by omega)]; rfl
theorem wr12 : wrap64 (1 + 1) = 2 := by rw [w64 (by omega) (by omega)]; rfl
theorem wr23 : wrap64 (2 + 1) = 3 := by rw [w64 (by omega) (by omega)]; rfl
theorem len3 (x y z : Int) : (([x, y, z] : List Int).length : Int) = 3 := rfl

theorem all_l2 {w i : Int} {h0 h1 h2 t0 t1 t2 g0 g1 g2 : Int} {r : Bool} (hfit : h0 ≤ t0 → h1 ≤ t1 → h2 ≤ t2 → g0 = t0 ∧ g1 = t1 ∧ g2 = t2)
    (he : Ev (fun k => billetlaw15_ShareAll.l1 k true [g0, g1, g2] [t0, t1, t2] w (wrap64 (i + 1))) r) :
    Ev (fun k => billetlaw15_ShareAll.l2 k true [h0, h1, h2] [t0, t1, t2] w i [g0, g1, g2] true 0) r := by
  have hend : ∀ b : Bool, (b = true → g0 = t0 ∧ g1 = t1 ∧ g2 = t2) → Ev (fun k => billetlaw15_ShareAll.l2 k true [h0, h1, h2] [t0, t1, t2] w i [g0, g1, g2] b 3) r := by
    intro b hb
    cases b with
    | false =>
      refine Ev.step (fun k => ?_) he
      simp only [billetlaw15_ShareAll.l2]
      rw [if_neg (by omega), if_neg (by simp)]
    | true =>
      refine Ev.step (f := fun k => (billetlaw06_Ints.f k [g0, g1, g2] [t0, t1, t2]).bind fun t379 => (if t379 = true then (billetlaw15_ShareAll.l1 k true [g0, g1, g2] [t0, t1, t2] w (wrap64 (i + 1))) else (some false))) (fun k => ?_) ?_
      · simp only [billetlaw15_ShareAll.l2]
        rw [if_neg (by omega), if_pos trivial]
      · refine Ev.bind (ints3 _ _ _ _ _ _) ?_
        rw [decide_eq_true (hb rfl)]
        exact Ev.congr (fun k => if_pos rfl) he
  have hfalse : ∀ j : Nat, j ≤ 3 → Ev (fun k => billetlaw15_ShareAll.l2 k true [h0, h1, h2] [t0, t1, t2] w i [g0, g1, g2] false ((3 - j : Nat) : Int)) r := by
    intro j
    induction j with
    | zero => intro _; exact hend false (by simp)
    | succ j ih =>
      intro hj
      refine Ev.step (fun k => ?_) (ih (by omega))
      simp only [billetlaw15_ShareAll.l2]
      rw [if_pos (by omega), if_neg (by simp), w64 (by omega) (by omega)]
      congr 1
      omega
  refine Ev.step (f := fun k => billetlaw15_ShareAll.l2 k true [h0, h1, h2] [t0, t1, t2] w i [g0, g1, g2] (decide (h0 ≤ t0)) 1) (fun k => ?_) ?_
  · simp only [billetlaw15_ShareAll.l2, rd0, wr01, len3]
    rw [if_pos (by omega), if_pos trivial, if_pos (by omega), if_pos (by omega), if_pos (by omega)]
    rfl
  by_cases c0 : h0 ≤ t0
  · rw [decide_eq_true c0]
    refine Ev.step (f := fun k => billetlaw15_ShareAll.l2 k true [h0, h1, h2] [t0, t1, t2] w i [g0, g1, g2] (decide (h1 ≤ t1)) 2) (fun k => ?_) ?_
    · simp only [billetlaw15_ShareAll.l2, rd1, wr12, len3]
      rw [if_pos (by omega), if_pos trivial, if_pos (by omega), if_pos (by omega), if_pos (by omega)]
      rfl
    by_cases c1 : h1 ≤ t1
    · rw [decide_eq_true c1]
      refine Ev.step (f := fun k => billetlaw15_ShareAll.l2 k true [h0, h1, h2] [t0, t1, t2] w i [g0, g1, g2] (decide (h2 ≤ t2)) 3) (fun k => ?_) ?_
      · simp only [billetlaw15_ShareAll.l2, rd2, wr23, len3]
        rw [if_pos (by omega), if_pos trivial, if_pos (by omega), if_pos (by omega), if_pos (by omega)]
        rfl
      exact hend _ (fun hb => hfit c0 c1 (of_decide_eq_true hb))
    · rw [decide_eq_false c1]
      exact hfalse 1 (by omega)
  · rw [decide_eq_false c0]
    exact hfalse 2 (by omega)

theorem share_all {w h0 h1 h2 t0 t1 t2 : Int} (a : 0 ≤ h0 ∧ h0 ≤ 8 ∧ 0 ≤ h1 ∧ h1 ≤ 8 ∧ 0 ≤ h2 ∧ h2 ≤ 8) (b : 0 ≤ t0 ∧ t0 ≤ 8 ∧ 0 ≤ t1 ∧ t1 ≤ 8 ∧ 0 ≤ t2 ∧ t2 ≤ 8) (hw : t0 + t1 + t2 ≤ w) (hw1 : w ≤ 30) :
    ∃ g0 g1 g2 : Int, shareS w [h0, h1, h2] [t0, t1, t2] = [g0, g1, g2] ∧ (0 ≤ g0 ∧ g0 ≤ t0 ∧ 0 ≤ g1 ∧ g1 ≤ t1 ∧ 0 ≤ g2 ∧ g2 ≤ t2) ∧ (h0 ≤ t0 → h1 ≤ t1 → h2 ≤ t2 → g0 = t0 ∧ g1 = t1 ∧ g2 = t2) := by
  rw [shareS3]
  have hr := room3_spec (w := w) (h0 := h0) (h1 := h1) (h2 := h2) (by omega) (by omega) (by omega) (by omega) (by omega) (by omega) (by omega) (by omega)
  rw [if_neg (by omega)] at hr
  have hr0 : 0 ≤ room3 w h0 h1 h2 := by rw [hr]; split <;> omega
  generalize room3 w h0 h1 h2 = r0 at *
  obtain ⟨d0, hd0, q0, g0⟩ := stp_spec (h := h0) (t := t0) (r := r0) (by omega) (by omega) (by omega) (by omega) hr0
  have hr1 : 0 ≤ (stp h0 t0 r0).2 := by rw [q0]; split <;> omega
  obtain ⟨d1, hd1, q1, g1⟩ := stp_spec (h := h1) (t := t1) (r := (stp h0 t0 r0).2) (by omega) (by omega) (by omega) (by omega) hr1
  have hr2 : 0 ≤ (stp h1 t1 (stp h0 t0 r0).2).2 := by rw [q1]; split <;> omega
  obtain ⟨d2, hd2, q2, g2⟩ := stp_spec (h := h2) (t := t2) (r := (stp h1 t1 (stp h0 t0 r0).2).2) (by omega) (by omega) (by omega) (by omega) hr2
  generalize (stp h2 t2 (stp h1 t1 (stp h0 t0 r0).2).2).1 = G2 at *
  generalize (stp h2 t2 (stp h1 t1 (stp h0 t0 r0).2).2).2 = R3 at *
  generalize (stp h1 t1 (stp h0 t0 r0).2).1 = G1 at *
  generalize (stp h1 t1 (stp h0 t0 r0).2).2 = R2 at *
  generalize (stp h0 t0 r0).1 = G0 at *
  generalize (stp h0 t0 r0).2 = R1 at *
  rw [if_neg (by omega)] at hd0 hd1 hd2 g0 g1 g2
  refine ⟨G0, G1, G2, rfl, ?_, ?_⟩
  · clear hr
    have A0 : 0 ≤ G0 ∧ G0 ≤ t0 := by rw [g0]; split at hd0 <;> split <;> (try split) <;> omega
    have A1 : 0 ≤ G1 ∧ G1 ≤ t1 := by rw [g1]; split at hd1 <;> split <;> (try split) <;> omega
    have A2 : 0 ≤ G2 ∧ G2 ≤ t2 := by rw [g2]; split at hd2 <;> split <;> (try split) <;> omega
    omega
  · intro c0 c1 c2
    have e0 : d0 = t0 - h0 := by rw [hd0]; split <;> omega
    have e1 : d1 = t1 - h1 := by rw [hd1]; split <;> omega
    have e2 : d2 = t2 - h2 := by rw [hd2]; split <;> omega
    have f0 : R1 = r0 - d0 := by rw [q0]; split at hr <;> split <;> omega
    have f1 : R2 = R1 - d1 := by rw [q1]; split at hr <;> split <;> omega
    have k0 : G0 = t0 := by rw [g0]; split at hr <;> split <;> (try split) <;> omega
    have k1 : G1 = t1 := by rw [g1]; split at hr <;> split <;> (try split) <;> omega
    have k2 : G2 = t2 := by rw [g2]; split at hr <;> split <;> (try split) <;> omega
    exact ⟨k0, k1, k2⟩

theorem all_round {w h0 h1 h2 t0 t1 t2 : Int} {r : Bool} (a : 0 ≤ h0 ∧ h0 ≤ 8 ∧ 0 ≤ h1 ∧ h1 ≤ 8 ∧ 0 ≤ h2 ∧ h2 ≤ 8) (b : 0 ≤ t0 ∧ t0 ≤ 8 ∧ 0 ≤ t1 ∧ t1 ≤ 8 ∧ 0 ≤ t2 ∧ t2 ≤ 8) (hw : t0 + t1 + t2 ≤ w) (hw1 : w ≤ 30) (i : Int) (hi : i < 3)
    (he : ∀ g0 g1 g2 : Int, (0 ≤ g0 ∧ g0 ≤ t0 ∧ 0 ≤ g1 ∧ g1 ≤ t1 ∧ 0 ≤ g2 ∧ g2 ≤ t2) → (h0 ≤ t0 → h1 ≤ t1 → h2 ≤ t2 → g0 = t0 ∧ g1 = t1 ∧ g2 = t2) → Ev (fun k => billetlaw15_ShareAll.l1 k true [g0, g1, g2] [t0, t1, t2] w (wrap64 (i + 1))) r) :
    Ev (fun k => billetlaw15_ShareAll.l1 k true [h0, h1, h2] [t0, t1, t2] w i) r := by
  obtain ⟨g0, g1, g2, hs, hb, hf⟩ := share_all a b hw hw1
  refine Ev.step (f := fun k => (share_Share.f k w [h0, h1, h2] [t0, t1, t2]).bind fun t374 => (if (t374.length : Int) = 3 then (billetlaw15_ShareAll.l2 k true [h0, h1, h2] [t0, t1, t2] w i t374 true 0) else (some false))) (fun k => ?_) ?_
  · simp only [billetlaw15_ShareAll.l1]
    rw [if_pos hi]
  · refine Ev.bind (share_ev w _ _) ?_
    rw [hs]
    exact Ev.congr (fun k => if_pos rfl) (all_l2 hf (he g0 g1 g2 hb hf))

theorem ShareAll : billetlaw15_ShareAll.Pure := by
  intro l0 a1 _ _ hl hw
  refine Ev.rounds (r := true) ?_
  obtain ⟨h0, h1, h2, t0, t1, t2, bh, bt, hlist⟩ := lists_ev l0 hl
  obtain ⟨m, hp, m0, m1⟩ := pick_in a1 5 (by omega) hw
  unfold billetlaw15_ShareAll.f
  refine Ev.bind awake_ev (Ev.bind hlist ?_)
  simp only [hp, Option.bind_some, len3, rd0, rd1, rd2]
  rw [w64 (n := t0 + t1) (by omega) (by omega), w64 (n := t0 + t1 + t2) (by omega) (by omega), w64 (n := t0 + t1 + t2 + m) (by omega) (by omega)]
  refine Ev.congr (f := fun k => billetlaw15_ShareAll.l0 k true [h0, h1, h2] [t0, t1, t2] (t0 + t1 + t2 + m) 0) (fun k => by rw [if_pos (by omega), if_pos (by omega), if_pos (by omega)]) ?_
  have M : ∀ h : Int, -1 ≤ h → h ≤ 7 → 0 ≤ mx h 0 ∧ mx h 0 ≤ 8 := by intro h _ _; unfold mx; split <;> omega
  refine Ev.step (f := fun k => billetlaw15_ShareAll.l0 k true [mx h0 0, h1, h2] [t0, t1, t2] (t0 + t1 + t2 + m) 1) (fun k => ?_) ?_
  · simp only [billetlaw15_ShareAll.l0, rd0, wr01, len3]
    rw [if_pos (by omega), if_pos (by omega), if_pos (by omega)]; rfl
  refine Ev.step (f := fun k => billetlaw15_ShareAll.l0 k true [mx h0 0, mx h1 0, h2] [t0, t1, t2] (t0 + t1 + t2 + m) 2) (fun k => ?_) ?_
  · simp only [billetlaw15_ShareAll.l0, rd1, wr12, len3]
    rw [if_pos (by omega), if_pos (by omega), if_pos (by omega)]; rfl
  refine Ev.step (f := fun k => billetlaw15_ShareAll.l0 k true [mx h0 0, mx h1 0, mx h2 0] [t0, t1, t2] (t0 + t1 + t2 + m) 3) (fun k => ?_) ?_
  · simp only [billetlaw15_ShareAll.l0, rd2, wr23, len3]
    rw [if_pos (by omega), if_pos (by omega), if_pos (by omega)]; rfl
  have M0 := M h0 (by omega) (by omega)
  have M1 := M h1 (by omega) (by omega)
  have M2 := M h2 (by omega) (by omega)
  refine Ev.step (f := fun k => billetlaw15_ShareAll.l1 k true [mx h0 0, mx h1 0, mx h2 0] [t0, t1, t2] (t0 + t1 + t2 + m) 0) (fun k => ?_) ?_
  · simp only [billetlaw15_ShareAll.l0]
    rw [if_neg (by omega)]
  refine all_round (by omega) (by omega) (by omega) (by omega) 0 (by omega) (fun g0 g1 g2 hb _ => ?_)
  rw [wr01]
  refine all_round (by omega) (by omega) (by omega) (by omega) 1 (by omega) (fun k0 k1 k2 _ hf => ?_)
  obtain ⟨rfl, rfl, rfl⟩ := hf (by omega) (by omega) (by omega)
  rw [wr12]
  refine all_round (by omega) (by omega) (by omega) (by omega) 2 (by omega) (fun j0 j1 j2 _ hf2 => ?_)
  obtain ⟨rfl, rfl, rfl⟩ := hf2 (by omega) (by omega) (by omega)
  rw [wr23]
  refine Ev.step (f := fun k => (billetlaw06_Ints.f k [j0, j1, j2] [j0, j1, j2]).bind fun t373 => (some t373)) (fun k => ?_) (Ev.bind (ints3 _ _ _ _ _ _) ?_)
  · simp only [billetlaw15_ShareAll.l1]
    rw [if_neg (by omega), if_pos trivial]
  · simp; exact Ev.now _
end Go.Proofs.Ytpdgdogcfmfakaa.Pure
