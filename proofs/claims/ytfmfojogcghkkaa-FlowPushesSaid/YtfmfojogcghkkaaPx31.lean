-- Laid by a program of this session (wip/tools/genx.py) out of the kit's print of the translation.
import Derived.Test.YtfmfojogcghkkaaPx0
namespace Go.Proofs.Ytfmfojogcghkkaa.P
open Go.RowKit Go.Proofs.YtfmfojogcghkkaaW.PrintWords Go.Proofs.YtfmfojogcghkkaaW.PrintLast Go.Proofs.YtfmfojogcghkkaaW.PrintMore
attribute [local go_sem] max2_int min2_int max_two min_two max_three min_three max_four min_four   -- for this text's walks alone
set_option linter.unusedVariables false
set_option linter.unusedSimpArgs false

/-! ### billetref06_along: function 56 -/
mutual
def billetref06_along.l0 : Nat → List Int → Int → List Int → List Bool → Int → Int → Int → List (S41) → Option (List Int × List Bool)
 | 0, _, _, _, _, _, _, _, _ => none
 | k + 1, x1, x2, x10, x11, x12, x13, x506000, x506001 => if x13 < 64 then (billetref06_along.j1 k x1 x2 x10 x11 x12 x13 (x12 != x2) x506000 x506001) else (billetref06_along.j1 k x1 x2 x10 x11 x12 x13 false x506000 x506001)
def billetref06_along.j1 : Nat → List Int → Int → List Int → List Bool → Int → Int → Bool → Int → List (S41) → Option (List Int × List Bool)
 | 0, _, _, _, _, _, _, _, _, _ => none
 | k + 1, x1, x2, x10, x11, x12, x13, x22, x506000, x506001 => if x22 = true then (if 0 ≤ x12 then (if x12 < (x1.length : Int) then (if x10.length < 17592186044416 then ((some (x10 ++ [rd x1 x12] : List Int)).bind fun y507 => (if 0 ≤ (rd x1 x12) then (if (rd x1 x12) < (x506001.length : Int) then (if x11.length < 140737488355328 then ((some (x11 ++ [(((rd_T41 x506001 (rd x1 x12)).f1) == x12)] : List Bool)).bind fun y511 => (if ((rd_T41 x506001 (rd x1 x12)).f1) = x12 then (billetref06_along.l0 k x1 x2 y507 y511 ((rd_T41 x506001 (rd x1 x12)).f0) (wrap64 (x13 + 1)) x506000 x506001) else (billetref06_along.l0 k x1 x2 y507 y511 ((rd_T41 x506001 (rd x1 x12)).f1) (wrap64 (x13 + 1)) x506000 x506001))) else (none)) else (none)) else (none))) else (none)) else (none)) else (none)) else (some (x10, x11))
end
def billetref06_along.f (k : Nat) (a0_0 : Int) (l0_1 : List (S41)) (l1 : List Int) (a2 : Int) (a3 : Int) : Option (List Int × List Bool) := billetref06_along.l0 k l1 a2 ([] : List Int) ([] : List Bool) a3 0 a0_0 l0_1
theorem billetref06_along.mono_l : ∀ k, (∀ y0 y1 y2 y3 y4 y5 y6 y7, LeO (billetref06_along.l0 k y0 y1 y2 y3 y4 y5 y6 y7) (billetref06_along.l0 (k + 1) y0 y1 y2 y3 y4 y5 y6 y7)) ∧ (∀ y0 y1 y2 y3 y4 y5 y6 y7 y8, LeO (billetref06_along.j1 k y0 y1 y2 y3 y4 y5 y6 y7 y8) (billetref06_along.j1 (k + 1) y0 y1 y2 y3 y4 y5 y6 y7 y8))
 | 0 => ⟨fun _ _ _ _ _ _ _ _ r h => by simp [billetref06_along.l0] at h, fun _ _ _ _ _ _ _ _ _ r h => by simp [billetref06_along.j1] at h⟩
 | k + 1 => by
  obtain ⟨ih0, ih1⟩ := billetref06_along.mono_l k
  refine ⟨?_, ?_⟩
  ·intro y0 y1 y2 y3 y4 y5 y6 y7
   unfold billetref06_along.l0
   repeat' first
   | (with_reducible exact ih0 _ _ _ _ _ _ _ _)
   | (with_reducible exact ih1 _ _ _ _ _ _ _ _ _)
   | (with_reducible exact LeO.refl _)
   | (with_reducible exact LeO.none _)
   | (with_reducible refine LeO.ite ?_ ?_)
   | (with_reducible refine LeO.bind ?_ (fun _ => ?_))
   | exact ih0 _ _ _ _ _ _ _ _
   | exact ih1 _ _ _ _ _ _ _ _ _
   | exact LeO.none _
   | refine LeO.ite ?_ ?_
   | refine LeO.bind ?_ (fun _ => ?_)
  ·intro y0 y1 y2 y3 y4 y5 y6 y7 y8
   unfold billetref06_along.j1
   repeat' first
   | (with_reducible exact ih0 _ _ _ _ _ _ _ _)
   | (with_reducible exact ih1 _ _ _ _ _ _ _ _ _)
   | (with_reducible exact LeO.refl _)
   | (with_reducible exact LeO.none _)
   | (with_reducible refine LeO.ite ?_ ?_)
   | (with_reducible refine LeO.bind ?_ (fun _ => ?_))
   | exact ih0 _ _ _ _ _ _ _ _
   | exact ih1 _ _ _ _ _ _ _ _ _
   | exact LeO.none _
   | refine LeO.ite ?_ ?_
   | refine LeO.bind ?_ (fun _ => ?_)
theorem billetref06_along.mono : ∀ a0 a1 a2 a3 a4 k, LeO (billetref06_along.f k a0 a1 a2 a3 a4) (billetref06_along.f (k + 1) a0 a1 a2 a3 a4) := by
 intro a0 a1 a2 a3 a4 k
 obtain ⟨ih0, ih1⟩ := billetref06_along.mono_l k
 unfold billetref06_along.f
 repeat' first
   | (with_reducible exact ih0 _ _ _ _ _ _ _ _)
   | (with_reducible exact ih1 _ _ _ _ _ _ _ _ _)
   | (with_reducible exact LeO.refl _)
   | (with_reducible exact LeO.none _)
   | (with_reducible refine LeO.ite ?_ ?_)
   | (with_reducible refine LeO.bind ?_ (fun _ => ?_))
   | exact ih0 _ _ _ _ _ _ _ _
   | exact ih1 _ _ _ _ _ _ _ _ _
   | exact LeO.none _
   | refine LeO.ite ?_ ?_
   | refine LeO.bind ?_ (fun _ => ?_)
set_option maxHeartbeats 8000000 in
set_option maxRecDepth 100000 in
theorem billetref06_along.calls (k : Nat) (a0_0 : Int) (A0_1 : Option Addr) (c0_1 : Nat) (l0_1 : List (S41)) (A1 : Option Addr) (c1 : Nat) (l1 : List Int) (a2 : Int) (a3 : Int) (r1 : List Int) (r2 : List Bool) (w : World) (hr0_1 : Kd.C k41 w A0_1 l0_1.length l0_1) (hc0_1 : l0_1.length ≤ c0_1) (hr1 : Kd.C (Kd.int .i64) w A1 l1.length l1) (hc1 : l1.length ≤ c1) (h : billetref06_along.f k a0_0 l0_1 l1 a2 a3 = some (r1, r2)) :
  Calls Try.prog 56 #[.agg #[.int .i64 a0_0, .slice A0_1 l0_1.length c0_1], .slice A1 l1.length c1, .int .i64 a2, .int .i64 a3] w fun e w' => ∃ v0_ v1_ : Value, e = .returned (.tuple #[v0_, v1_]) ∧ Kd.R (Kd.int .i64) 3 w' w.heap.size (fun _ => True) v0_ r1 ∧ Kd.R Kd.bool 4 w' w.heap.size (fun _ => True) v1_ r2 ∧ Below w.heap.size w w' := by
 have hu24 := Try.underlying24
 have HR0_1 := Aside0.mk hr0_1
 have HC0_1 := Aside0.mk hc0_1
 clear hr0_1 hc0_1
 have HR1 := Aside0.mk hr1
 have HC1 := Aside0.mk hc1
 clear hr1 hc1
 have HB := Aside0.mk (Below.refl w.heap.size w)
 have H : (billetref06_along.l0 k l1 a2 ([] : List Int) ([] : List Bool) a3 0 a0_0 l0_1) = some (r1, r2) := h
 clear h
 have H' := Aside0.mk H
 clear H
 go_enter Try.func56, Try.ntmps56
 go_wp2_with (first | ((with_reducible refine gate_dst (N := 4) rfl ?_); refine box_event ?hg (N := 4) ?hd (cs := #[.int .i64 a0_0, .slice A0_1 l0_1.length c0_1]) (t := 24) ?hr ?_; (case hd => rfl); (case hg => rfl); (case hr => first | (go_simp; done) | (go_simp; rfl)); intro gb505 hg w5 hbox hb; have n0_ := Aside0.mk (below_step (by repeat (first | (with_reducible first | exact HB.out | apply below_alloc | apply pw_below_drewN | apply below_drew1) | exact HB.out)) hb); have n1_ := Aside0.mk (hbox); have n2_ := Aside0.mk ((by rw [hg]; exact (below_size (by repeat (first | (with_reducible first | exact HB.out | apply below_alloc | apply pw_below_drewN | apply below_drew1) | exact HB.out))) : w.heap.size ≤ gb505)); have n3_ := Aside0.mk ((by rw [hg]; exact (below_size (by repeat (first | (with_reducible first | exact HB.out | apply below_alloc | apply pw_below_drewN | apply below_drew1) | exact HB.out))) : w.heap.size ≤ gb505)); clear HB; have HB := n0_; have BK505 := n1_; have GW505 := n2_; have GE505 := n3_; clear n0_ n1_ n2_ n3_; clear hb hbox hg))
 go_loopg [10, 11, 12, 13] k (fun kq v10 v11 v12 v13 w' => ∃ (x10_1 : List Int) (x11_1 : List Bool) (x12_1 : Int) (x13_1 : Int), v12 = .int .i64 x12_1 ∧ v13 = .int .i64 x13_1 ∧ Aside0 (billetref06_along.l0 kq l1 a2 x10_1 x11_1 x12_1 x13_1 a0_0 l0_1 = some (r1, r2)) ∧ Aside0 (kq ≤ k) ∧ Aside0 (Kd.R (Kd.int .i64) 3 w' w.heap.size (fun _ => True) v10 x10_1) ∧ Aside0 (Kd.R Kd.bool 4 w' w.heap.size (fun _ => True) v11 x11_1) ∧ Aside0 (w'.heap[gb505]? = some (.cells #[.int .i64 a0_0, (.slice A0_1 l0_1.length c0_1)] 24 (0, 0))) ∧ Aside0 (Below w.heap.size w w'))
 case atStart => exact ⟨(([] : List Int)), (([] : List Bool)), (a3), (0), (by first | rfl | (simp; done) | (simp [*]; done)), (by first | rfl | (simp; done) | (simp [*]; done)), H', ⟨Nat.le_refl _⟩, ⟨by first | exact Kd.R_nil _ _ _ _ _ | exact Kd.N_nil _ _ _ _ _ | exact Kd.V_nil _ _ _ _ _ | exact Kd.Q_nil _ _ _ _ _ | exact Kd.S_nil _ _ _ _ _⟩, ⟨by first | exact Kd.R_nil _ _ _ _ _ | exact Kd.N_nil _ _ _ _ _ | exact Kd.V_nil _ _ _ _ _ | exact Kd.Q_nil _ _ _ _ _ | exact Kd.S_nil _ _ _ _ _⟩, ⟨by (with_reducible repeat (first | refine blk_drewN ?_ _ | refine blk_drew ?_ | refine blk_alloc ?_ _)); exact BK505.out⟩, ⟨by repeat (first | (with_reducible first | exact HB.out | apply below_alloc | apply pw_below_drewN | apply below_drew1 | refine below_set ?_ GE505.out) | exact HB.out)⟩⟩
 case round =>
  clear H'
  try clear c1
  try clear p2
  try clear c5
  obtain ⟨x10_1, x11_1, x12_1, x13_1, rfl, rfl, HA, HK1, HO_10, HO_11, BK505, HB⟩ := hrel
  cases gk with
  | zero => exact absurd HA.out (by simp [billetref06_along.l0])
  | succ k1 =>
   have H := HA.out
   clear HA
   simp only [billetref06_along.l0] at H
   have HC6 := Aside0.mk H
   clear H
   go_upto_region 5 with (fail)
   go_cut [22] (fun v22 wc => ∃ (kq : Nat) (x22_5 : Bool), v22 = .bool x22_5 ∧ Aside0 (billetref06_along.j1 kq l1 a2 x10_1 x11_1 x12_1 x13_1 x22_5 a0_0 l0_1 = some (r1, r2)) ∧ Aside0 (kq ≤ k1) ∧ Aside0 (Kd.R (Kd.int .i64) 3 wc w.heap.size (fun _ => True) u10 x10_1) ∧ Aside0 (Kd.R Kd.bool 4 wc w.heap.size (fun _ => True) u11 x11_1) ∧ Aside0 (wc.heap[gb505]? = some (.cells #[.int .i64 a0_0, (.slice A0_1 l0_1.length c0_1)] 24 (0, 0))) ∧ Aside0 (Below w.heap.size w wc))
   case first =>
    have H := HC6.out
    clear HC6
    by_cases c7 : x13_1 < 64
    ·rw [if_pos c7] at H
     have c7b0 : decide (x13_1 < 64) = true := decide_eq_true c7
     clear c7
     (first | rw [c7b0] | (simp only [i64_w, i32_w]; rw [c7b0]) | skip)
     have H' := Aside0.mk H
     clear H
     go_wp2
     go_meet
     case rel => exact ⟨_, ((x12_1 != a2)), (by first | rfl | (simp; done) | (simp [*]; done)), H', ⟨by have := HK1.out; first | omega | exact Nat.le_refl _⟩, ⟨by (with_reducible repeat (first | apply Kd.R_alloc | apply Kd.R_drewN | apply Kd.R_drew)); exact HO_10.out⟩, ⟨by (with_reducible repeat (first | apply Kd.R_alloc | apply Kd.R_drewN | apply Kd.R_drew)); exact HO_11.out⟩, ⟨by (with_reducible repeat (first | refine blk_drewN ?_ _ | refine blk_drew ?_ | refine blk_alloc ?_ _)); exact BK505.out⟩, ⟨by repeat (first | (with_reducible first | exact HB.out | apply below_alloc | apply pw_below_drewN | apply below_drew1 | refine below_set ?_ GE505.out) | exact HB.out)⟩⟩
    ·rw [if_neg c7] at H
     have c7b0 : decide (x13_1 < 64) = false := decide_eq_false c7
     clear c7
     (first | rw [c7b0] | (simp only [i64_w, i32_w]; rw [c7b0]) | skip)
     have H' := Aside0.mk H
     clear H
     go_wp2
     go_meet
     case rel => exact ⟨_, (false), (by first | rfl | (simp; done) | (simp [*]; done)), H', ⟨by have := HK1.out; first | omega | exact Nat.le_refl _⟩, ⟨by (with_reducible repeat (first | apply Kd.R_alloc | apply Kd.R_drewN | apply Kd.R_drew)); exact HO_10.out⟩, ⟨by (with_reducible repeat (first | apply Kd.R_alloc | apply Kd.R_drewN | apply Kd.R_drew)); exact HO_11.out⟩, ⟨by (with_reducible repeat (first | refine blk_drewN ?_ _ | refine blk_drew ?_ | refine blk_alloc ?_ _)); exact BK505.out⟩, ⟨by repeat (first | (with_reducible first | exact HB.out | apply below_alloc | apply pw_below_drewN | apply below_drew1 | refine below_set ?_ GE505.out) | exact HB.out)⟩⟩
   case rest =>
    clear HC6
    try clear c1
    try clear p2
    try clear c5
    try clear c7
    try clear c7b0
    try clear p2
    obtain ⟨kq, x22_5, rfl, HA, HJ5, HO_10, HO_11, BK505, HB⟩ := hcut
    cases kq with
    | zero => exact absurd HA.out (by simp [billetref06_along.j1])
    | succ kj5 =>
     have H := HA.out
     clear HA
     simp only [billetref06_along.j1] at H
     by_cases c8 : x22_5 = true
     ·subst c8
      have H1 : (if 0 ≤ x12_1 then (if x12_1 < (l1.length : Int) then (if x10_1.length < 17592186044416 then ((some (x10_1 ++ [rd l1 x12_1] : List Int)).bind fun y507 => (if 0 ≤ (rd l1 x12_1) then (if (rd l1 x12_1) < (l0_1.length : Int) then (if x11_1.length < 140737488355328 then ((some (x11_1 ++ [(((rd_T41 l0_1 (rd l1 x12_1)).f1) == x12_1)] : List Bool)).bind fun y511 => (if ((rd_T41 l0_1 (rd l1 x12_1)).f1) = x12_1 then (billetref06_along.l0 kj5 l1 a2 y507 y511 ((rd_T41 l0_1 (rd l1 x12_1)).f0) (wrap64 (x13_1 + 1)) a0_0 l0_1) else (billetref06_along.l0 kj5 l1 a2 y507 y511 ((rd_T41 l0_1 (rd l1 x12_1)).f1) (wrap64 (x13_1 + 1)) a0_0 l0_1))) else (none)) else (none)) else (none))) else (none)) else (none)) else (none)) = some (r1, r2) := by rw [if_pos rfl] at H; exact H
      clear H
      have H := H1
      clear H1
      by_cases c9 : 0 ≤ x12_1
      ·rw [if_pos c9] at H
       have c9b0 : decide (0 ≤ x12_1) = true := decide_eq_true c9
       clear c9
       by_cases c10 : x12_1 < (l1.length : Int)
       ·rw [if_pos c10] at H
        have c10b0 : decide (x12_1 < (l1.length : Int)) = true := decide_eq_true c10
        clear c10
        by_cases c11 : x10_1.length < 17592186044416
        ·rw [if_pos c11] at H
         have LMc11 := Aside0.mk c11
         clear c11
         obtain ⟨y507, hy507⟩ : ∃ y_ : List Int, y_ = (x10_1 ++ [rd l1 x12_1]) := ⟨_, rfl⟩
         replace H : (if 0 ≤ (rd l1 x12_1) then (if (rd l1 x12_1) < (l0_1.length : Int) then (if x11_1.length < 140737488355328 then ((some (x11_1 ++ [(((rd_T41 l0_1 (rd l1 x12_1)).f1) == x12_1)] : List Bool)).bind fun y511 => (if ((rd_T41 l0_1 (rd l1 x12_1)).f1) = x12_1 then (billetref06_along.l0 kj5 l1 a2 y507 y511 ((rd_T41 l0_1 (rd l1 x12_1)).f0) (wrap64 (x13_1 + 1)) a0_0 l0_1) else (billetref06_along.l0 kj5 l1 a2 y507 y511 ((rd_T41 l0_1 (rd l1 x12_1)).f1) (wrap64 (x13_1 + 1)) a0_0 l0_1))) else (none)) else (none)) else (none)) = some (r1, r2) := by first | (rw [hy507]; with_reducible exact H) | (have H2_ := (Option.bind_some _ _).symm.trans H; rw [hy507]; with_reducible exact H2_) | (have H2_ := (Option.bind_some _ _).symm.trans H; with_reducible exact H2_) | with_reducible exact H | (rw [hy507]; exact H) | exact H
         have Ny507 := Aside0.mk hy507
         clear hy507
         by_cases c12 : 0 ≤ (rd l1 x12_1)
         ·rw [if_pos c12] at H
          have c12b0 : decide (0 ≤ (rd l1 x12_1)) = true := decide_eq_true c12
          clear c12
          by_cases c13 : (rd l1 x12_1) < (l0_1.length : Int)
          ·rw [if_pos c13] at H
           have c13b0 : decide ((rd l1 x12_1) < (l0_1.length : Int)) = true := decide_eq_true c13
           clear c13
           by_cases c14 : x11_1.length < 140737488355328
           ·rw [if_pos c14] at H
            have LMc14 := Aside0.mk c14
            clear c14
            obtain ⟨y511, hy511⟩ : ∃ y_ : List Bool, y_ = (x11_1 ++ [(((rd_T41 l0_1 (rd l1 x12_1)).f1) == x12_1)]) := ⟨_, rfl⟩
            replace H : (if ((rd_T41 l0_1 (rd l1 x12_1)).f1) = x12_1 then (billetref06_along.l0 kj5 l1 a2 y507 y511 ((rd_T41 l0_1 (rd l1 x12_1)).f0) (wrap64 (x13_1 + 1)) a0_0 l0_1) else (billetref06_along.l0 kj5 l1 a2 y507 y511 ((rd_T41 l0_1 (rd l1 x12_1)).f1) (wrap64 (x13_1 + 1)) a0_0 l0_1)) = some (r1, r2) := by first | (rw [hy511]; with_reducible exact H) | (have H2_ := (Option.bind_some _ _).symm.trans H; rw [hy511]; with_reducible exact H2_) | (have H2_ := (Option.bind_some _ _).symm.trans H; with_reducible exact H2_) | with_reducible exact H | (rw [hy511]; exact H) | exact H
            have Ny511 := Aside0.mk hy511
            clear hy511
            by_cases c15 : ((rd_T41 l0_1 (rd l1 x12_1)).f1) = x12_1
            ·rw [if_pos c15] at H
             have c15b0 : (((rd_T41 l0_1 (rd l1 x12_1)).f1) == x12_1) = true := beq_iff_eq.mpr c15
             have c15b1 : (((rd_T41 l0_1 (rd l1 x12_1)).f1) != x12_1) = false := bne_eq_false_iff_eq.mpr c15
             clear c15
             have H' := Aside0.mk H
             clear H
             have p506 : 0 ≤ (x12_1 : Int) := of_decide_eq_true (by first | (with_reducible assumption) | assumption)
             have q506 : x12_1 < (l1.length : Int) := of_decide_eq_true (by first | (with_reducible assumption) | assumption)
             obtain ⟨ad506, e506, hx506_0⟩ := Kd.at_int HR1.out x12_1 p506 q506
             cases e506
             replace hx506_0 := (HB.out.cell (World.block_lt_of_cell? w _ hx506_0)).trans hx506_0
             replace p506 := eq_true p506
             replace q506 := eq_true q506
             go_wp2_with (first | ((with_reducible refine gate_builtin (b := .append) (xs := #[.tmp 29, .tmp 31]) rfl ?_); at_builtin; refine Kd.R_append (Kd.int .i64) (w0 := w) w.heap.size rfl (.tmp 29) (.tmp 31) 25 3 (.int .i64 0) 8 rfl Try.underlying25 info3 rfl (by decide) (by omega) u10 x10_1 (rd l1 x12_1) [.int .i64 (rd l1 x12_1)] (fun _ => True) (fun _ => False) rfl rfl ?aP (fun _ hk => hk.elim) ?aF ?aO ?aB ?aS ?aL ?_; (case aP => exact rfl); (case aB => exact (by repeat (first | (with_reducible first | exact HB.out | apply below_alloc | apply pw_below_drewN | apply below_drew1 | refine below_set ?_ GE505.out) | exact HB.out))); (case aF => exact (fun _ _ => trivial)); (case aO => exact (by (with_reducible repeat (first | apply Kd.R_alloc | apply Kd.R_drewN | apply Kd.R_drew)); exact HO_10.out)); (case aS => exact (below_size (by repeat (first | (with_reducible first | exact HB.out | apply below_alloc | apply pw_below_drewN | apply below_drew1 | refine below_set ?_ GE505.out) | exact HB.out)))); (case aL => have := LMc11.out; omega); intro v508 w16 ho hb hg hat; rw [← Ny507.out] at ho; have n0_ := Aside0.mk (Kd.R_over' (by (with_reducible repeat (first | apply Kd.R_alloc | apply Kd.R_drewN | apply Kd.R_drew)); exact HO_11.out) (Kd.R_typed (by (with_reducible repeat (first | apply Kd.R_alloc | apply Kd.R_drewN | apply Kd.R_drew)); exact HO_10.out)) (by decide) hg); have n1_ := Aside0.mk (blk_grown (g := gb505) (o := .cells #[.int .i64 a0_0, .slice A0_1 l0_1.length c0_1] 24 (0, 0)) (by (with_reducible repeat (first | refine blk_drewN ?_ _ | refine blk_drew ?_ | refine blk_alloc ?_ _)); exact BK505.out) hg (Kd.R_ne HO_10.out BK505.out (by decide))); have n2_ := Aside0.mk (hb); have n3_ := Aside0.mk (ho); clear HO_11; clear BK505; clear HB; clear HO_10; have HO_11 := n0_; have BK505 := n1_; have HB := n2_; have HO509 := n3_; clear n0_ n1_ n2_ n3_; clear ho hb hg hat; have hcz17_0 : w16.cell? ⟨gb505, 0, none⟩ = some (.int .i64 a0_0) := (blk_cell BK505.out 0).trans rfl; have hcz17_1 : w16.cell? ⟨gb505, 1, none⟩ = some (.slice A0_1 l0_1.length c0_1) := (blk_cell BK505.out 1).trans rfl; have hfz17_0 := blk_frozen BK505.out 0; have hfz17_1 := blk_frozen BK505.out 1; have p510 : 0 ≤ ((rd l1 x12_1) : Int) := of_decide_eq_true (by first | (with_reducible assumption) | assumption); have q510 : (rd l1 x12_1) < (l0_1.length : Int) := of_decide_eq_true (by first | (with_reducible assumption) | assumption); obtain ⟨ad510, e510, hx510_0, hx510_1, hx510_2⟩ := at_T41 HR0_1.out (rd l1 x12_1) p510 q510; cases e510; replace hx510_0 := (HB.out.cell (World.block_lt_of_cell? w _ hx510_0)).trans hx510_0; replace hx510_1 := (HB.out.cell (World.block_lt_of_cell? w _ hx510_1)).trans hx510_1; replace hx510_2 := (HB.out.cell (World.block_lt_of_cell? w _ hx510_2)).trans hx510_2; replace p510 := eq_true p510; replace q510 := eq_true q510) | ((with_reducible refine gate_builtin (b := .append) (xs := #[.tmp 33, .tmp 42]) rfl ?_); at_builtin; refine Kd.R_append Kd.bool (w0 := w) w.heap.size rfl (.tmp 33) (.tmp 42) 26 4 (.bool false) 1 rfl Try.underlying26 info4 rfl (by decide) (by omega) u11 x11_1 (((rd_T41 l0_1 (rd l1 x12_1)).f1) == x12_1) [.bool true] (fun _ => True) (fun _ => False) rfl rfl ?aP (fun _ hk => hk.elim) ?aF ?aO ?aB ?aS ?aL ?_; (case aP => exact congrArg (fun b => [Value.bool b]) c15b0.symm); (case aB => exact (by repeat (first | (with_reducible first | exact HB.out | apply below_alloc | apply pw_below_drewN | apply below_drew1 | refine below_set ?_ GE505.out) | exact HB.out))); (case aF => exact (fun _ _ => trivial)); (case aO => exact (by (with_reducible repeat (first | apply Kd.R_alloc | apply Kd.R_drewN | apply Kd.R_drew)); exact HO_11.out)); (case aS => exact (below_size (by repeat (first | (with_reducible first | exact HB.out | apply below_alloc | apply pw_below_drewN | apply below_drew1 | refine below_set ?_ GE505.out) | exact HB.out)))); (case aL => have := LMc14.out; omega); intro v512 w18 ho hb hg hat; rw [← Ny511.out] at ho; have n0_ := Aside0.mk (blk_grown (g := gb505) (o := .cells #[.int .i64 a0_0, .slice (some ad510) l0_1.length c0_1] 24 (0, 0)) (by (with_reducible repeat (first | refine blk_drewN ?_ _ | refine blk_drew ?_ | refine blk_alloc ?_ _)); exact BK505.out) hg (Kd.R_ne HO_11.out BK505.out (by decide))); have n1_ := Aside0.mk (Kd.R_over' (by (with_reducible repeat (first | apply Kd.R_alloc | apply Kd.R_drewN | apply Kd.R_drew)); exact HO509.out) (Kd.R_typed (by (with_reducible repeat (first | apply Kd.R_alloc | apply Kd.R_drewN | apply Kd.R_drew)); exact HO_11.out)) (by decide) hg); have n2_ := Aside0.mk (hb); have n3_ := Aside0.mk (ho); clear BK505; clear HO509; clear HB; clear HO_11; have BK505 := n0_; have HO509 := n1_; have HB := n2_; have HO513 := n3_; clear n0_ n1_ n2_ n3_; clear ho hb hg hat; have hcz19_0 : w18.cell? ⟨gb505, 0, none⟩ = some (.int .i64 a0_0) := (blk_cell BK505.out 0).trans rfl; have hcz19_1 : w18.cell? ⟨gb505, 1, none⟩ = some (.slice (some ad510) l0_1.length c0_1) := (blk_cell BK505.out 1).trans rfl; have hfz19_0 := blk_frozen BK505.out 0; have hfz19_1 := blk_frozen BK505.out 1; have p514 : 0 ≤ ((rd l1 x12_1) : Int) := of_decide_eq_true (by first | (with_reducible assumption) | assumption); have q514 : (rd l1 x12_1) < (l0_1.length : Int) := of_decide_eq_true (by first | (with_reducible assumption) | assumption); obtain ⟨ad514, e514, hx514_0, hx514_1, hx514_2⟩ := at_T41 HR0_1.out (rd l1 x12_1) p514 q514; obtain rfl : ad510 = ad514 := (by injection e514); replace hx514_0 := (HB.out.cell (World.block_lt_of_cell? w _ hx514_0)).trans hx514_0; replace hx514_1 := (HB.out.cell (World.block_lt_of_cell? w _ hx514_1)).trans hx514_1; replace hx514_2 := (HB.out.cell (World.block_lt_of_cell? w _ hx514_2)).trans hx514_2; replace p514 := eq_true p514; replace q514 := eq_true q514; have p515 : 0 ≤ ((rd l1 x12_1) : Int) := of_decide_eq_true (by first | (with_reducible assumption) | assumption); have q515 : (rd l1 x12_1) < (l0_1.length : Int) := of_decide_eq_true (by first | (with_reducible assumption) | assumption); obtain ⟨ad515, e515, hx515_0, hx515_1, hx515_2⟩ := at_T41 HR0_1.out (rd l1 x12_1) p515 q515; obtain rfl : ad510 = ad515 := (by injection e515); replace hx515_0 := (HB.out.cell (World.block_lt_of_cell? w _ hx515_0)).trans hx515_0; replace hx515_1 := (HB.out.cell (World.block_lt_of_cell? w _ hx515_1)).trans hx515_1; replace hx515_2 := (HB.out.cell (World.block_lt_of_cell? w _ hx515_2)).trans hx515_2; replace p515 := eq_true p515; replace q515 := eq_true q515))
             go_roundg kj5
             case measure => have := HK1.out; have := HJ5.out; omega
             case rel => exact ⟨(y507), (y511), ((rd_T41 l0_1 (rd l1 x12_1)).f0), (wrap64 (x13_1 + 1)), (by first | rfl | (simp; done) | (simp [*]; done)), (by first | rfl | (simp; done) | (simp [*]; done)), H', ⟨by have := HK1.out; have := HJ5.out; omega⟩, ⟨by (with_reducible repeat (first | apply Kd.R_alloc | apply Kd.R_drewN | apply Kd.R_drew)); exact HO509.out⟩, ⟨by (with_reducible repeat (first | apply Kd.R_alloc | apply Kd.R_drewN | apply Kd.R_drew)); exact HO513.out⟩, ⟨by (with_reducible repeat (first | refine blk_drewN ?_ _ | refine blk_drew ?_ | refine blk_alloc ?_ _)); exact BK505.out⟩, ⟨by repeat (first | (with_reducible first | exact HB.out | apply below_alloc | apply pw_below_drewN | apply below_drew1 | refine below_set ?_ GE505.out) | exact HB.out)⟩⟩
            ·rw [if_neg c15] at H
             have c15b0 : (((rd_T41 l0_1 (rd l1 x12_1)).f1) == x12_1) = false := beq_eq_false_iff_ne.mpr c15
             have c15b1 : (((rd_T41 l0_1 (rd l1 x12_1)).f1) != x12_1) = true := bne_iff_ne.mpr c15
             have H' := Aside0.mk H
             clear H
             have p506 : 0 ≤ (x12_1 : Int) := of_decide_eq_true (by first | (with_reducible assumption) | assumption)
             have q506 : x12_1 < (l1.length : Int) := of_decide_eq_true (by first | (with_reducible assumption) | assumption)
             obtain ⟨ad506, e506, hx506_0⟩ := Kd.at_int HR1.out x12_1 p506 q506
             cases e506
             replace hx506_0 := (HB.out.cell (World.block_lt_of_cell? w _ hx506_0)).trans hx506_0
             replace p506 := eq_true p506
             replace q506 := eq_true q506
             go_wp2_with (first | ((with_reducible refine gate_builtin (b := .append) (xs := #[.tmp 29, .tmp 31]) rfl ?_); at_builtin; refine Kd.R_append (Kd.int .i64) (w0 := w) w.heap.size rfl (.tmp 29) (.tmp 31) 25 3 (.int .i64 0) 8 rfl Try.underlying25 info3 rfl (by decide) (by omega) u10 x10_1 (rd l1 x12_1) [.int .i64 (rd l1 x12_1)] (fun _ => True) (fun _ => False) rfl rfl ?aP (fun _ hk => hk.elim) ?aF ?aO ?aB ?aS ?aL ?_; (case aP => exact rfl); (case aB => exact (by repeat (first | (with_reducible first | exact HB.out | apply below_alloc | apply pw_below_drewN | apply below_drew1 | refine below_set ?_ GE505.out) | exact HB.out))); (case aF => exact (fun _ _ => trivial)); (case aO => exact (by (with_reducible repeat (first | apply Kd.R_alloc | apply Kd.R_drewN | apply Kd.R_drew)); exact HO_10.out)); (case aS => exact (below_size (by repeat (first | (with_reducible first | exact HB.out | apply below_alloc | apply pw_below_drewN | apply below_drew1 | refine below_set ?_ GE505.out) | exact HB.out)))); (case aL => have := LMc11.out; omega); intro v508 w20 ho hb hg hat; rw [← Ny507.out] at ho; have n0_ := Aside0.mk (Kd.R_over' (by (with_reducible repeat (first | apply Kd.R_alloc | apply Kd.R_drewN | apply Kd.R_drew)); exact HO_11.out) (Kd.R_typed (by (with_reducible repeat (first | apply Kd.R_alloc | apply Kd.R_drewN | apply Kd.R_drew)); exact HO_10.out)) (by decide) hg); have n1_ := Aside0.mk (blk_grown (g := gb505) (o := .cells #[.int .i64 a0_0, .slice A0_1 l0_1.length c0_1] 24 (0, 0)) (by (with_reducible repeat (first | refine blk_drewN ?_ _ | refine blk_drew ?_ | refine blk_alloc ?_ _)); exact BK505.out) hg (Kd.R_ne HO_10.out BK505.out (by decide))); have n2_ := Aside0.mk (hb); have n3_ := Aside0.mk (ho); clear HO_11; clear BK505; clear HB; clear HO_10; have HO_11 := n0_; have BK505 := n1_; have HB := n2_; have HO509 := n3_; clear n0_ n1_ n2_ n3_; clear ho hb hg hat; have hcz21_0 : w20.cell? ⟨gb505, 0, none⟩ = some (.int .i64 a0_0) := (blk_cell BK505.out 0).trans rfl; have hcz21_1 : w20.cell? ⟨gb505, 1, none⟩ = some (.slice A0_1 l0_1.length c0_1) := (blk_cell BK505.out 1).trans rfl; have hfz21_0 := blk_frozen BK505.out 0; have hfz21_1 := blk_frozen BK505.out 1; have p510 : 0 ≤ ((rd l1 x12_1) : Int) := of_decide_eq_true (by first | (with_reducible assumption) | assumption); have q510 : (rd l1 x12_1) < (l0_1.length : Int) := of_decide_eq_true (by first | (with_reducible assumption) | assumption); obtain ⟨ad510, e510, hx510_0, hx510_1, hx510_2⟩ := at_T41 HR0_1.out (rd l1 x12_1) p510 q510; cases e510; replace hx510_0 := (HB.out.cell (World.block_lt_of_cell? w _ hx510_0)).trans hx510_0; replace hx510_1 := (HB.out.cell (World.block_lt_of_cell? w _ hx510_1)).trans hx510_1; replace hx510_2 := (HB.out.cell (World.block_lt_of_cell? w _ hx510_2)).trans hx510_2; replace p510 := eq_true p510; replace q510 := eq_true q510) | ((with_reducible refine gate_builtin (b := .append) (xs := #[.tmp 33, .tmp 42]) rfl ?_); at_builtin; refine Kd.R_append Kd.bool (w0 := w) w.heap.size rfl (.tmp 33) (.tmp 42) 26 4 (.bool false) 1 rfl Try.underlying26 info4 rfl (by decide) (by omega) u11 x11_1 (((rd_T41 l0_1 (rd l1 x12_1)).f1) == x12_1) [.bool false] (fun _ => True) (fun _ => False) rfl rfl ?aP (fun _ hk => hk.elim) ?aF ?aO ?aB ?aS ?aL ?_; (case aP => exact congrArg (fun b => [Value.bool b]) c15b0.symm); (case aB => exact (by repeat (first | (with_reducible first | exact HB.out | apply below_alloc | apply pw_below_drewN | apply below_drew1 | refine below_set ?_ GE505.out) | exact HB.out))); (case aF => exact (fun _ _ => trivial)); (case aO => exact (by (with_reducible repeat (first | apply Kd.R_alloc | apply Kd.R_drewN | apply Kd.R_drew)); exact HO_11.out)); (case aS => exact (below_size (by repeat (first | (with_reducible first | exact HB.out | apply below_alloc | apply pw_below_drewN | apply below_drew1 | refine below_set ?_ GE505.out) | exact HB.out)))); (case aL => have := LMc14.out; omega); intro v512 w22 ho hb hg hat; rw [← Ny511.out] at ho; have n0_ := Aside0.mk (blk_grown (g := gb505) (o := .cells #[.int .i64 a0_0, .slice (some ad510) l0_1.length c0_1] 24 (0, 0)) (by (with_reducible repeat (first | refine blk_drewN ?_ _ | refine blk_drew ?_ | refine blk_alloc ?_ _)); exact BK505.out) hg (Kd.R_ne HO_11.out BK505.out (by decide))); have n1_ := Aside0.mk (Kd.R_over' (by (with_reducible repeat (first | apply Kd.R_alloc | apply Kd.R_drewN | apply Kd.R_drew)); exact HO509.out) (Kd.R_typed (by (with_reducible repeat (first | apply Kd.R_alloc | apply Kd.R_drewN | apply Kd.R_drew)); exact HO_11.out)) (by decide) hg); have n2_ := Aside0.mk (hb); have n3_ := Aside0.mk (ho); clear BK505; clear HO509; clear HB; clear HO_11; have BK505 := n0_; have HO509 := n1_; have HB := n2_; have HO513 := n3_; clear n0_ n1_ n2_ n3_; clear ho hb hg hat; have hcz23_0 : w22.cell? ⟨gb505, 0, none⟩ = some (.int .i64 a0_0) := (blk_cell BK505.out 0).trans rfl; have hcz23_1 : w22.cell? ⟨gb505, 1, none⟩ = some (.slice (some ad510) l0_1.length c0_1) := (blk_cell BK505.out 1).trans rfl; have hfz23_0 := blk_frozen BK505.out 0; have hfz23_1 := blk_frozen BK505.out 1; have p514 : 0 ≤ ((rd l1 x12_1) : Int) := of_decide_eq_true (by first | (with_reducible assumption) | assumption); have q514 : (rd l1 x12_1) < (l0_1.length : Int) := of_decide_eq_true (by first | (with_reducible assumption) | assumption); obtain ⟨ad514, e514, hx514_0, hx514_1, hx514_2⟩ := at_T41 HR0_1.out (rd l1 x12_1) p514 q514; obtain rfl : ad510 = ad514 := (by injection e514); replace hx514_0 := (HB.out.cell (World.block_lt_of_cell? w _ hx514_0)).trans hx514_0; replace hx514_1 := (HB.out.cell (World.block_lt_of_cell? w _ hx514_1)).trans hx514_1; replace hx514_2 := (HB.out.cell (World.block_lt_of_cell? w _ hx514_2)).trans hx514_2; replace p514 := eq_true p514; replace q514 := eq_true q514; have p516 : 0 ≤ ((rd l1 x12_1) : Int) := of_decide_eq_true (by first | (with_reducible assumption) | assumption); have q516 : (rd l1 x12_1) < (l0_1.length : Int) := of_decide_eq_true (by first | (with_reducible assumption) | assumption); obtain ⟨ad516, e516, hx516_0, hx516_1, hx516_2⟩ := at_T41 HR0_1.out (rd l1 x12_1) p516 q516; obtain rfl : ad510 = ad516 := (by injection e516); replace hx516_0 := (HB.out.cell (World.block_lt_of_cell? w _ hx516_0)).trans hx516_0; replace hx516_1 := (HB.out.cell (World.block_lt_of_cell? w _ hx516_1)).trans hx516_1; replace hx516_2 := (HB.out.cell (World.block_lt_of_cell? w _ hx516_2)).trans hx516_2; replace p516 := eq_true p516; replace q516 := eq_true q516))
             go_roundg kj5
             case measure => have := HK1.out; have := HJ5.out; omega
             case rel => exact ⟨(y507), (y511), ((rd_T41 l0_1 (rd l1 x12_1)).f1), (wrap64 (x13_1 + 1)), (by first | rfl | (simp; done) | (simp [*]; done)), (by first | rfl | (simp; done) | (simp [*]; done)), H', ⟨by have := HK1.out; have := HJ5.out; omega⟩, ⟨by (with_reducible repeat (first | apply Kd.R_alloc | apply Kd.R_drewN | apply Kd.R_drew)); exact HO509.out⟩, ⟨by (with_reducible repeat (first | apply Kd.R_alloc | apply Kd.R_drewN | apply Kd.R_drew)); exact HO513.out⟩, ⟨by (with_reducible repeat (first | refine blk_drewN ?_ _ | refine blk_drew ?_ | refine blk_alloc ?_ _)); exact BK505.out⟩, ⟨by repeat (first | (with_reducible first | exact HB.out | apply below_alloc | apply pw_below_drewN | apply below_drew1 | refine below_set ?_ GE505.out) | exact HB.out)⟩⟩
           ·rw [if_neg c14] at H
            exact absurd H (by simp)
          ·rw [if_neg c13] at H
           exact absurd H (by simp)
         ·rw [if_neg c12] at H
          exact absurd H (by simp)
        ·rw [if_neg c11] at H
         exact absurd H (by simp)
       ·rw [if_neg c10] at H
        exact absurd H (by simp)
      ·rw [if_neg c9] at H
       exact absurd H (by simp)
     ·replace c8 := Bool.eq_false_iff.mpr c8
      subst c8
      have H1 : (some (x10_1, x11_1)) = some (r1, r2) := by rw [if_neg (show ¬ (false = true) by decide)] at H; exact H
      clear H
      have H := H1
      clear H1
      simp only [Option.some.injEq, Prod.mk.injEq] at H
      obtain ⟨rfl, rfl⟩ := H
      go_wp2
      go_ret2
      exact ⟨_, _, by first | rfl | (simp [errW_none, errW_some] <;> rfl) | (simp [*, errW_none, errW_some] <;> rfl), by (with_reducible repeat (first | apply Kd.R_alloc | apply Kd.R_drewN | apply Kd.R_drew)); exact HO_10.out, by (with_reducible repeat (first | apply Kd.R_alloc | apply Kd.R_drewN | apply Kd.R_drew)); exact HO_11.out, by repeat (first | (with_reducible first | exact HB.out | apply below_alloc | apply pw_below_drewN | apply below_drew1 | refine below_set ?_ GE505.out) | exact HB.out)⟩

end Go.Proofs.Ytfmfojogcghkkaa.P
