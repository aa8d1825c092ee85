import Derived.Test.YtfmfojogcghkkaaPx0
import Derived.Test.YtfmfojogcghkkaaPx3
import Derived.Test.YtfmfojogcghkkaaPx15
namespace Go.Proofs.Ytfmfojogcghkkaa.P
open Go.RowKit Go.Proofs.YtfmfojogcghkkaaW.PrintWords Go.Proofs.YtfmfojogcghkkaaW.PrintLast Go.Proofs.YtfmfojogcghkkaaW.PrintMore
attribute [local go_sem] max2_int min2_int max_two min_two max_three min_three max_four min_four   -- for this text's walks alone
set_option linter.unusedVariables false
set_option linter.unusedSimpArgs false
mutual
def billetref05_Good.j0 : Nat → List Int → Int → Int → Bool → Int → List (S41) → Option (Bool)
 | 0, _, _, _, _, _, _ => none
 | k + 1, x1, x2, x3, x40, x225000, x225001 => if x40 = true then (some false) else (billetref05_Good.l0 k x1 x2 x3 0 x225000 x225001)
def billetref05_Good.l0 : Nat → List Int → Int → Int → Int → Int → List (S41) → Option (Bool)
 | 0, _, _, _, _, _, _ => none
 | k + 1, x1, x2, x3, x10, x225000, x225001 => if x10 < x225000 then (if x10 = x2 then (billetref05_Good.l0 k x1 x2 x3 (wrap64 (x10 + 1)) x225000 x225001) else (if x10 = x3 then (billetref05_Good.l0 k x1 x2 x3 (wrap64 (x10 + 1)) x225000 x225001) else ((billetref05_out.f k x225000 x225001 x1 x10).bind fun t226 => (if t226 = 0 then (billetref05_Good.l0 k x1 x2 x3 (wrap64 (x10 + 1)) x225000 x225001) else (some false))))) else (some true)
end
def billetref05_Good.f (k : Nat) (a0_0 : Int) (l0_1 : List (S41)) (l1 : List Int) (a2 : Int) (a3 : Int) : Option (Bool) := (billetref05_fits.f k a0_0 l0_1 l1).bind fun t225 => (if t225 = true then (if a2 < 0 then (billetref05_Good.j0 k l1 a2 a3 true a0_0 l0_1) else (if a2 ≥ a0_0 then (billetref05_Good.j0 k l1 a2 a3 true a0_0 l0_1) else (if a3 < 0 then (billetref05_Good.j0 k l1 a2 a3 true a0_0 l0_1) else (if a3 ≥ a0_0 then (billetref05_Good.j0 k l1 a2 a3 true a0_0 l0_1) else (billetref05_Good.j0 k l1 a2 a3 (a2 == a3) a0_0 l0_1))))) else (billetref05_Good.j0 k l1 a2 a3 true a0_0 l0_1))
theorem billetref05_Good.mono_l : ∀ k, (∀ y0 y1 y2 y3 y4 y5, LeO (billetref05_Good.j0 k y0 y1 y2 y3 y4 y5) (billetref05_Good.j0 (k + 1) y0 y1 y2 y3 y4 y5)) ∧ (∀ y0 y1 y2 y3 y4 y5, LeO (billetref05_Good.l0 k y0 y1 y2 y3 y4 y5) (billetref05_Good.l0 (k + 1) y0 y1 y2 y3 y4 y5))
 | 0 => ⟨fun _ _ _ _ _ _ r h => by simp [billetref05_Good.j0] at h, fun _ _ _ _ _ _ r h => by simp [billetref05_Good.l0] at h⟩
 | k + 1 => by
  obtain ⟨ih0, ih1⟩ := billetref05_Good.mono_l k
  refine ⟨?_, ?_⟩
  ·intro y0 y1 y2 y3 y4 y5
   unfold billetref05_Good.j0
   repeat' first
   | (with_reducible exact ih0 _ _ _ _ _ _)
   | (with_reducible exact ih1 _ _ _ _ _ _)
   | (with_reducible exact billetref05_fits.mono _ _ _ _)
   | (with_reducible exact billetref05_out.mono _ _ _ _ _)
   | (with_reducible exact LeO.refl _)
   | (with_reducible exact LeO.none _)
   | (with_reducible refine LeO.ite ?_ ?_)
   | (with_reducible refine LeO.bind ?_ (fun _ => ?_))
   | exact ih0 _ _ _ _ _ _
   | exact ih1 _ _ _ _ _ _
   | exact billetref05_fits.mono _ _ _ _
   | exact billetref05_out.mono _ _ _ _ _
   | exact LeO.none _
   | refine LeO.ite ?_ ?_
   | refine LeO.bind ?_ (fun _ => ?_)
  ·intro y0 y1 y2 y3 y4 y5
   unfold billetref05_Good.l0
   repeat' first
   | (with_reducible exact ih0 _ _ _ _ _ _)
   | (with_reducible exact ih1 _ _ _ _ _ _)
   | (with_reducible exact billetref05_fits.mono _ _ _ _)
   | (with_reducible exact billetref05_out.mono _ _ _ _ _)
   | (with_reducible exact LeO.refl _)
   | (with_reducible exact LeO.none _)
   | (with_reducible refine LeO.ite ?_ ?_)
   | (with_reducible refine LeO.bind ?_ (fun _ => ?_))
   | exact ih0 _ _ _ _ _ _
   | exact ih1 _ _ _ _ _ _
   | exact billetref05_fits.mono _ _ _ _
   | exact billetref05_out.mono _ _ _ _ _
   | exact LeO.none _
   | refine LeO.ite ?_ ?_
   | refine LeO.bind ?_ (fun _ => ?_)
theorem billetref05_Good.mono : ∀ a0 a1 a2 a3 a4 k, LeO (billetref05_Good.f k a0 a1 a2 a3 a4) (billetref05_Good.f (k + 1) a0 a1 a2 a3 a4) := by
 intro a0 a1 a2 a3 a4 k
 obtain ⟨ih0, ih1⟩ := billetref05_Good.mono_l k
 unfold billetref05_Good.f
 repeat' first
   | (with_reducible exact ih0 _ _ _ _ _ _)
   | (with_reducible exact ih1 _ _ _ _ _ _)
   | (with_reducible exact billetref05_fits.mono _ _ _ _)
   | (with_reducible exact billetref05_out.mono _ _ _ _ _)
   | (with_reducible exact LeO.refl _)
   | (with_reducible exact LeO.none _)
   | (with_reducible refine LeO.ite ?_ ?_)
   | (with_reducible refine LeO.bind ?_ (fun _ => ?_))
   | exact ih0 _ _ _ _ _ _
   | exact ih1 _ _ _ _ _ _
   | exact billetref05_fits.mono _ _ _ _
   | exact billetref05_out.mono _ _ _ _ _
   | exact LeO.none _
   | refine LeO.ite ?_ ?_
   | refine LeO.bind ?_ (fun _ => ?_)
set_option maxHeartbeats 8000000 in
set_option maxRecDepth 100000 in
theorem billetref05_Good.calls (k : Nat) (a0_0 : Int) (A0_1 : Option Addr) (c0_1 : Nat) (l0_1 : List (S41)) (A1 : Option Addr) (c1 : Nat) (l1 : List Int) (a2 : Int) (a3 : Int) (r : Bool) (w : World) (hr0_1 : Kd.C k41 w A0_1 l0_1.length l0_1) (hc0_1 : l0_1.length ≤ c0_1) (hr1 : Kd.C (Kd.int .i64) w A1 l1.length l1) (hc1 : l1.length ≤ c1) (h : billetref05_Good.f k a0_0 l0_1 l1 a2 a3 = some r) :
  Calls Try.prog 24 #[.agg #[.int .i64 a0_0, .slice A0_1 l0_1.length c0_1], .slice A1 l1.length c1, .int .i64 a2, .int .i64 a3] w fun e w' => e = .returned (.bool r) ∧ Below w.heap.size w w' := by
 have hu24 := Try.underlying24
 have HR0_1 := Aside0.mk hr0_1
 have HC0_1 := Aside0.mk hc0_1
 clear hr0_1 hc0_1
 have HR1 := Aside0.mk hr1
 have HC1 := Aside0.mk hc1
 clear hr1 hc1
 have HB := Aside0.mk (Below.refl w.heap.size w)
 have H : ((billetref05_fits.f k a0_0 l0_1 l1).bind fun t225 => (if t225 = true then (if a2 < 0 then (billetref05_Good.j0 k l1 a2 a3 true a0_0 l0_1) else (if a2 ≥ a0_0 then (billetref05_Good.j0 k l1 a2 a3 true a0_0 l0_1) else (if a3 < 0 then (billetref05_Good.j0 k l1 a2 a3 true a0_0 l0_1) else (if a3 ≥ a0_0 then (billetref05_Good.j0 k l1 a2 a3 true a0_0 l0_1) else (billetref05_Good.j0 k l1 a2 a3 (a2 == a3) a0_0 l0_1))))) else (billetref05_Good.j0 k l1 a2 a3 true a0_0 l0_1))) = some r := h
 clear h
 replace H := Option.bind_eq_some_iff.mp H
 obtain ⟨t225, A50, H⟩ := H
 replace H : (if t225 = true then (if a2 < 0 then (billetref05_Good.j0 k l1 a2 a3 true a0_0 l0_1) else (if a2 ≥ a0_0 then (billetref05_Good.j0 k l1 a2 a3 true a0_0 l0_1) else (if a3 < 0 then (billetref05_Good.j0 k l1 a2 a3 true a0_0 l0_1) else (if a3 ≥ a0_0 then (billetref05_Good.j0 k l1 a2 a3 true a0_0 l0_1) else (billetref05_Good.j0 k l1 a2 a3 (a2 == a3) a0_0 l0_1))))) else (billetref05_Good.j0 k l1 a2 a3 true a0_0 l0_1)) = some r := H
 have A5 := Aside0.mk A50
 clear A50
 have HC6 := Aside0.mk H
 clear H
 go_enter Try.func24, Try.ntmps24
 go_upto_region 2 with (first | ((with_reducible refine gate_dst (N := 4) rfl ?_); refine box_event ?hg (N := 4) ?hd (cs := #[.int .i64 a0_0, .slice A0_1 l0_1.length c0_1]) (t := 24) ?hr ?_; (case hd => rfl); (case hg => rfl); (case hr => first | (go_simp; done) | (go_simp; rfl)); intro gb224 hg w7 hbox hb; have n0_ := Aside0.mk (below_step (by repeat (first | (with_reducible first | exact HB.out | apply below_alloc | apply pw_below_drewN | apply below_drew1) | exact HB.out)) hb); have n1_ := Aside0.mk (hbox); have n2_ := Aside0.mk ((by rw [hg]; exact (below_size (by repeat (first | (with_reducible first | exact HB.out | apply below_alloc | apply pw_below_drewN | apply below_drew1) | exact HB.out))) : w.heap.size ≤ gb224)); have n3_ := Aside0.mk ((by rw [hg]; exact (below_size (by repeat (first | (with_reducible first | exact HB.out | apply below_alloc | apply pw_below_drewN | apply below_drew1) | exact HB.out))) : w.heap.size ≤ gb224)); clear HB; have HB := n0_; have BK224 := n1_; have GW224 := n2_; have GE224 := n3_; clear n0_ n1_ n2_ n3_; clear hb hbox hg; have hcz8_0 : w7.cell? ⟨gb224, 0, none⟩ = some (.int .i64 a0_0) := (blk_cell BK224.out 0).trans rfl; have hcz8_1 : w7.cell? ⟨gb224, 1, none⟩ = some (.slice A0_1 l0_1.length c0_1) := (blk_cell BK224.out 1).trans rfl; have hfz8_0 := blk_frozen BK224.out 0; have hfz8_1 := blk_frozen BK224.out 1) | ((with_reducible refine gate_callee (f := 46) rfl ?_); refine goesL_ (some 13) rfl rfl Try.func46 (by kernel_rfl) rfl #[.agg #[.int .i64 a0_0, .slice A0_1 l0_1.length c0_1], .slice A1 l1.length c1] rfl (by (try simp only [List.map_toArray, List.map_cons, List.map_nil]); first | done | rfl | (simp only [List.length_drop, List.length_take]; rfl)) ?_; (with_reducible refine (billetref05_fits.calls k a0_0 _ _ l0_1 _ _ l1 t225 _ ?side1 ?side2 ?side3 ?side4 A5.out).mono ?_); (case side1 => repeat (first | exact (Kd.C_below HR0_1.out HB.out) | (with_reducible refine Kd.C_alloc ?_ _) | (with_reducible refine Kd.C_drewN ?_ _) | (with_reducible refine Kd.C_drew ?_))); (case side2 => exact HC0_1.out); (case side3 => repeat (first | exact (Kd.C_below HR1.out HB.out) | (with_reducible refine Kd.C_alloc ?_ _) | (with_reducible refine Kd.C_drewN ?_ _) | (with_reducible refine Kd.C_drew ?_))); (case side4 => exact HC1.out); rintro e w9 ⟨rfl, hb⟩; refine ⟨_, rfl, ?_⟩; have n0_ := Aside0.mk (blk_below (g := gb224) (o := .cells #[.int .i64 a0_0, .slice A0_1 l0_1.length c0_1] 24 (0, 0)) (by (with_reducible repeat (first | refine blk_drewN ?_ _ | refine blk_drew ?_ | refine blk_alloc ?_ _)); exact BK224.out) hb); have n1_ := Aside0.mk (below_step (by repeat (first | (with_reducible first | exact HB.out | apply below_alloc | apply pw_below_drewN | apply below_drew1 | refine below_set ?_ GE224.out) | exact HB.out)) hb); clear BK224; clear HB; have BK224 := n0_; have HB := n1_; clear n0_ n1_; (try clear hb); (try clear hb2); (try clear hk); (try clear hi)))
 (try simp only [Act.put, List.setIfInBounds_toArray, List.set_cons_zero, List.set_cons_succ])
 go_cut [40] (fun v40 wc => ∃ (kq : Nat) (x40_5 : Bool), v40 = .bool x40_5 ∧ Aside0 (billetref05_Good.j0 kq l1 a2 a3 x40_5 a0_0 l0_1 = some r) ∧ Aside0 (kq ≤ k) ∧ Aside0 (wc.heap[gb224]? = some (.cells #[.int .i64 a0_0, (.slice A0_1 l0_1.length c0_1)] 24 (0, 0))) ∧ Aside0 (Below w.heap.size w wc))
 case first =>
  have H := HC6.out
  clear HC6
  by_cases c10 : t225 = true
  ·subst c10
   have H1 : (if a2 < 0 then (billetref05_Good.j0 k l1 a2 a3 true a0_0 l0_1) else (if a2 ≥ a0_0 then (billetref05_Good.j0 k l1 a2 a3 true a0_0 l0_1) else (if a3 < 0 then (billetref05_Good.j0 k l1 a2 a3 true a0_0 l0_1) else (if a3 ≥ a0_0 then (billetref05_Good.j0 k l1 a2 a3 true a0_0 l0_1) else (billetref05_Good.j0 k l1 a2 a3 (a2 == a3) a0_0 l0_1))))) = some r := by rw [if_pos rfl] at H; exact H
   clear H
   have H := H1
   clear H1
   by_cases c11 : a2 < 0
   ·rw [if_pos c11] at H
    have c11b0 : decide (a2 < 0) = true := decide_eq_true c11
    clear c11
    (first | rw [c11b0] | (simp only [i64_w, i32_w]; rw [c11b0]) | skip)
    have H' := Aside0.mk H
    clear H
    go_wp2
    go_meet
    case rel => exact ⟨_, (true), (by first | rfl | (simp; done) | (simp [*]; done)), H', ⟨by first | omega | exact Nat.le_refl _⟩, ⟨by (with_reducible repeat (first | refine blk_drewN ?_ _ | refine blk_drew ?_ | refine blk_alloc ?_ _)); exact BK224.out⟩, ⟨by repeat (first | (with_reducible first | exact HB.out | apply below_alloc | apply pw_below_drewN | apply below_drew1 | refine below_set ?_ GE224.out) | exact HB.out)⟩⟩
   ·rw [if_neg c11] at H
    have c11b0 : decide (a2 < 0) = false := decide_eq_false c11
    clear c11
    (first | rw [c11b0] | (simp only [i64_w, i32_w]; rw [c11b0]) | skip)
    by_cases c12 : a2 ≥ a0_0
    ·rw [if_pos c12] at H
     have c12b0 : decide (a0_0 ≤ a2) = true := decide_eq_true c12
     clear c12
     have H' := Aside0.mk H
     clear H
     have hcz13_0 : w9.cell? ⟨gb224, 0, none⟩ = some (.int .i64 a0_0) := (blk_cell BK224.out 0).trans rfl
     have hcz13_1 : w9.cell? ⟨gb224, 1, none⟩ = some (.slice A0_1 l0_1.length c0_1) := (blk_cell BK224.out 1).trans rfl
     have hfz13_0 := blk_frozen BK224.out 0
     have hfz13_1 := blk_frozen BK224.out 1
     go_wp2
     go_meet
     case rel => exact ⟨_, (true), (by first | rfl | (simp; done) | (simp [*]; done)), H', ⟨by first | omega | exact Nat.le_refl _⟩, ⟨by (with_reducible repeat (first | refine blk_drewN ?_ _ | refine blk_drew ?_ | refine blk_alloc ?_ _)); exact BK224.out⟩, ⟨by repeat (first | (with_reducible first | exact HB.out | apply below_alloc | apply pw_below_drewN | apply below_drew1 | refine below_set ?_ GE224.out) | exact HB.out)⟩⟩
    ·rw [if_neg c12] at H
     have c12b0 : decide (a0_0 ≤ a2) = false := decide_eq_false c12
     clear c12
     by_cases c14 : a3 < 0
     ·rw [if_pos c14] at H
      have c14b0 : decide (a3 < 0) = true := decide_eq_true c14
      clear c14
      have H' := Aside0.mk H
      clear H
      have hcz15_0 : w9.cell? ⟨gb224, 0, none⟩ = some (.int .i64 a0_0) := (blk_cell BK224.out 0).trans rfl
      have hcz15_1 : w9.cell? ⟨gb224, 1, none⟩ = some (.slice A0_1 l0_1.length c0_1) := (blk_cell BK224.out 1).trans rfl
      have hfz15_0 := blk_frozen BK224.out 0
      have hfz15_1 := blk_frozen BK224.out 1
      go_wp2
      go_meet
      case rel => exact ⟨_, (true), (by first | rfl | (simp; done) | (simp [*]; done)), H', ⟨by first | omega | exact Nat.le_refl _⟩, ⟨by (with_reducible repeat (first | refine blk_drewN ?_ _ | refine blk_drew ?_ | refine blk_alloc ?_ _)); exact BK224.out⟩, ⟨by repeat (first | (with_reducible first | exact HB.out | apply below_alloc | apply pw_below_drewN | apply below_drew1 | refine below_set ?_ GE224.out) | exact HB.out)⟩⟩
     ·rw [if_neg c14] at H
      have c14b0 : decide (a3 < 0) = false := decide_eq_false c14
      clear c14
      by_cases c16 : a3 ≥ a0_0
      ·rw [if_pos c16] at H
       have c16b0 : decide (a0_0 ≤ a3) = true := decide_eq_true c16
       clear c16
       have H' := Aside0.mk H
       clear H
       have hcz17_0 : w9.cell? ⟨gb224, 0, none⟩ = some (.int .i64 a0_0) := (blk_cell BK224.out 0).trans rfl
       have hcz17_1 : w9.cell? ⟨gb224, 1, none⟩ = some (.slice A0_1 l0_1.length c0_1) := (blk_cell BK224.out 1).trans rfl
       have hfz17_0 := blk_frozen BK224.out 0
       have hfz17_1 := blk_frozen BK224.out 1
       go_wp2
       go_meet
       case rel => exact ⟨_, (true), (by first | rfl | (simp; done) | (simp [*]; done)), H', ⟨by first | omega | exact Nat.le_refl _⟩, ⟨by (with_reducible repeat (first | refine blk_drewN ?_ _ | refine blk_drew ?_ | refine blk_alloc ?_ _)); exact BK224.out⟩, ⟨by repeat (first | (with_reducible first | exact HB.out | apply below_alloc | apply pw_below_drewN | apply below_drew1 | refine below_set ?_ GE224.out) | exact HB.out)⟩⟩
      ·rw [if_neg c16] at H
       have c16b0 : decide (a0_0 ≤ a3) = false := decide_eq_false c16
       clear c16
       have H' := Aside0.mk H
       clear H
       have hcz18_0 : w9.cell? ⟨gb224, 0, none⟩ = some (.int .i64 a0_0) := (blk_cell BK224.out 0).trans rfl
       have hcz18_1 : w9.cell? ⟨gb224, 1, none⟩ = some (.slice A0_1 l0_1.length c0_1) := (blk_cell BK224.out 1).trans rfl
       have hfz18_0 := blk_frozen BK224.out 0
       have hfz18_1 := blk_frozen BK224.out 1
       go_wp2
       go_meet
       case rel => exact ⟨_, ((a2 == a3)), (by first | rfl | (simp; done) | (simp [*]; done)), H', ⟨by first | omega | exact Nat.le_refl _⟩, ⟨by (with_reducible repeat (first | refine blk_drewN ?_ _ | refine blk_drew ?_ | refine blk_alloc ?_ _)); exact BK224.out⟩, ⟨by repeat (first | (with_reducible first | exact HB.out | apply below_alloc | apply pw_below_drewN | apply below_drew1 | refine below_set ?_ GE224.out) | exact HB.out)⟩⟩
  ·replace c10 := Bool.eq_false_iff.mpr c10
   subst c10
   have H1 : (billetref05_Good.j0 k l1 a2 a3 true a0_0 l0_1) = some r := by rw [if_neg (show ¬ (false = true) by decide)] at H; exact H
   clear H
   have H := H1
   clear H1
   have H' := Aside0.mk H
   clear H
   go_wp2
   go_meet
   case rel => exact ⟨_, (true), (by first | rfl | (simp; done) | (simp [*]; done)), H', ⟨by first | omega | exact Nat.le_refl _⟩, ⟨by (with_reducible repeat (first | refine blk_drewN ?_ _ | refine blk_drew ?_ | refine blk_alloc ?_ _)); exact BK224.out⟩, ⟨by repeat (first | (with_reducible first | exact HB.out | apply below_alloc | apply pw_below_drewN | apply below_drew1 | refine below_set ?_ GE224.out) | exact HB.out)⟩⟩
 case rest =>
  clear HC6
  try clear c1
  try clear c2
  try clear p2
  try clear c4
  try clear c10
  try clear c11
  try clear c11b0
  try clear c12
  try clear c12b0
  try clear c14
  try clear c14b0
  try clear c16
  try clear c16b0
  try clear hcz13_0
  try clear hcz13_1
  try clear hcz15_0
  try clear hcz15_1
  try clear hcz17_0
  try clear hcz17_1
  try clear hcz18_0
  try clear hcz18_1
  try clear hcz8_0
  try clear hcz8_1
  try clear hfz13_0
  try clear hfz13_1
  try clear hfz15_0
  try clear hfz15_1
  try clear hfz17_0
  try clear hfz17_1
  try clear hfz18_0
  try clear hfz18_1
  try clear hfz8_0
  try clear hfz8_1
  obtain ⟨kq, x40_5, rfl, HA, HJ5, BK224, HB⟩ := hcut
  cases kq with
  | zero => exact absurd HA.out (by simp [billetref05_Good.j0])
  | succ kj5 =>
   have H := HA.out
   clear HA
   simp only [billetref05_Good.j0] at H
   by_cases c19 : x40_5 = true
   ·subst c19
    have H1 : (some false) = some r := by rw [if_pos rfl] at H; exact H
    clear H
    have H := H1
    clear H1
    obtain rfl := Option.some.inj H
    go_wp2
    go_ret
    exact ⟨by first | rfl | (simp [errW_none, errW_some] <;> rfl) | (simp [*, errW_none, errW_some] <;> rfl), by repeat (first | (with_reducible first | exact HB.out | apply below_alloc | apply pw_below_drewN | apply below_drew1 | refine below_set ?_ GE224.out) | exact HB.out)⟩
   ·replace c19 := Bool.eq_false_iff.mpr c19
    subst c19
    have H1 : (billetref05_Good.l0 kj5 l1 a2 a3 0 a0_0 l0_1) = some r := by rw [if_neg (show ¬ (false = true) by decide)] at H; exact H
    clear H
    have H := H1
    clear H1
    have H' := Aside0.mk H
    clear H
    go_wp2
    go_loopg [10] kj5 (fun kq v10 w' => ∃ (x10_2 : Int), v10 = .int .i64 x10_2 ∧ Aside0 (billetref05_Good.l0 kq l1 a2 a3 x10_2 a0_0 l0_1 = some r) ∧ Aside0 (kq ≤ kj5) ∧ Aside0 (w'.heap[gb224]? = some (.cells #[.int .i64 a0_0, (.slice A0_1 l0_1.length c0_1)] 24 (0, 0))) ∧ Aside0 (Below w.heap.size w w'))
    case atStart => exact ⟨(0), (by first | rfl | (simp; done) | (simp [*]; done)), H', ⟨Nat.le_refl _⟩, ⟨by (with_reducible repeat (first | refine blk_drewN ?_ _ | refine blk_drew ?_ | refine blk_alloc ?_ _)); exact BK224.out⟩, ⟨by repeat (first | (with_reducible first | exact HB.out | apply below_alloc | apply pw_below_drewN | apply below_drew1 | refine below_set ?_ GE224.out) | exact HB.out)⟩⟩
    case round =>
     clear H'
     try clear c1
     try clear c2
     try clear p2
     try clear c4
     try clear c10
     try clear c11
     try clear c11b0
     try clear c12
     try clear c12b0
     try clear c14
     try clear c14b0
     try clear c16
     try clear c16b0
     try clear c19
     try clear hcz13_0
     try clear hcz13_1
     try clear hcz15_0
     try clear hcz15_1
     try clear hcz17_0
     try clear hcz17_1
     try clear hcz18_0
     try clear hcz18_1
     try clear hcz8_0
     try clear hcz8_1
     try clear hfz13_0
     try clear hfz13_1
     try clear hfz15_0
     try clear hfz15_1
     try clear hfz17_0
     try clear hfz17_1
     try clear hfz18_0
     try clear hfz18_1
     try clear hfz8_0
     try clear hfz8_1
     try clear p2
     obtain ⟨x10_2, rfl, HA, HK2, BK224, HB⟩ := hrel
     cases gk with
     | zero => exact absurd HA.out (by simp [billetref05_Good.l0])
     | succ k2 =>
      have H := HA.out
      clear HA
      simp only [billetref05_Good.l0] at H
      by_cases c20 : x10_2 < a0_0
      ·rw [if_pos c20] at H
       have c20b0 : decide (x10_2 < a0_0) = true := decide_eq_true c20
       clear c20
       by_cases c21 : x10_2 = a2
       ·rw [if_pos c21] at H
        have c21b0 : (x10_2 == a2) = true := beq_iff_eq.mpr c21
        have c21b1 : (x10_2 != a2) = false := bne_eq_false_iff_eq.mpr c21
        clear c21
        have H' := Aside0.mk H
        clear H
        have hcz22_0 : wr.cell? ⟨gb224, 0, none⟩ = some (.int .i64 a0_0) := (blk_cell BK224.out 0).trans rfl
        have hcz22_1 : wr.cell? ⟨gb224, 1, none⟩ = some (.slice A0_1 l0_1.length c0_1) := (blk_cell BK224.out 1).trans rfl
        have hfz22_0 := blk_frozen BK224.out 0
        have hfz22_1 := blk_frozen BK224.out 1
        go_wp2
        go_roundg k2
        case measure => have := HJ5.out; have := HK2.out; omega
        case rel => exact ⟨(wrap64 (x10_2 + 1)), (by first | rfl | (simp; done) | (simp [*]; done)), H', ⟨by have := HJ5.out; have := HK2.out; omega⟩, ⟨by (with_reducible repeat (first | refine blk_drewN ?_ _ | refine blk_drew ?_ | refine blk_alloc ?_ _)); exact BK224.out⟩, ⟨by repeat (first | (with_reducible first | exact HB.out | apply below_alloc | apply pw_below_drewN | apply below_drew1 | refine below_set ?_ GE224.out) | exact HB.out)⟩⟩
       ·rw [if_neg c21] at H
        have c21b0 : (x10_2 == a2) = false := beq_eq_false_iff_ne.mpr c21
        have c21b1 : (x10_2 != a2) = true := bne_iff_ne.mpr c21
        by_cases c23 : x10_2 = a3
        ·rw [if_pos c23] at H
         have c23b0 : (x10_2 == a3) = true := beq_iff_eq.mpr c23
         have c23b1 : (x10_2 != a3) = false := bne_eq_false_iff_eq.mpr c23
         clear c23
         have H' := Aside0.mk H
         clear H
         have hcz24_0 : wr.cell? ⟨gb224, 0, none⟩ = some (.int .i64 a0_0) := (blk_cell BK224.out 0).trans rfl
         have hcz24_1 : wr.cell? ⟨gb224, 1, none⟩ = some (.slice A0_1 l0_1.length c0_1) := (blk_cell BK224.out 1).trans rfl
         have hfz24_0 := blk_frozen BK224.out 0
         have hfz24_1 := blk_frozen BK224.out 1
         go_wp2
         go_roundg k2
         case measure => have := HJ5.out; have := HK2.out; omega
         case rel => exact ⟨(wrap64 (x10_2 + 1)), (by first | rfl | (simp; done) | (simp [*]; done)), H', ⟨by have := HJ5.out; have := HK2.out; omega⟩, ⟨by (with_reducible repeat (first | refine blk_drewN ?_ _ | refine blk_drew ?_ | refine blk_alloc ?_ _)); exact BK224.out⟩, ⟨by repeat (first | (with_reducible first | exact HB.out | apply below_alloc | apply pw_below_drewN | apply below_drew1 | refine below_set ?_ GE224.out) | exact HB.out)⟩⟩
        ·rw [if_neg c23] at H
         have c23b0 : (x10_2 == a3) = false := beq_eq_false_iff_ne.mpr c23
         have c23b1 : (x10_2 != a3) = true := bne_iff_ne.mpr c23
         replace H := Option.bind_eq_some_iff.mp H
         obtain ⟨t226, A250, H⟩ := H
         replace H : (if t226 = 0 then (billetref05_Good.l0 k2 l1 a2 a3 (wrap64 (x10_2 + 1)) a0_0 l0_1) else (some false)) = some r := H
         have A25 := Aside0.mk A250
         clear A250
         by_cases c26 : t226 = 0
         ·rw [if_pos c26] at H
          have c26b0 : (t226 == 0) = true := beq_iff_eq.mpr c26
          have c26b1 : (t226 != 0) = false := bne_eq_false_iff_eq.mpr c26
          clear c26
          have H' := Aside0.mk H
          clear H
          have hcz27_0 : wr.cell? ⟨gb224, 0, none⟩ = some (.int .i64 a0_0) := (blk_cell BK224.out 0).trans rfl
          have hcz27_1 : wr.cell? ⟨gb224, 1, none⟩ = some (.slice A0_1 l0_1.length c0_1) := (blk_cell BK224.out 1).trans rfl
          have hfz27_0 := blk_frozen BK224.out 0
          have hfz27_1 := blk_frozen BK224.out 1
          go_wp2_with (first | (go_at_call 50; (with_reducible refine (billetref05_out.calls k2 a0_0 _ _ l0_1 _ _ l1 x10_2 t226 _ ?side1 ?side2 ?side3 ?side4 A25.out).mono ?_); (case side1 => repeat (first | exact (Kd.C_below HR0_1.out HB.out) | (with_reducible refine Kd.C_alloc ?_ _) | (with_reducible refine Kd.C_drewN ?_ _) | (with_reducible refine Kd.C_drew ?_))); (case side2 => exact HC0_1.out); (case side3 => repeat (first | exact (Kd.C_below HR1.out HB.out) | (with_reducible refine Kd.C_alloc ?_ _) | (with_reducible refine Kd.C_drewN ?_ _) | (with_reducible refine Kd.C_drew ?_))); (case side4 => exact HC1.out); rintro e w28 ⟨rfl, hb⟩; have n0_ := Aside0.mk (blk_below (g := gb224) (o := .cells #[.int .i64 a0_0, .slice A0_1 l0_1.length c0_1] 24 (0, 0)) (by (with_reducible repeat (first | refine blk_drewN ?_ _ | refine blk_drew ?_ | refine blk_alloc ?_ _)); exact BK224.out) hb); have n1_ := Aside0.mk (below_step (by repeat (first | (with_reducible first | exact HB.out | apply below_alloc | apply pw_below_drewN | apply below_drew1 | refine below_set ?_ GE224.out) | exact HB.out)) hb); clear BK224; clear HB; have BK224 := n0_; have HB := n1_; clear n0_ n1_; (try clear hb); (try clear hb2); (try clear hk); (try clear hi)))
          go_roundg k2
          case measure => have := HJ5.out; have := HK2.out; omega
          case rel => exact ⟨(wrap64 (x10_2 + 1)), (by first | rfl | (simp; done) | (simp [*]; done)), H', ⟨by have := HJ5.out; have := HK2.out; omega⟩, ⟨by (with_reducible repeat (first | refine blk_drewN ?_ _ | refine blk_drew ?_ | refine blk_alloc ?_ _)); exact BK224.out⟩, ⟨by repeat (first | (with_reducible first | exact HB.out | apply below_alloc | apply pw_below_drewN | apply below_drew1 | refine below_set ?_ GE224.out) | exact HB.out)⟩⟩
         ·rw [if_neg c26] at H
          have c26b0 : (t226 == 0) = false := beq_eq_false_iff_ne.mpr c26
          have c26b1 : (t226 != 0) = true := bne_iff_ne.mpr c26
          obtain rfl := Option.some.inj H
          have hcz29_0 : wr.cell? ⟨gb224, 0, none⟩ = some (.int .i64 a0_0) := (blk_cell BK224.out 0).trans rfl
          have hcz29_1 : wr.cell? ⟨gb224, 1, none⟩ = some (.slice A0_1 l0_1.length c0_1) := (blk_cell BK224.out 1).trans rfl
          have hfz29_0 := blk_frozen BK224.out 0
          have hfz29_1 := blk_frozen BK224.out 1
          go_wp2_with (first | (go_at_call 50; (with_reducible refine (billetref05_out.calls k2 a0_0 _ _ l0_1 _ _ l1 x10_2 t226 _ ?side1 ?side2 ?side3 ?side4 A25.out).mono ?_); (case side1 => repeat (first | exact (Kd.C_below HR0_1.out HB.out) | (with_reducible refine Kd.C_alloc ?_ _) | (with_reducible refine Kd.C_drewN ?_ _) | (with_reducible refine Kd.C_drew ?_))); (case side2 => exact HC0_1.out); (case side3 => repeat (first | exact (Kd.C_below HR1.out HB.out) | (with_reducible refine Kd.C_alloc ?_ _) | (with_reducible refine Kd.C_drewN ?_ _) | (with_reducible refine Kd.C_drew ?_))); (case side4 => exact HC1.out); rintro e w30 ⟨rfl, hb⟩; have n0_ := Aside0.mk (blk_below (g := gb224) (o := .cells #[.int .i64 a0_0, .slice A0_1 l0_1.length c0_1] 24 (0, 0)) (by (with_reducible repeat (first | refine blk_drewN ?_ _ | refine blk_drew ?_ | refine blk_alloc ?_ _)); exact BK224.out) hb); have n1_ := Aside0.mk (below_step (by repeat (first | (with_reducible first | exact HB.out | apply below_alloc | apply pw_below_drewN | apply below_drew1 | refine below_set ?_ GE224.out) | exact HB.out)) hb); clear BK224; clear HB; have BK224 := n0_; have HB := n1_; clear n0_ n1_; (try clear hb); (try clear hb2); (try clear hk); (try clear hi)))
          go_ret
          exact ⟨by first | rfl | (simp [errW_none, errW_some] <;> rfl) | (simp [*, errW_none, errW_some] <;> rfl), by repeat (first | (with_reducible first | exact HB.out | apply below_alloc | apply pw_below_drewN | apply below_drew1 | refine below_set ?_ GE224.out) | exact HB.out)⟩
      ·rw [if_neg c20] at H
       have c20b0 : decide (x10_2 < a0_0) = false := decide_eq_false c20
       clear c20
       obtain rfl := Option.some.inj H
       have hcz31_0 : wr.cell? ⟨gb224, 0, none⟩ = some (.int .i64 a0_0) := (blk_cell BK224.out 0).trans rfl
       have hcz31_1 : wr.cell? ⟨gb224, 1, none⟩ = some (.slice A0_1 l0_1.length c0_1) := (blk_cell BK224.out 1).trans rfl
       have hfz31_0 := blk_frozen BK224.out 0
       have hfz31_1 := blk_frozen BK224.out 1
       go_wp2
       go_ret
       exact ⟨by first | rfl | (simp [errW_none, errW_some] <;> rfl) | (simp [*, errW_none, errW_some] <;> rfl), by repeat (first | (with_reducible first | exact HB.out | apply below_alloc | apply pw_below_drewN | apply below_drew1 | refine below_set ?_ GE224.out) | exact HB.out)⟩
end Go.Proofs.Ytfmfojogcghkkaa.P
