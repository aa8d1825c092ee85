import Derived.Test.YtfmfojogcghkkaaPx0
import Derived.Test.YtfmfojogcghkkaaPx2
namespace Go.Proofs.Ytfmfojogcghkkaa.P
open Go.RowKit Go.Proofs.YtfmfojogcghkkaaW.PrintWords Go.Proofs.YtfmfojogcghkkaaW.PrintLast Go.Proofs.YtfmfojogcghkkaaW.PrintMore
attribute [local go_sem] max2_int min2_int max_two min_two max_three min_three max_four min_four   -- for this text's walks alone
set_option linter.unusedVariables false
set_option linter.unusedSimpArgs false
mutual
def billetref05_Cut.j0 : Nat → List Bool → Bool → Int → List (S41) → Option (Int)
 | 0, _, _, _, _ => none
 | k + 1, x1, x18, x231000, x231001 => if x18 = true then (some 0) else (billetref05_Cut.l0 k x1 0 0 x231000 x231001)
def billetref05_Cut.l0 : Nat → List Bool → Int → Int → Int → List (S41) → Option (Int)
 | 0, _, _, _, _, _ => none
 | k + 1, x1, x6, x7, x231000, x231001 => if x7 < (x231001.length : Int) then (if 0 ≤ x7 then (if 0 ≤ ((rd_T41 x231001 x7).f0) then (if ((rd_T41 x231001 x7).f0) < (x1.length : Int) then (if rdOf false x1 ((rd_T41 x231001 x7).f0) = true then (if 0 ≤ ((rd_T41 x231001 x7).f1) then (if ((rd_T41 x231001 x7).f1) < (x1.length : Int) then (if (rdOf false x1 ((rd_T41 x231001 x7).f1) = true) then (billetref05_Cut.l0 k x1 x6 (wrap64 (x7 + 1)) x231000 x231001) else (billetref05_Cut.l0 k x1 (wrap64 (x6 + ((rd_T41 x231001 x7).f2))) (wrap64 (x7 + 1)) x231000 x231001)) else (none)) else (none)) else (billetref05_Cut.l0 k x1 x6 (wrap64 (x7 + 1)) x231000 x231001)) else (none)) else (none)) else (none)) else (some x6)
end
def billetref05_Cut.f (k : Nat) (a0_0 : Int) (l0_1 : List (S41)) (l1 : List Bool) : Option (Int) := (billetref05_Right.f k a0_0 l0_1).bind fun t231 => (if t231 = true then (billetref05_Cut.j0 k l1 ((l1.length : Int) != a0_0) a0_0 l0_1) else (billetref05_Cut.j0 k l1 true a0_0 l0_1))
theorem billetref05_Cut.mono_l : ∀ k, (∀ y0 y1 y2 y3, LeO (billetref05_Cut.j0 k y0 y1 y2 y3) (billetref05_Cut.j0 (k + 1) y0 y1 y2 y3)) ∧ (∀ y0 y1 y2 y3 y4, LeO (billetref05_Cut.l0 k y0 y1 y2 y3 y4) (billetref05_Cut.l0 (k + 1) y0 y1 y2 y3 y4))
 | 0 => ⟨fun _ _ _ _ r h => by simp [billetref05_Cut.j0] at h, fun _ _ _ _ _ r h => by simp [billetref05_Cut.l0] at h⟩
 | k + 1 => by
  obtain ⟨ih0, ih1⟩ := billetref05_Cut.mono_l k
  refine ⟨?_, ?_⟩
  ·intro y0 y1 y2 y3
   unfold billetref05_Cut.j0
   repeat' first
   | (with_reducible exact ih0 _ _ _ _)
   | (with_reducible exact ih1 _ _ _ _ _)
   | (with_reducible exact billetref05_Right.mono _ _ _)
   | (with_reducible exact LeO.refl _)
   | (with_reducible exact LeO.none _)
   | (with_reducible refine LeO.ite ?_ ?_)
   | (with_reducible refine LeO.bind ?_ (fun _ => ?_))
   | exact ih0 _ _ _ _
   | exact ih1 _ _ _ _ _
   | exact billetref05_Right.mono _ _ _
   | exact LeO.none _
   | refine LeO.ite ?_ ?_
   | refine LeO.bind ?_ (fun _ => ?_)
  ·intro y0 y1 y2 y3 y4
   unfold billetref05_Cut.l0
   repeat' first
   | (with_reducible exact ih0 _ _ _ _)
   | (with_reducible exact ih1 _ _ _ _ _)
   | (with_reducible exact billetref05_Right.mono _ _ _)
   | (with_reducible exact LeO.refl _)
   | (with_reducible exact LeO.none _)
   | (with_reducible refine LeO.ite ?_ ?_)
   | (with_reducible refine LeO.bind ?_ (fun _ => ?_))
   | exact ih0 _ _ _ _
   | exact ih1 _ _ _ _ _
   | exact billetref05_Right.mono _ _ _
   | exact LeO.none _
   | refine LeO.ite ?_ ?_
   | refine LeO.bind ?_ (fun _ => ?_)
theorem billetref05_Cut.mono : ∀ a0 a1 a2 k, LeO (billetref05_Cut.f k a0 a1 a2) (billetref05_Cut.f (k + 1) a0 a1 a2) := by
 intro a0 a1 a2 k
 obtain ⟨ih0, ih1⟩ := billetref05_Cut.mono_l k
 unfold billetref05_Cut.f
 repeat' first
   | (with_reducible exact ih0 _ _ _ _)
   | (with_reducible exact ih1 _ _ _ _ _)
   | (with_reducible exact billetref05_Right.mono _ _ _)
   | (with_reducible exact LeO.refl _)
   | (with_reducible exact LeO.none _)
   | (with_reducible refine LeO.ite ?_ ?_)
   | (with_reducible refine LeO.bind ?_ (fun _ => ?_))
   | exact ih0 _ _ _ _
   | exact ih1 _ _ _ _ _
   | exact billetref05_Right.mono _ _ _
   | exact LeO.none _
   | refine LeO.ite ?_ ?_
   | refine LeO.bind ?_ (fun _ => ?_)
set_option maxHeartbeats 8000000 in
set_option maxRecDepth 100000 in
theorem billetref05_Cut.calls (k : Nat) (a0_0 : Int) (A0_1 : Option Addr) (c0_1 : Nat) (l0_1 : List (S41)) (A1 : Option Addr) (c1 : Nat) (l1 : List Bool) (r : Int) (w : World) (hr0_1 : Kd.C k41 w A0_1 l0_1.length l0_1) (hc0_1 : l0_1.length ≤ c0_1) (hr1 : Kd.C Kd.bool w A1 l1.length l1) (hc1 : l1.length ≤ c1) (h : billetref05_Cut.f k a0_0 l0_1 l1 = some r) :
  Calls Try.prog 29 #[.agg #[.int .i64 a0_0, .slice A0_1 l0_1.length c0_1], .slice A1 l1.length c1] w fun e w' => e = .returned (.int .i64 r) ∧ Below w.heap.size w w' := by
 have hu24 := Try.underlying24
 have HR0_1 := Aside0.mk hr0_1
 have HC0_1 := Aside0.mk hc0_1
 clear hr0_1 hc0_1
 have HR1 := Aside0.mk hr1
 have HC1 := Aside0.mk hc1
 clear hr1 hc1
 have HB := Aside0.mk (Below.refl w.heap.size w)
 have H : ((billetref05_Right.f k a0_0 l0_1).bind fun t231 => (if t231 = true then (billetref05_Cut.j0 k l1 ((l1.length : Int) != a0_0) a0_0 l0_1) else (billetref05_Cut.j0 k l1 true a0_0 l0_1))) = some r := h
 clear h
 replace H := Option.bind_eq_some_iff.mp H
 obtain ⟨t231, A30, H⟩ := H
 replace H : (if t231 = true then (billetref05_Cut.j0 k l1 ((l1.length : Int) != a0_0) a0_0 l0_1) else (billetref05_Cut.j0 k l1 true a0_0 l0_1)) = some r := H
 have A3 := Aside0.mk A30
 clear A30
 have HC4 := Aside0.mk H
 clear H
 go_enter Try.func29, Try.ntmps29
 go_upto_region 2 with (first | ((with_reducible refine gate_dst (N := 2) rfl ?_); (try (refine gate_guard (by rfl) ?_; dsimp only)); refine box_event ?hg (N := 2) ?hd (cs := #[.int .i64 a0_0, .slice A0_1 l0_1.length c0_1]) (t := 24) ?hr ?_; (case hd => rfl); (case hg => rfl); (case hr => first | (go_simp; done) | (go_simp; rfl)); intro gb230 hg w5 hbox hb; have n0_ := Aside0.mk (below_step (by repeat (first | (with_reducible first | exact HB.out | apply below_alloc | apply pw_below_drewN | apply below_drew1) | exact HB.out)) hb); have n1_ := Aside0.mk (hbox); have n2_ := Aside0.mk ((by rw [hg]; exact (below_size (by repeat (first | (with_reducible first | exact HB.out | apply below_alloc | apply pw_below_drewN | apply below_drew1) | exact HB.out))) : w.heap.size ≤ gb230)); have n3_ := Aside0.mk ((by rw [hg]; exact (below_size (by repeat (first | (with_reducible first | exact HB.out | apply below_alloc | apply pw_below_drewN | apply below_drew1) | exact HB.out))) : w.heap.size ≤ gb230)); clear HB; have HB := n0_; have BK230 := n1_; have GW230 := n2_; have GE230 := n3_; clear n0_ n1_ n2_ n3_; clear hb hbox hg; have hcz6_0 : w5.cell? ⟨gb230, 0, none⟩ = some (.int .i64 a0_0) := (blk_cell BK230.out 0).trans rfl; have hcz6_1 : w5.cell? ⟨gb230, 1, none⟩ = some (.slice A0_1 l0_1.length c0_1) := (blk_cell BK230.out 1).trans rfl; have hfz6_0 := blk_frozen BK230.out 0; have hfz6_1 := blk_frozen BK230.out 1) | ((with_reducible refine gate_callee (f := 22) rfl ?_); refine goesL_ (some 9) rfl rfl Try.func22 (by kernel_rfl) rfl #[.agg #[.int .i64 a0_0, .slice A0_1 l0_1.length c0_1]] rfl (by (try simp only [List.map_toArray, List.map_cons, List.map_nil]); first | done | rfl | (simp only [List.length_drop, List.length_take]; rfl)) ?_; (with_reducible refine (billetref05_Right.calls k a0_0 _ _ l0_1 t231 _ ?side1 ?side2 A3.out).mono ?_); (case side1 => repeat (first | exact (Kd.C_below HR0_1.out HB.out) | (with_reducible refine Kd.C_alloc ?_ _) | (with_reducible refine Kd.C_drewN ?_ _) | (with_reducible refine Kd.C_drew ?_))); (case side2 => exact HC0_1.out); rintro e w7 ⟨rfl, hb⟩; refine ⟨_, rfl, ?_⟩; have n0_ := Aside0.mk (blk_below (g := gb230) (o := .cells #[.int .i64 a0_0, .slice A0_1 l0_1.length c0_1] 24 (0, 0)) (by (with_reducible repeat (first | refine blk_drewN ?_ _ | refine blk_drew ?_ | refine blk_alloc ?_ _)); exact BK230.out) hb); have n1_ := Aside0.mk (below_step (by repeat (first | (with_reducible first | exact HB.out | apply below_alloc | apply pw_below_drewN | apply below_drew1 | refine below_set ?_ GE230.out) | exact HB.out)) hb); clear BK230; clear HB; have BK230 := n0_; have HB := n1_; clear n0_ n1_; (try clear hb); (try clear hb2); (try clear hk); (try clear hi)))
 (try simp only [Act.put, List.setIfInBounds_toArray, List.set_cons_zero, List.set_cons_succ])
 go_cut [18] (fun v18 wc => ∃ (kq : Nat) (x18_3 : Bool), v18 = .bool x18_3 ∧ Aside0 (billetref05_Cut.j0 kq l1 x18_3 a0_0 l0_1 = some r) ∧ Aside0 (kq ≤ k) ∧ Aside0 (wc.heap[gb230]? = some (.cells #[.int .i64 a0_0, (.slice A0_1 l0_1.length c0_1)] 24 (0, 0))) ∧ Aside0 (Below w.heap.size w wc))
 case first =>
  have H := HC4.out
  clear HC4
  by_cases c8 : t231 = true
  ·subst c8
   have H1 : (billetref05_Cut.j0 k l1 ((l1.length : Int) != a0_0) a0_0 l0_1) = some r := by rw [if_pos rfl] at H; exact H
   clear H
   have H := H1
   clear H1
   have H' := Aside0.mk H
   clear H
   have hcz9_0 : w7.cell? ⟨gb230, 0, none⟩ = some (.int .i64 a0_0) := (blk_cell BK230.out 0).trans rfl
   have hcz9_1 : w7.cell? ⟨gb230, 1, none⟩ = some (.slice A0_1 l0_1.length c0_1) := (blk_cell BK230.out 1).trans rfl
   have hfz9_0 := blk_frozen BK230.out 0
   have hfz9_1 := blk_frozen BK230.out 1
   go_wp2
   go_meet
   case rel => exact ⟨_, (((l1.length : Int) != a0_0)), (by first | rfl | (simp; done) | (simp [*]; done)), H', ⟨by first | omega | exact Nat.le_refl _⟩, ⟨by (with_reducible repeat (first | refine blk_drewN ?_ _ | refine blk_drew ?_ | refine blk_alloc ?_ _)); exact BK230.out⟩, ⟨by repeat (first | (with_reducible first | exact HB.out | apply below_alloc | apply pw_below_drewN | apply below_drew1 | refine below_set ?_ GE230.out) | exact HB.out)⟩⟩
  ·replace c8 := Bool.eq_false_iff.mpr c8
   subst c8
   have H1 : (billetref05_Cut.j0 k l1 true a0_0 l0_1) = some r := by rw [if_neg (show ¬ (false = true) by decide)] at H; exact H
   clear H
   have H := H1
   clear H1
   have H' := Aside0.mk H
   clear H
   go_wp2
   go_meet
   case rel => exact ⟨_, (true), (by first | rfl | (simp; done) | (simp [*]; done)), H', ⟨by first | omega | exact Nat.le_refl _⟩, ⟨by (with_reducible repeat (first | refine blk_drewN ?_ _ | refine blk_drew ?_ | refine blk_alloc ?_ _)); exact BK230.out⟩, ⟨by repeat (first | (with_reducible first | exact HB.out | apply below_alloc | apply pw_below_drewN | apply below_drew1 | refine below_set ?_ GE230.out) | exact HB.out)⟩⟩
 case rest =>
  clear HC4
  try clear c1
  try clear c2
  try clear p2
  try clear c8
  try clear hcz6_0
  try clear hcz6_1
  try clear hcz9_0
  try clear hcz9_1
  try clear hfz6_0
  try clear hfz6_1
  try clear hfz9_0
  try clear hfz9_1
  obtain ⟨kq, x18_3, rfl, HA, HJ3, BK230, HB⟩ := hcut
  cases kq with
  | zero => exact absurd HA.out (by simp [billetref05_Cut.j0])
  | succ kj3 =>
   have H := HA.out
   clear HA
   simp only [billetref05_Cut.j0] at H
   by_cases c10 : x18_3 = true
   ·subst c10
    have H1 : (some 0) = some r := by rw [if_pos rfl] at H; exact H
    clear H
    have H := H1
    clear H1
    obtain rfl := Option.some.inj H
    go_wp2
    go_ret
    exact ⟨by first | rfl | (simp [errW_none, errW_some] <;> rfl) | (simp [*, errW_none, errW_some] <;> rfl), by repeat (first | (with_reducible first | exact HB.out | apply below_alloc | apply pw_below_drewN | apply below_drew1 | refine below_set ?_ GE230.out) | exact HB.out)⟩
   ·replace c10 := Bool.eq_false_iff.mpr c10
    subst c10
    have H1 : (billetref05_Cut.l0 kj3 l1 0 0 a0_0 l0_1) = some r := by rw [if_neg (show ¬ (false = true) by decide)] at H; exact H
    clear H
    have H := H1
    clear H1
    have H' := Aside0.mk H
    clear H
    go_wp2
    go_loopg [6, 7] kj3 (fun kq v6 v7 w' => ∃ (x6_2 : Int) (x7_2 : Int), v6 = .int .i64 x6_2 ∧ v7 = .int .i64 x7_2 ∧ Aside0 (billetref05_Cut.l0 kq l1 x6_2 x7_2 a0_0 l0_1 = some r) ∧ Aside0 (kq ≤ kj3) ∧ Aside0 (w'.heap[gb230]? = some (.cells #[.int .i64 a0_0, (.slice A0_1 l0_1.length c0_1)] 24 (0, 0))) ∧ Aside0 (Below w.heap.size w w'))
    case atStart => exact ⟨(0), (0), (by first | rfl | (simp; done) | (simp [*]; done)), (by first | rfl | (simp; done) | (simp [*]; done)), H', ⟨Nat.le_refl _⟩, ⟨by (with_reducible repeat (first | refine blk_drewN ?_ _ | refine blk_drew ?_ | refine blk_alloc ?_ _)); exact BK230.out⟩, ⟨by repeat (first | (with_reducible first | exact HB.out | apply below_alloc | apply pw_below_drewN | apply below_drew1 | refine below_set ?_ GE230.out) | exact HB.out)⟩⟩
    case round =>
     clear H'
     try clear c1
     try clear c2
     try clear p2
     try clear c8
     try clear c10
     try clear hcz6_0
     try clear hcz6_1
     try clear hcz9_0
     try clear hcz9_1
     try clear hfz6_0
     try clear hfz6_1
     try clear hfz9_0
     try clear hfz9_1
     try clear p2
     obtain ⟨x6_2, x7_2, rfl, rfl, HA, HK2, BK230, HB⟩ := hrel
     cases gk with
     | zero => exact absurd HA.out (by simp [billetref05_Cut.l0])
     | succ k2 =>
      have H := HA.out
      clear HA
      simp only [billetref05_Cut.l0] at H
      by_cases c11 : x7_2 < (l0_1.length : Int)
      ·rw [if_pos c11] at H
       have c11b0 : decide (x7_2 < (l0_1.length : Int)) = true := decide_eq_true c11
       clear c11
       by_cases c12 : 0 ≤ x7_2
       ·rw [if_pos c12] at H
        have c12b0 : decide (0 ≤ x7_2) = true := decide_eq_true c12
        clear c12
        by_cases c13 : 0 ≤ ((rd_T41 l0_1 x7_2).f0)
        ·rw [if_pos c13] at H
         have c13b0 : decide (0 ≤ ((rd_T41 l0_1 x7_2).f0)) = true := decide_eq_true c13
         clear c13
         by_cases c14 : ((rd_T41 l0_1 x7_2).f0) < (l1.length : Int)
         ·rw [if_pos c14] at H
          have c14b0 : decide (((rd_T41 l0_1 x7_2).f0) < (l1.length : Int)) = true := decide_eq_true c14
          clear c14
          obtain ⟨bq15, hbq15⟩ : ∃ b_ : Bool, b_ = (rdOf false l1 ((rd_T41 l0_1 x7_2).f0)) := ⟨_, rfl⟩
          replace H : (if bq15 = true then (if 0 ≤ ((rd_T41 l0_1 x7_2).f1) then (if ((rd_T41 l0_1 x7_2).f1) < (l1.length : Int) then (if (rdOf false l1 ((rd_T41 l0_1 x7_2).f1) = true) then (billetref05_Cut.l0 k2 l1 x6_2 (wrap64 (x7_2 + 1)) a0_0 l0_1) else (billetref05_Cut.l0 k2 l1 (wrap64 (x6_2 + ((rd_T41 l0_1 x7_2).f2))) (wrap64 (x7_2 + 1)) a0_0 l0_1)) else (none)) else (none)) else (billetref05_Cut.l0 k2 l1 x6_2 (wrap64 (x7_2 + 1)) a0_0 l0_1)) = some r := by rw [← hbq15] at H; exact H
          have Nbq15 := Aside0.mk hbq15
          clear hbq15
          by_cases c16 : bq15 = true
          ·subst c16
           have H1 : (if 0 ≤ ((rd_T41 l0_1 x7_2).f1) then (if ((rd_T41 l0_1 x7_2).f1) < (l1.length : Int) then (if (rdOf false l1 ((rd_T41 l0_1 x7_2).f1) = true) then (billetref05_Cut.l0 k2 l1 x6_2 (wrap64 (x7_2 + 1)) a0_0 l0_1) else (billetref05_Cut.l0 k2 l1 (wrap64 (x6_2 + ((rd_T41 l0_1 x7_2).f2))) (wrap64 (x7_2 + 1)) a0_0 l0_1)) else (none)) else (none)) = some r := by rw [if_pos rfl] at H; exact H
           clear H
           have H := H1
           clear H1
           by_cases c17 : 0 ≤ ((rd_T41 l0_1 x7_2).f1)
           ·rw [if_pos c17] at H
            have c17b0 : decide (0 ≤ ((rd_T41 l0_1 x7_2).f1)) = true := decide_eq_true c17
            clear c17
            by_cases c18 : ((rd_T41 l0_1 x7_2).f1) < (l1.length : Int)
            ·rw [if_pos c18] at H
             have c18b0 : decide (((rd_T41 l0_1 x7_2).f1) < (l1.length : Int)) = true := decide_eq_true c18
             clear c18
             obtain ⟨bq19, hbq19⟩ : ∃ b_ : Bool, b_ = (rdOf false l1 ((rd_T41 l0_1 x7_2).f1)) := ⟨_, rfl⟩
             replace H : (if (bq19 = true) then (billetref05_Cut.l0 k2 l1 x6_2 (wrap64 (x7_2 + 1)) a0_0 l0_1) else (billetref05_Cut.l0 k2 l1 (wrap64 (x6_2 + ((rd_T41 l0_1 x7_2).f2))) (wrap64 (x7_2 + 1)) a0_0 l0_1)) = some r := by rw [← hbq19] at H; exact H
             have Nbq19 := Aside0.mk hbq19
             clear hbq19
             by_cases c20 : (bq19 = true)
             ·subst c20
              have H1 : (billetref05_Cut.l0 k2 l1 x6_2 (wrap64 (x7_2 + 1)) a0_0 l0_1) = some r := by rw [if_pos rfl] at H; exact H
              clear H
              have H := H1
              clear H1
              have H' := Aside0.mk H
              clear H
              have hcz21_0 : wr.cell? ⟨gb230, 0, none⟩ = some (.int .i64 a0_0) := (blk_cell BK230.out 0).trans rfl
              have hcz21_1 : wr.cell? ⟨gb230, 1, none⟩ = some (.slice A0_1 l0_1.length c0_1) := (blk_cell BK230.out 1).trans rfl
              have hfz21_0 := blk_frozen BK230.out 0
              have hfz21_1 := blk_frozen BK230.out 1
              have p232 : 0 ≤ (x7_2 : Int) := of_decide_eq_true (by first | (with_reducible assumption) | assumption)
              have q232 : x7_2 < (l0_1.length : Int) := of_decide_eq_true (by first | (with_reducible assumption) | assumption)
              obtain ⟨ad232, e232, hx232_0, hx232_1, hx232_2⟩ := at_T41 HR0_1.out x7_2 p232 q232
              cases e232
              replace hx232_0 := (HB.out.cell (World.block_lt_of_cell? w _ hx232_0)).trans hx232_0
              replace hx232_1 := (HB.out.cell (World.block_lt_of_cell? w _ hx232_1)).trans hx232_1
              replace hx232_2 := (HB.out.cell (World.block_lt_of_cell? w _ hx232_2)).trans hx232_2
              replace p232 := eq_true p232
              replace q232 := eq_true q232
              have p233 : 0 ≤ (((rd_T41 l0_1 x7_2).f0) : Int) := of_decide_eq_true (by first | (with_reducible assumption) | assumption)
              have q233 : ((rd_T41 l0_1 x7_2).f0) < (l1.length : Int) := of_decide_eq_true (by first | (with_reducible assumption) | assumption)
              obtain ⟨ad233, e233, hx233_0⟩ := Kd.at_bool HR1.out ((rd_T41 l0_1 x7_2).f0) p233 q233
              (try rw [← Nbq15.out] at hx233_0)
              (try rw [← Nbq19.out] at hx233_0)
              cases e233
              replace hx233_0 := (HB.out.cell (World.block_lt_of_cell? w _ hx233_0)).trans hx233_0
              replace p233 := eq_true p233
              replace q233 := eq_true q233
              have p234 : 0 ≤ (x7_2 : Int) := of_decide_eq_true (by first | (with_reducible assumption) | assumption)
              have q234 : x7_2 < (l0_1.length : Int) := of_decide_eq_true (by first | (with_reducible assumption) | assumption)
              obtain ⟨ad234, e234, hx234_0, hx234_1, hx234_2⟩ := at_T41 HR0_1.out x7_2 p234 q234
              obtain rfl : ad232 = ad234 := (by injection e234)
              replace hx234_0 := (HB.out.cell (World.block_lt_of_cell? w _ hx234_0)).trans hx234_0
              replace hx234_1 := (HB.out.cell (World.block_lt_of_cell? w _ hx234_1)).trans hx234_1
              replace hx234_2 := (HB.out.cell (World.block_lt_of_cell? w _ hx234_2)).trans hx234_2
              replace p234 := eq_true p234
              replace q234 := eq_true q234
              have p235 : 0 ≤ (((rd_T41 l0_1 x7_2).f1) : Int) := of_decide_eq_true (by first | (with_reducible assumption) | assumption)
              have q235 : ((rd_T41 l0_1 x7_2).f1) < (l1.length : Int) := of_decide_eq_true (by first | (with_reducible assumption) | assumption)
              obtain ⟨ad235, e235, hx235_0⟩ := Kd.at_bool HR1.out ((rd_T41 l0_1 x7_2).f1) p235 q235
              (try rw [← Nbq15.out] at hx235_0)
              (try rw [← Nbq19.out] at hx235_0)
              obtain rfl : ad233 = ad235 := (by injection e235)
              replace hx235_0 := (HB.out.cell (World.block_lt_of_cell? w _ hx235_0)).trans hx235_0
              replace p235 := eq_true p235
              replace q235 := eq_true q235
              go_wp2
              go_roundg k2
              case measure => have := HJ3.out; have := HK2.out; omega
              case rel => exact ⟨(x6_2), (wrap64 (x7_2 + 1)), (by first | rfl | (simp; done) | (simp [*]; done)), (by first | rfl | (simp; done) | (simp [*]; done)), H', ⟨by have := HJ3.out; have := HK2.out; omega⟩, ⟨by (with_reducible repeat (first | refine blk_drewN ?_ _ | refine blk_drew ?_ | refine blk_alloc ?_ _)); exact BK230.out⟩, ⟨by repeat (first | (with_reducible first | exact HB.out | apply below_alloc | apply pw_below_drewN | apply below_drew1 | refine below_set ?_ GE230.out) | exact HB.out)⟩⟩
             ·replace c20 := Bool.eq_false_iff.mpr c20
              subst c20
              have H1 : (billetref05_Cut.l0 k2 l1 (wrap64 (x6_2 + ((rd_T41 l0_1 x7_2).f2))) (wrap64 (x7_2 + 1)) a0_0 l0_1) = some r := by rw [if_neg (show ¬ (false = true) by decide)] at H; exact H
              clear H
              have H := H1
              clear H1
              have H' := Aside0.mk H
              clear H
              have hcz22_0 : wr.cell? ⟨gb230, 0, none⟩ = some (.int .i64 a0_0) := (blk_cell BK230.out 0).trans rfl
              have hcz22_1 : wr.cell? ⟨gb230, 1, none⟩ = some (.slice A0_1 l0_1.length c0_1) := (blk_cell BK230.out 1).trans rfl
              have hfz22_0 := blk_frozen BK230.out 0
              have hfz22_1 := blk_frozen BK230.out 1
              have p232 : 0 ≤ (x7_2 : Int) := of_decide_eq_true (by first | (with_reducible assumption) | assumption)
              have q232 : x7_2 < (l0_1.length : Int) := of_decide_eq_true (by first | (with_reducible assumption) | assumption)
              obtain ⟨ad232, e232, hx232_0, hx232_1, hx232_2⟩ := at_T41 HR0_1.out x7_2 p232 q232
              cases e232
              replace hx232_0 := (HB.out.cell (World.block_lt_of_cell? w _ hx232_0)).trans hx232_0
              replace hx232_1 := (HB.out.cell (World.block_lt_of_cell? w _ hx232_1)).trans hx232_1
              replace hx232_2 := (HB.out.cell (World.block_lt_of_cell? w _ hx232_2)).trans hx232_2
              replace p232 := eq_true p232
              replace q232 := eq_true q232
              have p233 : 0 ≤ (((rd_T41 l0_1 x7_2).f0) : Int) := of_decide_eq_true (by first | (with_reducible assumption) | assumption)
              have q233 : ((rd_T41 l0_1 x7_2).f0) < (l1.length : Int) := of_decide_eq_true (by first | (with_reducible assumption) | assumption)
              obtain ⟨ad233, e233, hx233_0⟩ := Kd.at_bool HR1.out ((rd_T41 l0_1 x7_2).f0) p233 q233
              (try rw [← Nbq15.out] at hx233_0)
              (try rw [← Nbq19.out] at hx233_0)
              cases e233
              replace hx233_0 := (HB.out.cell (World.block_lt_of_cell? w _ hx233_0)).trans hx233_0
              replace p233 := eq_true p233
              replace q233 := eq_true q233
              have p234 : 0 ≤ (x7_2 : Int) := of_decide_eq_true (by first | (with_reducible assumption) | assumption)
              have q234 : x7_2 < (l0_1.length : Int) := of_decide_eq_true (by first | (with_reducible assumption) | assumption)
              obtain ⟨ad234, e234, hx234_0, hx234_1, hx234_2⟩ := at_T41 HR0_1.out x7_2 p234 q234
              obtain rfl : ad232 = ad234 := (by injection e234)
              replace hx234_0 := (HB.out.cell (World.block_lt_of_cell? w _ hx234_0)).trans hx234_0
              replace hx234_1 := (HB.out.cell (World.block_lt_of_cell? w _ hx234_1)).trans hx234_1
              replace hx234_2 := (HB.out.cell (World.block_lt_of_cell? w _ hx234_2)).trans hx234_2
              replace p234 := eq_true p234
              replace q234 := eq_true q234
              have p235 : 0 ≤ (((rd_T41 l0_1 x7_2).f1) : Int) := of_decide_eq_true (by first | (with_reducible assumption) | assumption)
              have q235 : ((rd_T41 l0_1 x7_2).f1) < (l1.length : Int) := of_decide_eq_true (by first | (with_reducible assumption) | assumption)
              obtain ⟨ad235, e235, hx235_0⟩ := Kd.at_bool HR1.out ((rd_T41 l0_1 x7_2).f1) p235 q235
              (try rw [← Nbq15.out] at hx235_0)
              (try rw [← Nbq19.out] at hx235_0)
              obtain rfl : ad233 = ad235 := (by injection e235)
              replace hx235_0 := (HB.out.cell (World.block_lt_of_cell? w _ hx235_0)).trans hx235_0
              replace p235 := eq_true p235
              replace q235 := eq_true q235
              have p236 : 0 ≤ (x7_2 : Int) := of_decide_eq_true (by first | (with_reducible assumption) | assumption)
              have q236 : x7_2 < (l0_1.length : Int) := of_decide_eq_true (by first | (with_reducible assumption) | assumption)
              obtain ⟨ad236, e236, hx236_0, hx236_1, hx236_2⟩ := at_T41 HR0_1.out x7_2 p236 q236
              obtain rfl : ad232 = ad236 := (by injection e236)
              replace hx236_0 := (HB.out.cell (World.block_lt_of_cell? w _ hx236_0)).trans hx236_0
              replace hx236_1 := (HB.out.cell (World.block_lt_of_cell? w _ hx236_1)).trans hx236_1
              replace hx236_2 := (HB.out.cell (World.block_lt_of_cell? w _ hx236_2)).trans hx236_2
              replace p236 := eq_true p236
              replace q236 := eq_true q236
              go_wp2
              go_roundg k2
              case measure => have := HJ3.out; have := HK2.out; omega
              case rel => exact ⟨(wrap64 (x6_2 + ((rd_T41 l0_1 x7_2).f2))), (wrap64 (x7_2 + 1)), (by first | rfl | (simp; done) | (simp [*]; done)), (by first | rfl | (simp; done) | (simp [*]; done)), H', ⟨by have := HJ3.out; have := HK2.out; omega⟩, ⟨by (with_reducible repeat (first | refine blk_drewN ?_ _ | refine blk_drew ?_ | refine blk_alloc ?_ _)); exact BK230.out⟩, ⟨by repeat (first | (with_reducible first | exact HB.out | apply below_alloc | apply pw_below_drewN | apply below_drew1 | refine below_set ?_ GE230.out) | exact HB.out)⟩⟩
            ·rw [if_neg c18] at H
             exact absurd H (by simp)
           ·rw [if_neg c17] at H
            exact absurd H (by simp)
          ·replace c16 := Bool.eq_false_iff.mpr c16
           subst c16
           have H1 : (billetref05_Cut.l0 k2 l1 x6_2 (wrap64 (x7_2 + 1)) a0_0 l0_1) = some r := by rw [if_neg (show ¬ (false = true) by decide)] at H; exact H
           clear H
           have H := H1
           clear H1
           have H' := Aside0.mk H
           clear H
           have hcz23_0 : wr.cell? ⟨gb230, 0, none⟩ = some (.int .i64 a0_0) := (blk_cell BK230.out 0).trans rfl
           have hcz23_1 : wr.cell? ⟨gb230, 1, none⟩ = some (.slice A0_1 l0_1.length c0_1) := (blk_cell BK230.out 1).trans rfl
           have hfz23_0 := blk_frozen BK230.out 0
           have hfz23_1 := blk_frozen BK230.out 1
           have p232 : 0 ≤ (x7_2 : Int) := of_decide_eq_true (by first | (with_reducible assumption) | assumption)
           have q232 : x7_2 < (l0_1.length : Int) := of_decide_eq_true (by first | (with_reducible assumption) | assumption)
           obtain ⟨ad232, e232, hx232_0, hx232_1, hx232_2⟩ := at_T41 HR0_1.out x7_2 p232 q232
           cases e232
           replace hx232_0 := (HB.out.cell (World.block_lt_of_cell? w _ hx232_0)).trans hx232_0
           replace hx232_1 := (HB.out.cell (World.block_lt_of_cell? w _ hx232_1)).trans hx232_1
           replace hx232_2 := (HB.out.cell (World.block_lt_of_cell? w _ hx232_2)).trans hx232_2
           replace p232 := eq_true p232
           replace q232 := eq_true q232
           have p233 : 0 ≤ (((rd_T41 l0_1 x7_2).f0) : Int) := of_decide_eq_true (by first | (with_reducible assumption) | assumption)
           have q233 : ((rd_T41 l0_1 x7_2).f0) < (l1.length : Int) := of_decide_eq_true (by first | (with_reducible assumption) | assumption)
           obtain ⟨ad233, e233, hx233_0⟩ := Kd.at_bool HR1.out ((rd_T41 l0_1 x7_2).f0) p233 q233
           (try rw [← Nbq15.out] at hx233_0)
           cases e233
           replace hx233_0 := (HB.out.cell (World.block_lt_of_cell? w _ hx233_0)).trans hx233_0
           replace p233 := eq_true p233
           replace q233 := eq_true q233
           go_wp2
           go_roundg k2
           case measure => have := HJ3.out; have := HK2.out; omega
           case rel => exact ⟨(x6_2), (wrap64 (x7_2 + 1)), (by first | rfl | (simp; done) | (simp [*]; done)), (by first | rfl | (simp; done) | (simp [*]; done)), H', ⟨by have := HJ3.out; have := HK2.out; omega⟩, ⟨by (with_reducible repeat (first | refine blk_drewN ?_ _ | refine blk_drew ?_ | refine blk_alloc ?_ _)); exact BK230.out⟩, ⟨by repeat (first | (with_reducible first | exact HB.out | apply below_alloc | apply pw_below_drewN | apply below_drew1 | refine below_set ?_ GE230.out) | exact HB.out)⟩⟩
         ·rw [if_neg c14] at H
          exact absurd H (by simp)
        ·rw [if_neg c13] at H
         exact absurd H (by simp)
       ·rw [if_neg c12] at H
        exact absurd H (by simp)
      ·rw [if_neg c11] at H
       have c11b0 : decide (x7_2 < (l0_1.length : Int)) = false := decide_eq_false c11
       clear c11
       obtain rfl := Option.some.inj H
       have hcz24_0 : wr.cell? ⟨gb230, 0, none⟩ = some (.int .i64 a0_0) := (blk_cell BK230.out 0).trans rfl
       have hcz24_1 : wr.cell? ⟨gb230, 1, none⟩ = some (.slice A0_1 l0_1.length c0_1) := (blk_cell BK230.out 1).trans rfl
       have hfz24_0 := blk_frozen BK230.out 0
       have hfz24_1 := blk_frozen BK230.out 1
       go_wp2
       go_ret
       exact ⟨by first | rfl | (simp [errW_none, errW_some] <;> rfl) | (simp [*, errW_none, errW_some] <;> rfl), by repeat (first | (with_reducible first | exact HB.out | apply below_alloc | apply pw_below_drewN | apply below_drew1 | refine below_set ?_ GE230.out) | exact HB.out)⟩
end Go.Proofs.Ytfmfojogcghkkaa.P
