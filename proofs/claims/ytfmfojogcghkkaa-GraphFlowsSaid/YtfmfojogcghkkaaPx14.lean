import Derived.Test.YtfmfojogcghkkaaPx0
import Derived.Test.YtfmfojogcghkkaaPx3
namespace Go.Proofs.Ytfmfojogcghkkaa.P
open Go.RowKit Go.Proofs.YtfmfojogcghkkaaW.PrintWords Go.Proofs.YtfmfojogcghkkaaW.PrintLast Go.Proofs.YtfmfojogcghkkaaW.PrintMore
attribute [local go_sem] max2_int min2_int max_two min_two max_three min_three max_four min_four   -- for this text's walks alone
set_option linter.unusedVariables false
set_option linter.unusedSimpArgs false
mutual
def billetref05_Reach.j0 : Nat → List Int → Int → Bool → Int → List (S41) → Option (List Bool)
 | 0, _, _, _, _, _ => none
 | k + 1, x1, x2, x26, x198000, x198001 => if x26 = true then (some ([] : List Bool)) else (if 0 ≤ x198000 then (if (x198000 : Int).toNat ≤ 281474976710656 then ((some (List.replicate (x198000 : Int).toNat false : List Bool)).bind fun y199 => (if 0 ≤ x2 then (if x2 < (y199.length : Int) then (billetref05_Reach.l0 k x1 (y199.set (x2 : Int).toNat true) true x198000 x198001) else (none)) else (none))) else (none)) else (none))
def billetref05_Reach.l0 : Nat → List Int → List Bool → Bool → Int → List (S41) → Option (List Bool)
 | 0, _, _, _, _, _ => none
 | k + 1, x1, x8, x9, x198000, x198001 => if x9 = true then (billetref05_Reach.l1 k x1 x8 false 0 x198000 x198001) else (some x8)
def billetref05_Reach.l1 : Nat → List Int → List Bool → Bool → Int → Int → List (S41) → Option (List Bool)
 | 0, _, _, _, _, _, _ => none
 | k + 1, x1, x8, x9, x10, x198000, x198001 => if x10 < (x1.length : Int) then (if 0 ≤ x10 then (if x10 < (x198001.length : Int) then (if 0 ≤ ((rd_T41 x198001 x10).f0) then (if ((rd_T41 x198001 x10).f0) < (x8.length : Int) then (if rdOf false x8 ((rd_T41 x198001 x10).f0) = true then (if 0 ≤ ((rd_T41 x198001 x10).f1) then (if ((rd_T41 x198001 x10).f1) < (x8.length : Int) then (if (rdOf false x8 ((rd_T41 x198001 x10).f1) = true) then (billetref05_Reach.j3 k x1 x8 x9 x10 false x198000 x198001 ((rd_T41 x198001 x10).f0) ((rd_T41 x198001 x10).f1) ((rd_T41 x198001 x10).f2)) else (billetref05_Reach.j3 k x1 x8 x9 x10 (decide ((rd x1 x10) < ((rd_T41 x198001 x10).f2))) x198000 x198001 ((rd_T41 x198001 x10).f0) ((rd_T41 x198001 x10).f1) ((rd_T41 x198001 x10).f2))) else (none)) else (none)) else (billetref05_Reach.j3 k x1 x8 x9 x10 false x198000 x198001 ((rd_T41 x198001 x10).f0) ((rd_T41 x198001 x10).f1) ((rd_T41 x198001 x10).f2))) else (none)) else (none)) else (none)) else (none)) else (billetref05_Reach.l0 k x1 x8 x9 x198000 x198001)
def billetref05_Reach.j3 : Nat → List Int → List Bool → Bool → Int → Bool → Int → List (S41) → Int → Int → Int → Option (List Bool)
 | 0, _, _, _, _, _, _, _, _, _, _ => none
 | k + 1, x1, x8, x9, x10, x66, x198000, x198001, x205000, x205001, x205002 => if x66 = true then (if 0 ≤ x205001 then (if x205001 < (x8.length : Int) then ((some (x8.set (x205001 : Int).toNat true : List Bool)).bind fun y208 => (if rdOf false y208 x205001 = true then (if 0 ≤ x205000 then (if x205000 < (x8.length : Int) then (if rdOf false y208 x205000 = true then (billetref05_Reach.l1 k x1 y208 true (wrap64 (x10 + 1)) x198000 x198001) else (if 0 ≤ x10 then (if x10 < (x1.length : Int) then (if (rd x1 x10) > 0 then (billetref05_Reach.l1 k x1 (y208.set (x205000 : Int).toNat true) true (wrap64 (x10 + 1)) x198000 x198001) else (billetref05_Reach.l1 k x1 y208 true (wrap64 (x10 + 1)) x198000 x198001)) else (none)) else (none))) else (none)) else (none)) else (billetref05_Reach.l1 k x1 y208 true (wrap64 (x10 + 1)) x198000 x198001))) else (none)) else (none)) else (if 0 ≤ x205001 then (if x205001 < (x8.length : Int) then (if rdOf false x8 x205001 = true then (if 0 ≤ x205000 then (if x205000 < (x8.length : Int) then (if rdOf false x8 x205000 = true then (billetref05_Reach.l1 k x1 x8 x9 (wrap64 (x10 + 1)) x198000 x198001) else (if 0 ≤ x10 then (if x10 < (x1.length : Int) then (if (rd x1 x10) > 0 then (billetref05_Reach.l1 k x1 (x8.set (x205000 : Int).toNat true) true (wrap64 (x10 + 1)) x198000 x198001) else (billetref05_Reach.l1 k x1 x8 x9 (wrap64 (x10 + 1)) x198000 x198001)) else (none)) else (none))) else (none)) else (none)) else (billetref05_Reach.l1 k x1 x8 x9 (wrap64 (x10 + 1)) x198000 x198001)) else (none)) else (none))
end
def billetref05_Reach.f (k : Nat) (a0_0 : Int) (l0_1 : List (S41)) (l1 : List Int) (a2 : Int) : Option (List Bool) := (billetref05_fits.f k a0_0 l0_1 l1).bind fun t198 => (if t198 = true then (if a2 < 0 then (billetref05_Reach.j0 k l1 a2 true a0_0 l0_1) else (billetref05_Reach.j0 k l1 a2 (decide (a2 ≥ a0_0)) a0_0 l0_1)) else (billetref05_Reach.j0 k l1 a2 true a0_0 l0_1))
theorem billetref05_Reach.mono_l : ∀ k, (∀ y0 y1 y2 y3 y4, LeO (billetref05_Reach.j0 k y0 y1 y2 y3 y4) (billetref05_Reach.j0 (k + 1) y0 y1 y2 y3 y4)) ∧ (∀ y0 y1 y2 y3 y4, LeO (billetref05_Reach.l0 k y0 y1 y2 y3 y4) (billetref05_Reach.l0 (k + 1) y0 y1 y2 y3 y4)) ∧ (∀ y0 y1 y2 y3 y4 y5, LeO (billetref05_Reach.l1 k y0 y1 y2 y3 y4 y5) (billetref05_Reach.l1 (k + 1) y0 y1 y2 y3 y4 y5)) ∧ (∀ y0 y1 y2 y3 y4 y5 y6 y7 y8 y9, LeO (billetref05_Reach.j3 k y0 y1 y2 y3 y4 y5 y6 y7 y8 y9) (billetref05_Reach.j3 (k + 1) y0 y1 y2 y3 y4 y5 y6 y7 y8 y9))
 | 0 => ⟨fun _ _ _ _ _ r h => by simp [billetref05_Reach.j0] at h, fun _ _ _ _ _ r h => by simp [billetref05_Reach.l0] at h, fun _ _ _ _ _ _ r h => by simp [billetref05_Reach.l1] at h, fun _ _ _ _ _ _ _ _ _ _ r h => by simp [billetref05_Reach.j3] at h⟩
 | k + 1 => by
  obtain ⟨ih0, ih1, ih2, ih3⟩ := billetref05_Reach.mono_l k
  refine ⟨?_, ?_, ?_, ?_⟩
  ·intro y0 y1 y2 y3 y4
   unfold billetref05_Reach.j0
   repeat' first
   | (with_reducible exact ih0 _ _ _ _ _)
   | (with_reducible exact ih1 _ _ _ _ _)
   | (with_reducible exact ih2 _ _ _ _ _ _)
   | (with_reducible exact ih3 _ _ _ _ _ _ _ _ _ _)
   | (with_reducible exact billetref05_fits.mono _ _ _ _)
   | (with_reducible exact LeO.refl _)
   | (with_reducible exact LeO.none _)
   | (with_reducible refine LeO.ite ?_ ?_)
   | (with_reducible refine LeO.bind ?_ (fun _ => ?_))
   | exact ih0 _ _ _ _ _
   | exact ih1 _ _ _ _ _
   | exact ih2 _ _ _ _ _ _
   | exact ih3 _ _ _ _ _ _ _ _ _ _
   | exact billetref05_fits.mono _ _ _ _
   | exact LeO.none _
   | refine LeO.ite ?_ ?_
   | refine LeO.bind ?_ (fun _ => ?_)
  ·intro y0 y1 y2 y3 y4
   unfold billetref05_Reach.l0
   repeat' first
   | (with_reducible exact ih0 _ _ _ _ _)
   | (with_reducible exact ih1 _ _ _ _ _)
   | (with_reducible exact ih2 _ _ _ _ _ _)
   | (with_reducible exact ih3 _ _ _ _ _ _ _ _ _ _)
   | (with_reducible exact billetref05_fits.mono _ _ _ _)
   | (with_reducible exact LeO.refl _)
   | (with_reducible exact LeO.none _)
   | (with_reducible refine LeO.ite ?_ ?_)
   | (with_reducible refine LeO.bind ?_ (fun _ => ?_))
   | exact ih0 _ _ _ _ _
   | exact ih1 _ _ _ _ _
   | exact ih2 _ _ _ _ _ _
   | exact ih3 _ _ _ _ _ _ _ _ _ _
   | exact billetref05_fits.mono _ _ _ _
   | exact LeO.none _
   | refine LeO.ite ?_ ?_
   | refine LeO.bind ?_ (fun _ => ?_)
  ·intro y0 y1 y2 y3 y4 y5
   unfold billetref05_Reach.l1
   repeat' first
   | (with_reducible exact ih0 _ _ _ _ _)
   | (with_reducible exact ih1 _ _ _ _ _)
   | (with_reducible exact ih2 _ _ _ _ _ _)
   | (with_reducible exact ih3 _ _ _ _ _ _ _ _ _ _)
   | (with_reducible exact billetref05_fits.mono _ _ _ _)
   | (with_reducible exact LeO.refl _)
   | (with_reducible exact LeO.none _)
   | (with_reducible refine LeO.ite ?_ ?_)
   | (with_reducible refine LeO.bind ?_ (fun _ => ?_))
   | exact ih0 _ _ _ _ _
   | exact ih1 _ _ _ _ _
   | exact ih2 _ _ _ _ _ _
   | exact ih3 _ _ _ _ _ _ _ _ _ _
   | exact billetref05_fits.mono _ _ _ _
   | exact LeO.none _
   | refine LeO.ite ?_ ?_
   | refine LeO.bind ?_ (fun _ => ?_)
  ·intro y0 y1 y2 y3 y4 y5 y6 y7 y8 y9
   unfold billetref05_Reach.j3
   repeat' first
   | (with_reducible exact ih0 _ _ _ _ _)
   | (with_reducible exact ih1 _ _ _ _ _)
   | (with_reducible exact ih2 _ _ _ _ _ _)
   | (with_reducible exact ih3 _ _ _ _ _ _ _ _ _ _)
   | (with_reducible exact billetref05_fits.mono _ _ _ _)
   | (with_reducible exact LeO.refl _)
   | (with_reducible exact LeO.none _)
   | (with_reducible refine LeO.ite ?_ ?_)
   | (with_reducible refine LeO.bind ?_ (fun _ => ?_))
   | exact ih0 _ _ _ _ _
   | exact ih1 _ _ _ _ _
   | exact ih2 _ _ _ _ _ _
   | exact ih3 _ _ _ _ _ _ _ _ _ _
   | exact billetref05_fits.mono _ _ _ _
   | exact LeO.none _
   | refine LeO.ite ?_ ?_
   | refine LeO.bind ?_ (fun _ => ?_)
theorem billetref05_Reach.mono : ∀ a0 a1 a2 a3 k, LeO (billetref05_Reach.f k a0 a1 a2 a3) (billetref05_Reach.f (k + 1) a0 a1 a2 a3) := by
 intro a0 a1 a2 a3 k
 obtain ⟨ih0, ih1, ih2, ih3⟩ := billetref05_Reach.mono_l k
 unfold billetref05_Reach.f
 repeat' first
   | (with_reducible exact ih0 _ _ _ _ _)
   | (with_reducible exact ih1 _ _ _ _ _)
   | (with_reducible exact ih2 _ _ _ _ _ _)
   | (with_reducible exact ih3 _ _ _ _ _ _ _ _ _ _)
   | (with_reducible exact billetref05_fits.mono _ _ _ _)
   | (with_reducible exact LeO.refl _)
   | (with_reducible exact LeO.none _)
   | (with_reducible refine LeO.ite ?_ ?_)
   | (with_reducible refine LeO.bind ?_ (fun _ => ?_))
   | exact ih0 _ _ _ _ _
   | exact ih1 _ _ _ _ _
   | exact ih2 _ _ _ _ _ _
   | exact ih3 _ _ _ _ _ _ _ _ _ _
   | exact billetref05_fits.mono _ _ _ _
   | exact LeO.none _
   | refine LeO.ite ?_ ?_
   | refine LeO.bind ?_ (fun _ => ?_)
set_option maxHeartbeats 8000000 in
set_option maxRecDepth 100000 in
theorem billetref05_Reach.calls (k : Nat) (a0_0 : Int) (A0_1 : Option Addr) (c0_1 : Nat) (l0_1 : List (S41)) (A1 : Option Addr) (c1 : Nat) (l1 : List Int) (a2 : Int) (r : List Bool) (w : World) (hr0_1 : Kd.C k41 w A0_1 l0_1.length l0_1) (hc0_1 : l0_1.length ≤ c0_1) (hr1 : Kd.C (Kd.int .i64) w A1 l1.length l1) (hc1 : l1.length ≤ c1) (h : billetref05_Reach.f k a0_0 l0_1 l1 a2 = some r) :
  Calls Try.prog 21 #[.agg #[.int .i64 a0_0, .slice A0_1 l0_1.length c0_1], .slice A1 l1.length c1, .int .i64 a2] w fun e w' => ∃ v0_ : Value, e = .returned (v0_) ∧ Kd.R Kd.bool 4 w' w.heap.size (fun _ => True) v0_ r ∧ Below w.heap.size w w' := by
 have hu24 := Try.underlying24
 have hu41 := Try.underlying41
 have HR0_1 := Aside0.mk hr0_1
 have HC0_1 := Aside0.mk hc0_1
 clear hr0_1 hc0_1
 have HR1 := Aside0.mk hr1
 have HC1 := Aside0.mk hc1
 clear hr1 hc1
 have HB := Aside0.mk (Below.refl w.heap.size w)
 have H : ((billetref05_fits.f k a0_0 l0_1 l1).bind fun t198 => (if t198 = true then (if a2 < 0 then (billetref05_Reach.j0 k l1 a2 true a0_0 l0_1) else (billetref05_Reach.j0 k l1 a2 (decide (a2 ≥ a0_0)) a0_0 l0_1)) else (billetref05_Reach.j0 k l1 a2 true a0_0 l0_1))) = some r := h
 clear h
 replace H := Option.bind_eq_some_iff.mp H
 obtain ⟨t198, A40, H⟩ := H
 replace H : (if t198 = true then (if a2 < 0 then (billetref05_Reach.j0 k l1 a2 true a0_0 l0_1) else (billetref05_Reach.j0 k l1 a2 (decide (a2 ≥ a0_0)) a0_0 l0_1)) else (billetref05_Reach.j0 k l1 a2 true a0_0 l0_1)) = some r := H
 have A4 := Aside0.mk A40
 clear A40
 have HC5 := Aside0.mk H
 clear H
 go_enter Try.func21, Try.ntmps21
 go_upto_region 2 with (first | ((with_reducible refine gate_dst (N := 3) rfl ?_); refine box_event ?hg (N := 3) ?hd (cs := #[.int .i64 a0_0, .slice A0_1 l0_1.length c0_1]) (t := 24) ?hr ?_; (case hd => rfl); (case hg => rfl); (case hr => first | (go_simp; done) | (go_simp; rfl)); intro gb197 hg w6 hbox hb; have n0_ := Aside0.mk (below_step (by repeat (first | (with_reducible first | exact HB.out | apply below_alloc | apply pw_below_drewN | apply below_drew1) | exact HB.out)) hb); have n1_ := Aside0.mk (hbox); have n2_ := Aside0.mk ((by rw [hg]; exact (below_size (by repeat (first | (with_reducible first | exact HB.out | apply below_alloc | apply pw_below_drewN | apply below_drew1) | exact HB.out))) : w.heap.size ≤ gb197)); have n3_ := Aside0.mk ((by rw [hg]; exact (below_size (by repeat (first | (with_reducible first | exact HB.out | apply below_alloc | apply pw_below_drewN | apply below_drew1) | exact HB.out))) : w.heap.size ≤ gb197)); clear HB; have HB := n0_; have BK197 := n1_; have GW197 := n2_; have GE197 := n3_; clear n0_ n1_ n2_ n3_; clear hb hbox hg; have hcz7_0 : w6.cell? ⟨gb197, 0, none⟩ = some (.int .i64 a0_0) := (blk_cell BK197.out 0).trans rfl; have hcz7_1 : w6.cell? ⟨gb197, 1, none⟩ = some (.slice A0_1 l0_1.length c0_1) := (blk_cell BK197.out 1).trans rfl; have hfz7_0 := blk_frozen BK197.out 0; have hfz7_1 := blk_frozen BK197.out 1) | (go_at_call 46; (with_reducible refine (billetref05_fits.calls k a0_0 _ _ l0_1 _ _ l1 t198 _ ?side1 ?side2 ?side3 ?side4 A4.out).mono ?_); (case side1 => repeat (first | exact (Kd.C_below HR0_1.out HB.out) | (with_reducible refine Kd.C_alloc ?_ _) | (with_reducible refine Kd.C_drewN ?_ _) | (with_reducible refine Kd.C_drew ?_))); (case side2 => exact HC0_1.out); (case side3 => repeat (first | exact (Kd.C_below HR1.out HB.out) | (with_reducible refine Kd.C_alloc ?_ _) | (with_reducible refine Kd.C_drewN ?_ _) | (with_reducible refine Kd.C_drew ?_))); (case side4 => exact HC1.out); rintro e w8 ⟨rfl, hb⟩; have n0_ := Aside0.mk (blk_below (g := gb197) (o := .cells #[.int .i64 a0_0, .slice A0_1 l0_1.length c0_1] 24 (0, 0)) (by (with_reducible repeat (first | refine blk_drewN ?_ _ | refine blk_drew ?_ | refine blk_alloc ?_ _)); exact BK197.out) hb); have n1_ := Aside0.mk (below_step (by repeat (first | (with_reducible first | exact HB.out | apply below_alloc | apply pw_below_drewN | apply below_drew1 | refine below_set ?_ GE197.out) | exact HB.out)) hb); clear BK197; clear HB; have BK197 := n0_; have HB := n1_; clear n0_ n1_; (try clear hb); (try clear hb2); (try clear hk); (try clear hi)))
 repeat (go_quiet (fail); go_upto_region 2 with (first | ((with_reducible refine gate_dst (N := 3) rfl ?_); refine box_event ?hg (N := 3) ?hd (cs := #[.int .i64 a0_0, .slice A0_1 l0_1.length c0_1]) (t := 24) ?hr ?_; (case hd => rfl); (case hg => rfl); (case hr => first | (go_simp; done) | (go_simp; rfl)); intro gb197 hg w6 hbox hb; have n0_ := Aside0.mk (below_step (by repeat (first | (with_reducible first | exact HB.out | apply below_alloc | apply pw_below_drewN | apply below_drew1) | exact HB.out)) hb); have n1_ := Aside0.mk (hbox); have n2_ := Aside0.mk ((by rw [hg]; exact (below_size (by repeat (first | (with_reducible first | exact HB.out | apply below_alloc | apply pw_below_drewN | apply below_drew1) | exact HB.out))) : w.heap.size ≤ gb197)); have n3_ := Aside0.mk ((by rw [hg]; exact (below_size (by repeat (first | (with_reducible first | exact HB.out | apply below_alloc | apply pw_below_drewN | apply below_drew1) | exact HB.out))) : w.heap.size ≤ gb197)); clear HB; have HB := n0_; have BK197 := n1_; have GW197 := n2_; have GE197 := n3_; clear n0_ n1_ n2_ n3_; clear hb hbox hg; have hcz7_0 : w6.cell? ⟨gb197, 0, none⟩ = some (.int .i64 a0_0) := (blk_cell BK197.out 0).trans rfl; have hcz7_1 : w6.cell? ⟨gb197, 1, none⟩ = some (.slice A0_1 l0_1.length c0_1) := (blk_cell BK197.out 1).trans rfl; have hfz7_0 := blk_frozen BK197.out 0; have hfz7_1 := blk_frozen BK197.out 1) | (go_at_call 46; (with_reducible refine (billetref05_fits.calls k a0_0 _ _ l0_1 _ _ l1 t198 _ ?side1 ?side2 ?side3 ?side4 A4.out).mono ?_); (case side1 => repeat (first | exact (Kd.C_below HR0_1.out HB.out) | (with_reducible refine Kd.C_alloc ?_ _) | (with_reducible refine Kd.C_drewN ?_ _) | (with_reducible refine Kd.C_drew ?_))); (case side2 => exact HC0_1.out); (case side3 => repeat (first | exact (Kd.C_below HR1.out HB.out) | (with_reducible refine Kd.C_alloc ?_ _) | (with_reducible refine Kd.C_drewN ?_ _) | (with_reducible refine Kd.C_drew ?_))); (case side4 => exact HC1.out); rintro e w8 ⟨rfl, hb⟩; have n0_ := Aside0.mk (blk_below (g := gb197) (o := .cells #[.int .i64 a0_0, .slice A0_1 l0_1.length c0_1] 24 (0, 0)) (by (with_reducible repeat (first | refine blk_drewN ?_ _ | refine blk_drew ?_ | refine blk_alloc ?_ _)); exact BK197.out) hb); have n1_ := Aside0.mk (below_step (by repeat (first | (with_reducible first | exact HB.out | apply below_alloc | apply pw_below_drewN | apply below_drew1 | refine below_set ?_ GE197.out) | exact HB.out)) hb); clear BK197; clear HB; have BK197 := n0_; have HB := n1_; clear n0_ n1_; (try clear hb); (try clear hb2); (try clear hk); (try clear hi))))
 (try simp only [Act.put, List.setIfInBounds_toArray, List.set_cons_zero, List.set_cons_succ])
 go_cut [26] (fun v26 wc => ∃ (kq : Nat) (x26_4 : Bool), v26 = .bool x26_4 ∧ Aside0 (billetref05_Reach.j0 kq l1 a2 x26_4 a0_0 l0_1 = some r) ∧ Aside0 (kq ≤ k) ∧ Aside0 (wc.heap[gb197]? = some (.cells #[.int .i64 a0_0, (.slice A0_1 l0_1.length c0_1)] 24 (0, 0))) ∧ Aside0 (Below w.heap.size w wc))
 case first =>
  have H := HC5.out
  clear HC5
  by_cases c9 : t198 = true
  ·subst c9
   have H1 : (if a2 < 0 then (billetref05_Reach.j0 k l1 a2 true a0_0 l0_1) else (billetref05_Reach.j0 k l1 a2 (decide (a2 ≥ a0_0)) a0_0 l0_1)) = some r := by rw [if_pos rfl] at H; exact H
   clear H
   have H := H1
   clear H1
   by_cases c10 : a2 < 0
   ·rw [if_pos c10] at H
    have c10b0 : decide (a2 < 0) = true := decide_eq_true c10
    clear c10
    (first | rw [c10b0] | (simp only [i64_w, i32_w]; rw [c10b0]) | skip)
    have H' := Aside0.mk H
    clear H
    go_wp2
    repeat (go_quiet (fail); try go_wp2)
    go_meet
    case rel => exact ⟨_, (true), (by first | rfl | (simp; done) | (simp [*]; done)), H', ⟨by first | omega | exact Nat.le_refl _⟩, ⟨by (with_reducible repeat (first | refine blk_drewN ?_ _ | refine blk_drew ?_ | refine blk_alloc ?_ _)); exact BK197.out⟩, ⟨by repeat (first | (with_reducible first | exact HB.out | apply below_alloc | apply pw_below_drewN | apply below_drew1 | refine below_set ?_ GE197.out) | exact HB.out)⟩⟩
   ·rw [if_neg c10] at H
    have c10b0 : decide (a2 < 0) = false := decide_eq_false c10
    clear c10
    (first | rw [c10b0] | (simp only [i64_w, i32_w]; rw [c10b0]) | skip)
    have H' := Aside0.mk H
    clear H
    have hcz11_0 : w8.cell? ⟨gb197, 0, none⟩ = some (.int .i64 a0_0) := (blk_cell BK197.out 0).trans rfl
    have hcz11_1 : w8.cell? ⟨gb197, 1, none⟩ = some (.slice A0_1 l0_1.length c0_1) := (blk_cell BK197.out 1).trans rfl
    have hfz11_0 := blk_frozen BK197.out 0
    have hfz11_1 := blk_frozen BK197.out 1
    go_wp2
    repeat (go_quiet (fail); try go_wp2)
    go_meet
    case rel => exact ⟨_, (decide (a2 ≥ a0_0)), (by first | rfl | (simp; done) | (simp [*]; done)), H', ⟨by first | omega | exact Nat.le_refl _⟩, ⟨by (with_reducible repeat (first | refine blk_drewN ?_ _ | refine blk_drew ?_ | refine blk_alloc ?_ _)); exact BK197.out⟩, ⟨by repeat (first | (with_reducible first | exact HB.out | apply below_alloc | apply pw_below_drewN | apply below_drew1 | refine below_set ?_ GE197.out) | exact HB.out)⟩⟩
  ·replace c9 := Bool.eq_false_iff.mpr c9
   subst c9
   have H1 : (billetref05_Reach.j0 k l1 a2 true a0_0 l0_1) = some r := by rw [if_neg (show ¬ (false = true) by decide)] at H; exact H
   clear H
   have H := H1
   clear H1
   have H' := Aside0.mk H
   clear H
   go_wp2
   repeat (go_quiet (fail); try go_wp2)
   go_meet
   case rel => exact ⟨_, (true), (by first | rfl | (simp; done) | (simp [*]; done)), H', ⟨by first | omega | exact Nat.le_refl _⟩, ⟨by (with_reducible repeat (first | refine blk_drewN ?_ _ | refine blk_drew ?_ | refine blk_alloc ?_ _)); exact BK197.out⟩, ⟨by repeat (first | (with_reducible first | exact HB.out | apply below_alloc | apply pw_below_drewN | apply below_drew1 | refine below_set ?_ GE197.out) | exact HB.out)⟩⟩
 case rest =>
  clear HC5
  try clear c1
  try clear c2
  try clear p2
  try clear c9
  try clear c10
  try clear c10b0
  try clear hcz11_0
  try clear hcz11_1
  try clear hcz7_0
  try clear hcz7_1
  try clear hfz11_0
  try clear hfz11_1
  try clear hfz7_0
  try clear hfz7_1
  obtain ⟨kq, x26_4, rfl, HA, HJ4, BK197, HB⟩ := hcut
  cases kq with
  | zero => exact absurd HA.out (by simp [billetref05_Reach.j0])
  | succ kj4 =>
   have H := HA.out
   clear HA
   simp only [billetref05_Reach.j0] at H
   by_cases c12 : x26_4 = true
   ·subst c12
    have H1 : (some ([] : List Bool)) = some r := by rw [if_pos rfl] at H; exact H
    clear H
    have H := H1
    clear H1
    obtain rfl := Option.some.inj H
    go_wp2
    repeat (go_quiet (fail); try go_wp2)
    go_ret
    exact ⟨_, by first | rfl | (simp [errW_none, errW_some] <;> rfl) | (simp [*, errW_none, errW_some] <;> rfl), by first | exact Kd.R_nil _ _ _ _ _ | exact Kd.N_nil _ _ _ _ _ | exact Kd.V_nil _ _ _ _ _ | exact Kd.Q_nil _ _ _ _ _ | exact Kd.S_nil _ _ _ _ _, by repeat (first | (with_reducible first | exact HB.out | apply below_alloc | apply pw_below_drewN | apply below_drew1 | refine below_set ?_ GE197.out) | exact HB.out)⟩
   ·replace c12 := Bool.eq_false_iff.mpr c12
    subst c12
    have H1 : (if 0 ≤ a0_0 then (if (a0_0 : Int).toNat ≤ 281474976710656 then ((some (List.replicate (a0_0 : Int).toNat false : List Bool)).bind fun y199 => (if 0 ≤ a2 then (if a2 < (y199.length : Int) then (billetref05_Reach.l0 kj4 l1 (y199.set (a2 : Int).toNat true) true a0_0 l0_1) else (none)) else (none))) else (none)) else (none)) = some r := by rw [if_neg (show ¬ (false = true) by decide)] at H; exact H
    clear H
    have H := H1
    clear H1
    by_cases c13 : 0 ≤ a0_0
    ·rw [if_pos c13] at H
     have c13b0 := eq_true c13
     have c13b1 : decide (0 ≤ a0_0) = true := decide_eq_true c13
     clear c13
     by_cases c14 : (a0_0 : Int).toNat ≤ 281474976710656
     ·rw [if_pos c14] at H
      have c14b0 := eq_true c14
      have c14b1 : decide ((a0_0 : Int).toNat ≤ 281474976710656) = true := decide_eq_true c14
      clear c14
      obtain ⟨y199, hy199⟩ : ∃ y_ : List Bool, y_ = (List.replicate (a0_0 : Int).toNat false) := ⟨_, rfl⟩
      replace H : (if 0 ≤ a2 then (if a2 < (y199.length : Int) then (billetref05_Reach.l0 kj4 l1 (y199.set (a2 : Int).toNat true) true a0_0 l0_1) else (none)) else (none)) = some r := by first | (rw [hy199]; with_reducible exact H) | (have H2_ := (Option.bind_some _ _).symm.trans H; rw [hy199]; with_reducible exact H2_) | (have H2_ := (Option.bind_some _ _).symm.trans H; with_reducible exact H2_) | with_reducible exact H | (rw [hy199]; exact H) | exact H
      have Ny199 := Aside0.mk hy199
      clear hy199
      by_cases c15 : 0 ≤ a2
      ·rw [if_pos c15] at H
       have c15b0 : decide (0 ≤ a2) = true := decide_eq_true c15
       clear c15
       by_cases c16 : a2 < (y199.length : Int)
       ·rw [if_pos c16] at H
        have c16b0 : decide (a2 < (y199.length : Int)) = true := decide_eq_true c16
        clear c16
        obtain ⟨y202, hy202⟩ : ∃ y_ : List Bool, y_ = (y199.set (a2 : Int).toNat true) := ⟨_, rfl⟩
        replace H : (billetref05_Reach.l0 kj4 l1 y202 true a0_0 l0_1) = some r := by first | (rw [hy202]; with_reducible exact H) | (have H2_ := (Option.bind_some _ _).symm.trans H; rw [hy202]; with_reducible exact H2_) | (have H2_ := (Option.bind_some _ _).symm.trans H; with_reducible exact H2_) | with_reducible exact H | (rw [hy202]; exact H) | exact H
        have Ny202 := Aside0.mk hy202
        clear hy202
        have H' := Aside0.mk H
        clear H
        have hcz18_0 : wc.cell? ⟨gb197, 0, none⟩ = some (.int .i64 a0_0) := (blk_cell BK197.out 0).trans rfl
        have hcz18_1 : wc.cell? ⟨gb197, 1, none⟩ = some (.slice A0_1 l0_1.length c0_1) := (blk_cell BK197.out 1).trans rfl
        have hfz18_0 := blk_frozen BK197.out 0
        have hfz18_1 := blk_frozen BK197.out 1
        iterate 8 ((try go_quiet (fail)); try go_wp2_with (first | ((with_reducible refine gate_dst (N := 29) rfl ?_); refine Kd.R_make Kd.bool _ 4 rfl (N := 29) rfl 26 _ _ rfl a0_0 rfl rfl Try.underlying26 (.bool false) 1 info4 rfl (by decide) (by omega) false (ok := fun _ => True) (okp := fun _ => True) rfl (fun _ hk => hk) trivial (of_decide_eq_true (by first | (with_reducible assumption) | assumption)) (Nat.le_trans (Nat.mul_le_mul_right _ (of_decide_eq_true (by first | (with_reducible assumption) | assumption) : a0_0.toNat ≤ 281474976710656)) (by omega)) (Below.refl _ _) (Nat.le_refl _) ?_; intro v200 w19 ho20 hb hg_ hnew_; clear hg_ hnew_; (first | rw [← Ny199.out] at ho20 | (simp only [Int.reduceToNat] at ho20; rw [← Ny199.out] at ho20)); have n0_ := Aside0.mk (Kd.R_lower ho20 (below_size (by repeat (first | (with_reducible first | exact HB.out | apply below_alloc | apply pw_below_drewN | apply below_drew1 | refine below_set ?_ GE197.out) | exact HB.out)))); have n1_ := Aside0.mk (blk_below (g := gb197) (o := .cells #[.int .i64 a0_0, .slice A0_1 l0_1.length c0_1] 24 (0, 0)) (by (with_reducible repeat (first | refine blk_drewN ?_ _ | refine blk_drew ?_ | refine blk_alloc ?_ _)); exact BK197.out) hb); have n2_ := Aside0.mk (below_step (by repeat (first | (with_reducible first | exact HB.out | apply below_alloc | apply pw_below_drewN | apply below_drew1 | refine below_set ?_ GE197.out) | exact HB.out)) hb); clear BK197; clear HB; have HO201 := n0_; have BK197 := n1_; have HB := n2_; clear n0_ n1_ n2_; clear hb ho20; have p17 : 0 ≤ (a2 : Int) := of_decide_eq_true (by first | (with_reducible assumption) | assumption); have q17 : (a2 : Int) < ((y199.length : Int) : Int) := of_decide_eq_true (by first | (with_reducible assumption) | assumption); obtain ⟨go17, co17, eo17, gb17, gl17, cl17, HG17⟩ := Kd.R_form HO201.out (by omega); (first | cases eo17 | (injection eo17 with ea_ en_ ec_; (first | subst ea_ | (injection ea_ with ea_; subst ea_)); subst ec_; clear en_)); have GB17 := Aside0.mk gb17; have GG17 := Aside0.mk HG17; clear gb17 gl17 HG17; obtain ⟨hx17_0, hf17_0⟩ := Kd.R_celln false HO201.out (a2 : Int) p17 q17; replace p17 := eq_true p17; replace q17 := eq_true q17; obtain ⟨hy21_, hz21_⟩ := Kd.R_celln false HO201.out (a2 : Int) (of_decide_eq_true (by first | (with_reducible assumption) | assumption)) (of_decide_eq_true (by first | (with_reducible assumption) | assumption)); have HP21 := Kd.R_putg HO201.out (a2 : Int) true) | ((with_reducible refine gate_store (t := 4) (p := 32) rfl ?_); (try (rw [drewN_self w19]; generalize hq_ : World.drewN w19 _ = w19; have n0_ := Aside0.mk (Kd.R_at hq_ HO201.out); have n1_ := Aside0.mk (blk_at hq_ BK197.out); have n2_ := Aside0.mk (below_at hq_ HB.out); clear hq_ HO201 BK197 HB; have HO201 := n0_; have BK197 := n1_; have HB := n2_; clear n0_ n1_ n2_; (try (obtain ⟨hy21_, hz21_⟩ := Kd.R_celln false HO201.out (a2 : Int) (of_decide_eq_true (by first | (with_reducible assumption) | assumption)) (of_decide_eq_true (by first | (with_reducible assumption) | assumption)))); (try (have HP21 := Kd.R_putg HO201.out (a2 : Int) true)))); refine store_event (t := 4) (p := 32) (v := ?vo_w22) (w1 := (w19.setCell ⟨go17, (a2 : Int).toNat, none⟩ (.bool true))) ?hg ?ho ?hn ?hr ?_; (case ho => rfl); (case hg => rfl); (case hn => rfl); (case hr => first | (go_simp; done) | (go_simp; rfl)); intro w22 hw; have hg : w19.grownBy w22 (some go17) := (by rw [hw]; exact HP21.2); have hp_ : Kd.R Kd.bool 4 w22 w.heap.size (fun _ => True) (.slice (some ⟨go17, 0, none⟩) y199.length co17) y202 := (by rw [hw, Ny202.out]; exact HP21.1); clear HP21; have n0_ := Aside0.mk (blk_grown (g := gb197) (o := .cells #[.int .i64 a0_0, .slice A0_1 l0_1.length c0_1] 24 (0, 0)) (by (with_reducible repeat (first | refine blk_drewN ?_ _ | refine blk_drew ?_ | refine blk_alloc ?_ _)); exact BK197.out) hg (Kd.R_ne HO201.out BK197.out (by decide))); have n1_ := Aside0.mk (hp_); have n2_ := Aside0.mk ((by rw [hw]; exact below_set (HB.out) GB17.out : Below w.heap.size w w22)); clear BK197; clear HO201; clear HB; have BK197 := n0_; have HO201 := n1_; have HB := n2_; clear n0_ n1_ n2_; clear hg hw hp_)))
        go_loopg [9] kj4 (fun kq v9 w' => ∃ (x8_2 : List Bool) (x9_2 : Bool), v9 = .bool x9_2 ∧ Aside0 (billetref05_Reach.l0 kq l1 x8_2 x9_2 a0_0 l0_1 = some r) ∧ Aside0 (kq ≤ kj4) ∧ Aside0 (Kd.R Kd.bool 4 w' w.heap.size (fun _ => True) (.slice (some ⟨go17, 0, none⟩) y199.length co17) x8_2) ∧ Aside0 (w'.heap[gb197]? = some (.cells #[.int .i64 a0_0, (.slice A0_1 l0_1.length c0_1)] 24 (0, 0))) ∧ Aside0 (Below w.heap.size w w'))
        case atStart => exact ⟨(y202), (true), (by first | rfl | (simp; done) | (simp [*]; done)), H', ⟨Nat.le_refl _⟩, ⟨by (with_reducible repeat (first | apply Kd.R_alloc | apply Kd.R_drewN | apply Kd.R_drew)); exact HO201.out⟩, ⟨by (with_reducible repeat (first | refine blk_drewN ?_ _ | refine blk_drew ?_ | refine blk_alloc ?_ _)); exact BK197.out⟩, ⟨by repeat (first | (with_reducible first | exact HB.out | apply below_alloc | apply pw_below_drewN | apply below_drew1 | refine below_set ?_ GE197.out) | exact HB.out)⟩⟩
        case round =>
         clear H'
         try clear c1
         try clear p1
         try clear q1
         try clear hx1
         try clear c2
         try clear p2
         try clear c9
         try clear c10
         try clear c10b0
         try clear c12
         try clear c13
         try clear c13b0
         try clear c13b1
         try clear c14
         try clear c14b0
         try clear c14b1
         try clear c15
         try clear c15b0
         try clear c16
         try clear c16b0
         try clear p17
         try clear q17
         try clear hx17
         try clear hf17
         try clear c21
         try clear hcz11_0
         try clear hcz11_1
         try clear hcz18_0
         try clear hcz18_1
         try clear hcz7_0
         try clear hcz7_1
         try clear hfz11_0
         try clear hfz11_1
         try clear hfz18_0
         try clear hfz18_1
         try clear hfz7_0
         try clear hfz7_1
         try clear hx17_0
         try clear p17
         try clear p2
         try clear q17
         obtain ⟨x8_2, x9_2, rfl, HA, HK2, HO_8, BK197, HB⟩ := hrel
         have hl8_2 := (Kd.R_reads' HO_8.out).1
         rw [hl8_2] at HO_8
         (try simp only [hl8_2])
         (try simp only [hl8_2] at BK197)
         cases gk with
         | zero => exact absurd HA.out (by simp [billetref05_Reach.l0])
         | succ k2 =>
          have H := HA.out
          clear HA
          simp only [billetref05_Reach.l0] at H
          by_cases c23 : x9_2 = true
          ·subst c23
           have H1 : (billetref05_Reach.l1 k2 l1 x8_2 false 0 a0_0 l0_1) = some r := by rw [if_pos rfl] at H; exact H
           clear H
           have H := H1
           clear H1
           have H' := Aside0.mk H
           clear H
           go_wp2
           repeat (go_quiet (fail); try go_wp2)
           go_loopg [9, 10] k2 (fun kq v9 v10 w' => ∃ (x8_3 : List Bool) (x9_3 : Bool) (x10_3 : Int), v9 = .bool x9_3 ∧ v10 = .int .i64 x10_3 ∧ Aside0 (billetref05_Reach.l1 kq l1 x8_3 x9_3 x10_3 a0_0 l0_1 = some r) ∧ Aside0 (kq ≤ k2) ∧ Aside0 (Kd.R Kd.bool 4 w' w.heap.size (fun _ => True) (.slice (some ⟨go17, 0, none⟩) x8_2.length co17) x8_3) ∧ Aside0 (w'.heap[gb197]? = some (.cells #[.int .i64 a0_0, (.slice A0_1 l0_1.length c0_1)] 24 (0, 0))) ∧ Aside0 (Below w.heap.size w w'))
           case atStart => exact ⟨(x8_2), (false), (0), (by first | rfl | (simp; done) | (simp [*]; done)), (by first | rfl | (simp; done) | (simp [*]; done)), H', ⟨Nat.le_refl _⟩, ⟨by (try simp only [hl8_2]); (with_reducible repeat (first | apply Kd.R_alloc | apply Kd.R_drewN | apply Kd.R_drew)); exact HO_8.out⟩, ⟨by (try simp only [hl8_2]); (with_reducible repeat (first | refine blk_drewN ?_ _ | refine blk_drew ?_ | refine blk_alloc ?_ _)); exact BK197.out⟩, ⟨by repeat (first | (with_reducible first | exact HB.out | apply below_alloc | apply pw_below_drewN | apply below_drew1 | refine below_set ?_ GE197.out) | exact HB.out)⟩⟩
           case round =>
            clear H'
            try clear c1
            try clear p1
            try clear q1
            try clear hx1
            try clear c2
            try clear p2
            try clear c9
            try clear c10
            try clear c10b0
            try clear c12
            try clear c13
            try clear c13b0
            try clear c13b1
            try clear c14
            try clear c14b0
            try clear c14b1
            try clear c15
            try clear c15b0
            try clear c16
            try clear c16b0
            try clear p17
            try clear q17
            try clear hx17
            try clear hf17
            try clear c21
            try clear c23
            try clear hcz11_0
            try clear hcz11_1
            try clear hcz18_0
            try clear hcz18_1
            try clear hcz7_0
            try clear hcz7_1
            try clear hfz11_0
            try clear hfz11_1
            try clear hfz18_0
            try clear hfz18_1
            try clear hfz7_0
            try clear hfz7_1
            try clear hx17_0
            try clear p1
            try clear p17
            try clear p2
            try clear q1
            try clear q17
            obtain ⟨x8_3, x9_3, x10_3, rfl, rfl, HA, HK3, HO_8, BK197, HB⟩ := hrel
            have hl8_3 := (Kd.R_reads' HO_8.out).1
            rw [hl8_3] at HO_8
            (try simp only [hl8_3])
            (try simp only [hl8_3] at BK197)
            cases gk with
            | zero => exact absurd HA.out (by simp [billetref05_Reach.l1])
            | succ k3 =>
             have H := HA.out
             clear HA
             simp only [billetref05_Reach.l1] at H
             by_cases c24 : x10_3 < (l1.length : Int)
             ·rw [if_pos c24] at H
              have c24b0 : decide (x10_3 < (l1.length : Int)) = true := decide_eq_true c24
              clear c24
              by_cases c25 : 0 ≤ x10_3
              ·rw [if_pos c25] at H
               have c25b0 : decide (0 ≤ x10_3) = true := decide_eq_true c25
               clear c25
               by_cases c26 : x10_3 < (l0_1.length : Int)
               ·rw [if_pos c26] at H
                have c26b0 : decide (x10_3 < (l0_1.length : Int)) = true := decide_eq_true c26
                clear c26
                have HC27 := Aside0.mk H
                clear H
                have hcz28_0 : wr.cell? ⟨gb197, 0, none⟩ = some (.int .i64 a0_0) := (blk_cell BK197.out 0).trans rfl
                have hcz28_1 : wr.cell? ⟨gb197, 1, none⟩ = some (.slice A0_1 l0_1.length c0_1) := (blk_cell BK197.out 1).trans rfl
                have hfz28_0 := blk_frozen BK197.out 0
                have hfz28_1 := blk_frozen BK197.out 1
                have p203 : 0 ≤ (x10_3 : Int) := of_decide_eq_true (by first | (with_reducible assumption) | assumption)
                have q203 : x10_3 < (l0_1.length : Int) := of_decide_eq_true (by first | (with_reducible assumption) | assumption)
                obtain ⟨ad203, e203, hx203_0, hx203_1, hx203_2⟩ := at_T41 HR0_1.out x10_3 p203 q203
                cases e203
                replace hx203_0 := (HB.out.cell (World.block_lt_of_cell? w _ hx203_0)).trans hx203_0
                replace hx203_1 := (HB.out.cell (World.block_lt_of_cell? w _ hx203_1)).trans hx203_1
                replace hx203_2 := (HB.out.cell (World.block_lt_of_cell? w _ hx203_2)).trans hx203_2
                replace p203 := eq_true p203
                replace q203 := eq_true q203
                go_upto_region 13 with (first | ((with_reducible refine gate_dst (N := 11) rfl ?_); refine box_event ?hg (N := 11) ?hd (cs := #[.int .i64 0, .int .i64 0, .int .i64 0]) (t := 41) ?hr ?_; (case hd => rfl); (case hg => rfl); (case hr => first | (go_simp; done) | (go_simp; rfl)); intro gb204 hg w29 hbox hb; have n0_ := Aside0.mk (Kd.R_below (by (with_reducible repeat (first | apply Kd.R_alloc | apply Kd.R_drewN | apply Kd.R_drew)); exact HO_8.out) hb); have n1_ := Aside0.mk (blk_below (g := gb197) (o := .cells #[.int .i64 a0_0, .slice (some ad203) l0_1.length c0_1] 24 (0, 0)) (by (with_reducible repeat (first | refine blk_drewN ?_ _ | refine blk_drew ?_ | refine blk_alloc ?_ _)); exact BK197.out) hb); have n2_ := Aside0.mk (below_step (by repeat (first | (with_reducible first | exact HB.out | apply below_alloc | apply pw_below_drewN | apply below_drew1 | refine below_set ?_ GE197.out) | exact HB.out)) hb); have n3_ := Aside0.mk (hbox); have n4_ := Aside0.mk ((by rw [hg]; exact (below_size (by repeat (first | (with_reducible first | exact HB.out | apply below_alloc | apply pw_below_drewN | apply below_drew1 | refine below_set ?_ GE197.out) | exact HB.out))) : w.heap.size ≤ gb204)); have n5_ := Aside0.mk ((by rw [hg]; exact (below_size (by repeat (first | (with_reducible first | exact HB.out | apply below_alloc | apply pw_below_drewN | apply below_drew1 | refine below_set ?_ GE197.out) | exact HB.out))) : w.heap.size ≤ gb204)); have n6_ := Aside0.mk ((by rw [hg]; exact Nat.ne_of_lt (blk_lt (g := gb197) (o := .cells #[.int .i64 a0_0, .slice (some ad203) l0_1.length c0_1] 24 (0, 0)) (by (with_reducible repeat (first | refine blk_drewN ?_ _ | refine blk_drew ?_ | refine blk_alloc ?_ _)); exact BK197.out)) : gb197 ≠ gb204)); have n7_ := Aside0.mk ((by rw [hg]; exact Nat.ne_of_gt (blk_lt (g := gb197) (o := .cells #[.int .i64 a0_0, .slice (some ad203) l0_1.length c0_1] 24 (0, 0)) (by (with_reducible repeat (first | refine blk_drewN ?_ _ | refine blk_drew ?_ | refine blk_alloc ?_ _)); exact BK197.out)) : gb204 ≠ gb197)); clear HO_8; clear BK197; clear HB; have HO_8 := n0_; have BK197 := n1_; have HB := n2_; have BK204 := n3_; have GW204 := n4_; have GE204 := n5_; have NB197_204 := n6_; have NB204_197 := n7_; clear n0_ n1_ n2_ n3_ n4_ n5_ n6_ n7_; clear hb hbox hg; have hnb30 := NB204_197.out; have hnc30 := NB197_204.out; have hcz31_0 : w29.cell? ⟨gb204, 0, none⟩ = some (.int .i64 0) := (blk_cell BK204.out 0).trans rfl; have hcz31_1 : w29.cell? ⟨gb204, 1, none⟩ = some (.int .i64 0) := (blk_cell BK204.out 1).trans rfl; have hcz31_2 : w29.cell? ⟨gb204, 2, none⟩ = some (.int .i64 0) := (blk_cell BK204.out 2).trans rfl; have hfz31_0 := blk_frozen BK204.out 0; have hfz31_1 := blk_frozen BK204.out 1; have hfz31_2 := blk_frozen BK204.out 2))
                repeat (go_quiet (fail); go_upto_region 13 with (first | ((with_reducible refine gate_dst (N := 11) rfl ?_); refine box_event ?hg (N := 11) ?hd (cs := #[.int .i64 0, .int .i64 0, .int .i64 0]) (t := 41) ?hr ?_; (case hd => rfl); (case hg => rfl); (case hr => first | (go_simp; done) | (go_simp; rfl)); intro gb204 hg w29 hbox hb; have n0_ := Aside0.mk (Kd.R_below (by (with_reducible repeat (first | apply Kd.R_alloc | apply Kd.R_drewN | apply Kd.R_drew)); exact HO_8.out) hb); have n1_ := Aside0.mk (blk_below (g := gb197) (o := .cells #[.int .i64 a0_0, .slice (some ad203) l0_1.length c0_1] 24 (0, 0)) (by (with_reducible repeat (first | refine blk_drewN ?_ _ | refine blk_drew ?_ | refine blk_alloc ?_ _)); exact BK197.out) hb); have n2_ := Aside0.mk (below_step (by repeat (first | (with_reducible first | exact HB.out | apply below_alloc | apply pw_below_drewN | apply below_drew1 | refine below_set ?_ GE197.out) | exact HB.out)) hb); have n3_ := Aside0.mk (hbox); have n4_ := Aside0.mk ((by rw [hg]; exact (below_size (by repeat (first | (with_reducible first | exact HB.out | apply below_alloc | apply pw_below_drewN | apply below_drew1 | refine below_set ?_ GE197.out) | exact HB.out))) : w.heap.size ≤ gb204)); have n5_ := Aside0.mk ((by rw [hg]; exact (below_size (by repeat (first | (with_reducible first | exact HB.out | apply below_alloc | apply pw_below_drewN | apply below_drew1 | refine below_set ?_ GE197.out) | exact HB.out))) : w.heap.size ≤ gb204)); have n6_ := Aside0.mk ((by rw [hg]; exact Nat.ne_of_lt (blk_lt (g := gb197) (o := .cells #[.int .i64 a0_0, .slice (some ad203) l0_1.length c0_1] 24 (0, 0)) (by (with_reducible repeat (first | refine blk_drewN ?_ _ | refine blk_drew ?_ | refine blk_alloc ?_ _)); exact BK197.out)) : gb197 ≠ gb204)); have n7_ := Aside0.mk ((by rw [hg]; exact Nat.ne_of_gt (blk_lt (g := gb197) (o := .cells #[.int .i64 a0_0, .slice (some ad203) l0_1.length c0_1] 24 (0, 0)) (by (with_reducible repeat (first | refine blk_drewN ?_ _ | refine blk_drew ?_ | refine blk_alloc ?_ _)); exact BK197.out)) : gb204 ≠ gb197)); clear HO_8; clear BK197; clear HB; have HO_8 := n0_; have BK197 := n1_; have HB := n2_; have BK204 := n3_; have GW204 := n4_; have GE204 := n5_; have NB197_204 := n6_; have NB204_197 := n7_; clear n0_ n1_ n2_ n3_ n4_ n5_ n6_ n7_; clear hb hbox hg; have hnb30 := NB204_197.out; have hnc30 := NB197_204.out; have hcz31_0 : w29.cell? ⟨gb204, 0, none⟩ = some (.int .i64 0) := (blk_cell BK204.out 0).trans rfl; have hcz31_1 : w29.cell? ⟨gb204, 1, none⟩ = some (.int .i64 0) := (blk_cell BK204.out 1).trans rfl; have hcz31_2 : w29.cell? ⟨gb204, 2, none⟩ = some (.int .i64 0) := (blk_cell BK204.out 2).trans rfl; have hfz31_0 := blk_frozen BK204.out 0; have hfz31_1 := blk_frozen BK204.out 1; have hfz31_2 := blk_frozen BK204.out 2)))
                (try simp only [Act.put, List.setIfInBounds_toArray, List.set_cons_zero, List.set_cons_succ])
                go_cut [66] (fun v66 wc => ∃ (kq : Nat) (x66_26 : Bool), v66 = .bool x66_26 ∧ Aside0 (billetref05_Reach.j3 kq l1 x8_3 x9_3 x10_3 x66_26 a0_0 l0_1 ((rd_T41 l0_1 x10_3).f0) ((rd_T41 l0_1 x10_3).f1) ((rd_T41 l0_1 x10_3).f2) = some r) ∧ Aside0 (kq ≤ k3) ∧ Aside0 (Kd.R Kd.bool 4 wc w.heap.size (fun _ => True) (.slice (some ⟨go17, 0, none⟩) x8_3.length co17) x8_3) ∧ Aside0 (wc.heap[gb197]? = some (.cells #[.int .i64 a0_0, (.slice (some ad203) l0_1.length c0_1)] 24 (0, 0))) ∧ Aside0 (wc.heap[gb204]? = some (.cells #[.int .i64 ((rd_T41 l0_1 x10_3).f0), .int .i64 ((rd_T41 l0_1 x10_3).f1), .int .i64 ((rd_T41 l0_1 x10_3).f2)] 41 (0, 0))) ∧ Aside0 (Below w.heap.size w wc))
                case first =>
                 have H := HC27.out
                 clear HC27
                 by_cases c32 : 0 ≤ ((rd_T41 l0_1 x10_3).f0)
                 ·rw [if_pos c32] at H
                  have c32b0 : decide (0 ≤ ((rd_T41 l0_1 x10_3).f0)) = true := decide_eq_true c32
                  clear c32
                  (first | rw [c32b0] | (simp only [i64_w, i32_w]; rw [c32b0]) | skip)
                  by_cases c33 : ((rd_T41 l0_1 x10_3).f0) < (x8_3.length : Int)
                  ·rw [if_pos c33] at H
                   have c33b0 : decide (((rd_T41 l0_1 x10_3).f0) < (x8_3.length : Int)) = true := decide_eq_true c33
                   clear c33
                   obtain ⟨bq34, hbq34⟩ : ∃ b_ : Bool, b_ = (rdOf false x8_3 ((rd_T41 l0_1 x10_3).f0)) := ⟨_, rfl⟩
                   replace H : (if bq34 = true then (if 0 ≤ ((rd_T41 l0_1 x10_3).f1) then (if ((rd_T41 l0_1 x10_3).f1) < (x8_3.length : Int) then (if (rdOf false x8_3 ((rd_T41 l0_1 x10_3).f1) = true) then (billetref05_Reach.j3 k3 l1 x8_3 x9_3 x10_3 false a0_0 l0_1 ((rd_T41 l0_1 x10_3).f0) ((rd_T41 l0_1 x10_3).f1) ((rd_T41 l0_1 x10_3).f2)) else (billetref05_Reach.j3 k3 l1 x8_3 x9_3 x10_3 (decide ((rd l1 x10_3) < ((rd_T41 l0_1 x10_3).f2))) a0_0 l0_1 ((rd_T41 l0_1 x10_3).f0) ((rd_T41 l0_1 x10_3).f1) ((rd_T41 l0_1 x10_3).f2))) else (none)) else (none)) else (billetref05_Reach.j3 k3 l1 x8_3 x9_3 x10_3 false a0_0 l0_1 ((rd_T41 l0_1 x10_3).f0) ((rd_T41 l0_1 x10_3).f1) ((rd_T41 l0_1 x10_3).f2))) = some r := by rw [← hbq34] at H; exact H
                   have Nbq34 := Aside0.mk hbq34
                   clear hbq34
                   by_cases c35 : bq34 = true
                   ·subst c35
                    have H1 : (if 0 ≤ ((rd_T41 l0_1 x10_3).f1) then (if ((rd_T41 l0_1 x10_3).f1) < (x8_3.length : Int) then (if (rdOf false x8_3 ((rd_T41 l0_1 x10_3).f1) = true) then (billetref05_Reach.j3 k3 l1 x8_3 x9_3 x10_3 false a0_0 l0_1 ((rd_T41 l0_1 x10_3).f0) ((rd_T41 l0_1 x10_3).f1) ((rd_T41 l0_1 x10_3).f2)) else (billetref05_Reach.j3 k3 l1 x8_3 x9_3 x10_3 (decide ((rd l1 x10_3) < ((rd_T41 l0_1 x10_3).f2))) a0_0 l0_1 ((rd_T41 l0_1 x10_3).f0) ((rd_T41 l0_1 x10_3).f1) ((rd_T41 l0_1 x10_3).f2))) else (none)) else (none)) = some r := by rw [if_pos rfl] at H; exact H
                    clear H
                    have H := H1
                    clear H1
                    by_cases c36 : 0 ≤ ((rd_T41 l0_1 x10_3).f1)
                    ·rw [if_pos c36] at H
                     have c36b0 : decide (0 ≤ ((rd_T41 l0_1 x10_3).f1)) = true := decide_eq_true c36
                     clear c36
                     by_cases c37 : ((rd_T41 l0_1 x10_3).f1) < (x8_3.length : Int)
                     ·rw [if_pos c37] at H
                      have c37b0 : decide (((rd_T41 l0_1 x10_3).f1) < (x8_3.length : Int)) = true := decide_eq_true c37
                      clear c37
                      obtain ⟨bq38, hbq38⟩ : ∃ b_ : Bool, b_ = (rdOf false x8_3 ((rd_T41 l0_1 x10_3).f1)) := ⟨_, rfl⟩
                      replace H : (if (bq38 = true) then (billetref05_Reach.j3 k3 l1 x8_3 x9_3 x10_3 false a0_0 l0_1 ((rd_T41 l0_1 x10_3).f0) ((rd_T41 l0_1 x10_3).f1) ((rd_T41 l0_1 x10_3).f2)) else (billetref05_Reach.j3 k3 l1 x8_3 x9_3 x10_3 (decide ((rd l1 x10_3) < ((rd_T41 l0_1 x10_3).f2))) a0_0 l0_1 ((rd_T41 l0_1 x10_3).f0) ((rd_T41 l0_1 x10_3).f1) ((rd_T41 l0_1 x10_3).f2))) = some r := by rw [← hbq38] at H; exact H
                      have Nbq38 := Aside0.mk hbq38
                      clear hbq38
                      by_cases c39 : (bq38 = true)
                      ·subst c39
                       have H1 : (billetref05_Reach.j3 k3 l1 x8_3 x9_3 x10_3 false a0_0 l0_1 ((rd_T41 l0_1 x10_3).f0) ((rd_T41 l0_1 x10_3).f1) ((rd_T41 l0_1 x10_3).f2)) = some r := by rw [if_pos rfl] at H; exact H
                       clear H
                       have H := H1
                       clear H1
                       have H' := Aside0.mk H
                       clear H
                       have hnb40 := NB204_197.out
                       have hnc40 := NB197_204.out
                       have hcz41_0 : w29.cell? ⟨gb204, 0, none⟩ = some (.int .i64 0) := (blk_cell BK204.out 0).trans rfl
                       have hcz41_1 : w29.cell? ⟨gb204, 1, none⟩ = some (.int .i64 0) := (blk_cell BK204.out 1).trans rfl
                       have hcz41_2 : w29.cell? ⟨gb204, 2, none⟩ = some (.int .i64 0) := (blk_cell BK204.out 2).trans rfl
                       have hfz41_0 := blk_frozen BK204.out 0
                       have hfz41_1 := blk_frozen BK204.out 1
                       have hfz41_2 := blk_frozen BK204.out 2
                       have p205 : 0 ≤ (((rd_T41 l0_1 x10_3).f0) : Int) := of_decide_eq_true (by first | (with_reducible assumption) | assumption)
                       have q205 : ((rd_T41 l0_1 x10_3).f0) < (x8_3.length : Int) := of_decide_eq_true (by first | (with_reducible assumption) | assumption)
                       obtain ⟨ad205, e205, hx205_0⟩ := Kd.at_bool (Kd.R_reads' HO_8.out).2.2 ((rd_T41 l0_1 x10_3).f0) p205 q205
                       (try rw [← Nbq34.out] at hx205_0)
                       (try rw [← Nbq38.out] at hx205_0)
                       obtain rfl : (⟨go17, 0, none⟩ : Addr) = ad205 := (by injection e205)
                       (first | simp only [add_plain] at hx205_0 | simp only [add_at] at hx205_0 | simp only [Addr.add, Nat.zero_add] at hx205_0 | skip)
                       have hn205_0 : (⟨go17, 0, none⟩ : Addr).block ≠ gb204 := Kd.own_blk (Kd.R_ne HO_8.out BK204.out (by decide))
                       have hn205_1 : (⟨go17, 0, none⟩ : Addr).block ≠ gb204 := Kd.own_blk (Kd.R_ne HO_8.out BK204.out (by decide))
                       have hn205_2 : (⟨go17, 0, none⟩ : Addr).block ≠ gb204 := Kd.own_blk (Kd.R_ne HO_8.out BK204.out (by decide))
                       replace hx205_0 := (cell_far (p := ⟨gb204, 0, none⟩) (by first | (rw [add_block]; exact hn205_0) | (show (Addr.add _ _).block ≠ _; rw [add_block]; exact hn205_0) | exact hn205_0) (.int .i64 ((rd_T41 l0_1 x10_3).f0))).trans hx205_0
                       replace hx205_0 := (cell_far (p := ⟨gb204, 1, none⟩) (by first | (rw [add_block]; exact hn205_1) | (show (Addr.add _ _).block ≠ _; rw [add_block]; exact hn205_1) | exact hn205_1) (.int .i64 ((rd_T41 l0_1 x10_3).f1))).trans hx205_0
                       replace hx205_0 := (cell_far (p := ⟨gb204, 2, none⟩) (by first | (rw [add_block]; exact hn205_2) | (show (Addr.add _ _).block ≠ _; rw [add_block]; exact hn205_2) | exact hn205_2) (.int .i64 ((rd_T41 l0_1 x10_3).f2))).trans hx205_0
                       (try have hy205_0 := fun (n_ : Nat) => (show (((((w29.drewN n_).setCell ⟨gb204, 0, none⟩ (.int .i64 ((rd_T41 l0_1 x10_3).f0))).setCell ⟨gb204, 1, none⟩ (.int .i64 ((rd_T41 l0_1 x10_3).f1))).setCell ⟨gb204, 2, none⟩ (.int .i64 ((rd_T41 l0_1 x10_3).f2)))).cell? _ = some _ from hx205_0))
                       clear hn205_0
                       clear hn205_1
                       clear hn205_2
                       replace p205 := eq_true p205
                       replace q205 := eq_true q205
                       have p206 : 0 ≤ (((rd_T41 l0_1 x10_3).f1) : Int) := of_decide_eq_true (by first | (with_reducible assumption) | assumption)
                       have q206 : ((rd_T41 l0_1 x10_3).f1) < (x8_3.length : Int) := of_decide_eq_true (by first | (with_reducible assumption) | assumption)
                       obtain ⟨ad206, e206, hx206_0⟩ := Kd.at_bool (Kd.R_reads' HO_8.out).2.2 ((rd_T41 l0_1 x10_3).f1) p206 q206
                       (try rw [← Nbq34.out] at hx206_0)
                       (try rw [← Nbq38.out] at hx206_0)
                       obtain rfl : (⟨go17, 0, none⟩ : Addr) = ad206 := (by injection e206)
                       (first | simp only [add_plain] at hx206_0 | simp only [add_at] at hx206_0 | simp only [Addr.add, Nat.zero_add] at hx206_0 | skip)
                       have hn206_0 : (⟨go17, 0, none⟩ : Addr).block ≠ gb204 := Kd.own_blk (Kd.R_ne HO_8.out BK204.out (by decide))
                       have hn206_1 : (⟨go17, 0, none⟩ : Addr).block ≠ gb204 := Kd.own_blk (Kd.R_ne HO_8.out BK204.out (by decide))
                       have hn206_2 : (⟨go17, 0, none⟩ : Addr).block ≠ gb204 := Kd.own_blk (Kd.R_ne HO_8.out BK204.out (by decide))
                       replace hx206_0 := (cell_far (p := ⟨gb204, 0, none⟩) (by first | (rw [add_block]; exact hn206_0) | (show (Addr.add _ _).block ≠ _; rw [add_block]; exact hn206_0) | exact hn206_0) (.int .i64 ((rd_T41 l0_1 x10_3).f0))).trans hx206_0
                       replace hx206_0 := (cell_far (p := ⟨gb204, 1, none⟩) (by first | (rw [add_block]; exact hn206_1) | (show (Addr.add _ _).block ≠ _; rw [add_block]; exact hn206_1) | exact hn206_1) (.int .i64 ((rd_T41 l0_1 x10_3).f1))).trans hx206_0
                       replace hx206_0 := (cell_far (p := ⟨gb204, 2, none⟩) (by first | (rw [add_block]; exact hn206_2) | (show (Addr.add _ _).block ≠ _; rw [add_block]; exact hn206_2) | exact hn206_2) (.int .i64 ((rd_T41 l0_1 x10_3).f2))).trans hx206_0
                       (try have hy206_0 := fun (n_ : Nat) => (show (((((w29.drewN n_).setCell ⟨gb204, 0, none⟩ (.int .i64 ((rd_T41 l0_1 x10_3).f0))).setCell ⟨gb204, 1, none⟩ (.int .i64 ((rd_T41 l0_1 x10_3).f1))).setCell ⟨gb204, 2, none⟩ (.int .i64 ((rd_T41 l0_1 x10_3).f2)))).cell? _ = some _ from hx206_0))
                       clear hn206_0
                       clear hn206_1
                       clear hn206_2
                       replace p206 := eq_true p206
                       replace q206 := eq_true q206
                       go_wp2
                       repeat (go_quiet (fail); try go_wp2)
                       go_meet
                       case rel => exact ⟨_, (false), (by first | rfl | (simp; done) | (simp [*]; done)), H', ⟨by have := HJ4.out; have := HK2.out; have := HK3.out; first | omega | exact Nat.le_refl _⟩, ⟨by (try simp only [hl8_2]); (try simp only [hl8_3]); (with_reducible repeat (first | apply Kd.R_alloc | apply Kd.R_drewN | apply Kd.R_drew)); exact Kd.R_mono (Kd.R_far (p := ⟨gb204, 2, none⟩) (Kd.R_far (p := ⟨gb204, 1, none⟩) (Kd.R_far (p := ⟨gb204, 0, none⟩) (Kd.R_types HO_8.out BK204.out (by decide)) (fun _ hk => hk.2) (.int .i64 ((rd_T41 l0_1 x10_3).f0))) (fun _ hk => hk.2) (.int .i64 ((rd_T41 l0_1 x10_3).f1))) (fun _ hk => hk.2) (.int .i64 ((rd_T41 l0_1 x10_3).f2))) (fun _ hk => trivial)⟩, ⟨by (try simp only [hl8_2]); (try simp only [hl8_3]); (with_reducible repeat (first | refine blk_drewN ?_ _ | refine blk_drew ?_ | refine blk_alloc ?_ _)); refine blk_far ?_ NB197_204.out _; (with_reducible repeat (first | refine blk_drewN ?_ _ | refine blk_drew ?_ | refine blk_alloc ?_ _)); refine blk_far ?_ NB197_204.out _; (with_reducible repeat (first | refine blk_drewN ?_ _ | refine blk_drew ?_ | refine blk_alloc ?_ _)); refine blk_far ?_ NB197_204.out _; (with_reducible repeat (first | refine blk_drewN ?_ _ | refine blk_drew ?_ | refine blk_alloc ?_ _)); exact BK197.out⟩, ⟨by (try simp only [hl8_2]); (try simp only [hl8_3]); (with_reducible repeat (first | refine blk_drewN ?_ _ | refine blk_drew ?_ | refine blk_alloc ?_ _)); refine blk_put (cs := #[.int .i64 ((rd_T41 l0_1 x10_3).f0), .int .i64 ((rd_T41 l0_1 x10_3).f1), .int .i64 0]) ?_ 2 _ rfl; (with_reducible repeat (first | refine blk_drewN ?_ _ | refine blk_drew ?_ | refine blk_alloc ?_ _)); refine blk_put (cs := #[.int .i64 ((rd_T41 l0_1 x10_3).f0), .int .i64 0, .int .i64 0]) ?_ 1 _ rfl; (with_reducible repeat (first | refine blk_drewN ?_ _ | refine blk_drew ?_ | refine blk_alloc ?_ _)); refine blk_put (cs := #[.int .i64 0, .int .i64 0, .int .i64 0]) ?_ 0 _ rfl; (with_reducible repeat (first | refine blk_drewN ?_ _ | refine blk_drew ?_ | refine blk_alloc ?_ _)); exact BK204.out⟩, ⟨by repeat (first | (with_reducible first | exact HB.out | apply below_alloc | apply pw_below_drewN | apply below_drew1 | refine below_set ?_ GE197.out | refine below_set ?_ GE204.out) | exact HB.out)⟩⟩
                      ·replace c39 := Bool.eq_false_iff.mpr c39
                       subst c39
                       have H1 : (billetref05_Reach.j3 k3 l1 x8_3 x9_3 x10_3 (decide ((rd l1 x10_3) < ((rd_T41 l0_1 x10_3).f2))) a0_0 l0_1 ((rd_T41 l0_1 x10_3).f0) ((rd_T41 l0_1 x10_3).f1) ((rd_T41 l0_1 x10_3).f2)) = some r := by rw [if_neg (show ¬ (false = true) by decide)] at H; exact H
                       clear H
                       have H := H1
                       clear H1
                       have H' := Aside0.mk H
                       clear H
                       have hnb42 := NB204_197.out
                       have hnc42 := NB197_204.out
                       have hcz43_0 : w29.cell? ⟨gb204, 0, none⟩ = some (.int .i64 0) := (blk_cell BK204.out 0).trans rfl
                       have hcz43_1 : w29.cell? ⟨gb204, 1, none⟩ = some (.int .i64 0) := (blk_cell BK204.out 1).trans rfl
                       have hcz43_2 : w29.cell? ⟨gb204, 2, none⟩ = some (.int .i64 0) := (blk_cell BK204.out 2).trans rfl
                       have hfz43_0 := blk_frozen BK204.out 0
                       have hfz43_1 := blk_frozen BK204.out 1
                       have hfz43_2 := blk_frozen BK204.out 2
                       have p205 : 0 ≤ (((rd_T41 l0_1 x10_3).f0) : Int) := of_decide_eq_true (by first | (with_reducible assumption) | assumption)
                       have q205 : ((rd_T41 l0_1 x10_3).f0) < (x8_3.length : Int) := of_decide_eq_true (by first | (with_reducible assumption) | assumption)
                       obtain ⟨ad205, e205, hx205_0⟩ := Kd.at_bool (Kd.R_reads' HO_8.out).2.2 ((rd_T41 l0_1 x10_3).f0) p205 q205
                       (try rw [← Nbq34.out] at hx205_0)
                       (try rw [← Nbq38.out] at hx205_0)
                       obtain rfl : (⟨go17, 0, none⟩ : Addr) = ad205 := (by injection e205)
                       (first | simp only [add_plain] at hx205_0 | simp only [add_at] at hx205_0 | simp only [Addr.add, Nat.zero_add] at hx205_0 | skip)
                       have hn205_0 : (⟨go17, 0, none⟩ : Addr).block ≠ gb204 := Kd.own_blk (Kd.R_ne HO_8.out BK204.out (by decide))
                       have hn205_1 : (⟨go17, 0, none⟩ : Addr).block ≠ gb204 := Kd.own_blk (Kd.R_ne HO_8.out BK204.out (by decide))
                       have hn205_2 : (⟨go17, 0, none⟩ : Addr).block ≠ gb204 := Kd.own_blk (Kd.R_ne HO_8.out BK204.out (by decide))
                       replace hx205_0 := (cell_far (p := ⟨gb204, 0, none⟩) (by first | (rw [add_block]; exact hn205_0) | (show (Addr.add _ _).block ≠ _; rw [add_block]; exact hn205_0) | exact hn205_0) (.int .i64 ((rd_T41 l0_1 x10_3).f0))).trans hx205_0
                       replace hx205_0 := (cell_far (p := ⟨gb204, 1, none⟩) (by first | (rw [add_block]; exact hn205_1) | (show (Addr.add _ _).block ≠ _; rw [add_block]; exact hn205_1) | exact hn205_1) (.int .i64 ((rd_T41 l0_1 x10_3).f1))).trans hx205_0
                       replace hx205_0 := (cell_far (p := ⟨gb204, 2, none⟩) (by first | (rw [add_block]; exact hn205_2) | (show (Addr.add _ _).block ≠ _; rw [add_block]; exact hn205_2) | exact hn205_2) (.int .i64 ((rd_T41 l0_1 x10_3).f2))).trans hx205_0
                       (try have hy205_0 := fun (n_ : Nat) => (show (((((w29.drewN n_).setCell ⟨gb204, 0, none⟩ (.int .i64 ((rd_T41 l0_1 x10_3).f0))).setCell ⟨gb204, 1, none⟩ (.int .i64 ((rd_T41 l0_1 x10_3).f1))).setCell ⟨gb204, 2, none⟩ (.int .i64 ((rd_T41 l0_1 x10_3).f2)))).cell? _ = some _ from hx205_0))
                       clear hn205_0
                       clear hn205_1
                       clear hn205_2
                       replace p205 := eq_true p205
                       replace q205 := eq_true q205
                       have p206 : 0 ≤ (((rd_T41 l0_1 x10_3).f1) : Int) := of_decide_eq_true (by first | (with_reducible assumption) | assumption)
                       have q206 : ((rd_T41 l0_1 x10_3).f1) < (x8_3.length : Int) := of_decide_eq_true (by first | (with_reducible assumption) | assumption)
                       obtain ⟨ad206, e206, hx206_0⟩ := Kd.at_bool (Kd.R_reads' HO_8.out).2.2 ((rd_T41 l0_1 x10_3).f1) p206 q206
                       (try rw [← Nbq34.out] at hx206_0)
                       (try rw [← Nbq38.out] at hx206_0)
                       obtain rfl : (⟨go17, 0, none⟩ : Addr) = ad206 := (by injection e206)
                       (first | simp only [add_plain] at hx206_0 | simp only [add_at] at hx206_0 | simp only [Addr.add, Nat.zero_add] at hx206_0 | skip)
                       have hn206_0 : (⟨go17, 0, none⟩ : Addr).block ≠ gb204 := Kd.own_blk (Kd.R_ne HO_8.out BK204.out (by decide))
                       have hn206_1 : (⟨go17, 0, none⟩ : Addr).block ≠ gb204 := Kd.own_blk (Kd.R_ne HO_8.out BK204.out (by decide))
                       have hn206_2 : (⟨go17, 0, none⟩ : Addr).block ≠ gb204 := Kd.own_blk (Kd.R_ne HO_8.out BK204.out (by decide))
                       replace hx206_0 := (cell_far (p := ⟨gb204, 0, none⟩) (by first | (rw [add_block]; exact hn206_0) | (show (Addr.add _ _).block ≠ _; rw [add_block]; exact hn206_0) | exact hn206_0) (.int .i64 ((rd_T41 l0_1 x10_3).f0))).trans hx206_0
                       replace hx206_0 := (cell_far (p := ⟨gb204, 1, none⟩) (by first | (rw [add_block]; exact hn206_1) | (show (Addr.add _ _).block ≠ _; rw [add_block]; exact hn206_1) | exact hn206_1) (.int .i64 ((rd_T41 l0_1 x10_3).f1))).trans hx206_0
                       replace hx206_0 := (cell_far (p := ⟨gb204, 2, none⟩) (by first | (rw [add_block]; exact hn206_2) | (show (Addr.add _ _).block ≠ _; rw [add_block]; exact hn206_2) | exact hn206_2) (.int .i64 ((rd_T41 l0_1 x10_3).f2))).trans hx206_0
                       (try have hy206_0 := fun (n_ : Nat) => (show (((((w29.drewN n_).setCell ⟨gb204, 0, none⟩ (.int .i64 ((rd_T41 l0_1 x10_3).f0))).setCell ⟨gb204, 1, none⟩ (.int .i64 ((rd_T41 l0_1 x10_3).f1))).setCell ⟨gb204, 2, none⟩ (.int .i64 ((rd_T41 l0_1 x10_3).f2)))).cell? _ = some _ from hx206_0))
                       clear hn206_0
                       clear hn206_1
                       clear hn206_2
                       replace p206 := eq_true p206
                       replace q206 := eq_true q206
                       have p207 : 0 ≤ (x10_3 : Int) := of_decide_eq_true (by first | (with_reducible assumption) | assumption)
                       have q207 : x10_3 < (l1.length : Int) := of_decide_eq_true (by first | (with_reducible assumption) | assumption)
                       obtain ⟨ad207, e207, hx207_0⟩ := Kd.at_int HR1.out x10_3 p207 q207
                       cases e207
                       have hn207_0 : ad207.block ≠ gb204 := Nat.ne_of_lt (Nat.lt_of_lt_of_le (by have := World.block_lt_of_cell? _ _ hx207_0; first | rwa [add_block] at this | exact this) GW204.out)
                       have hn207_1 : ad207.block ≠ gb204 := Nat.ne_of_lt (Nat.lt_of_lt_of_le (by have := World.block_lt_of_cell? _ _ hx207_0; first | rwa [add_block] at this | exact this) GW204.out)
                       have hn207_2 : ad207.block ≠ gb204 := Nat.ne_of_lt (Nat.lt_of_lt_of_le (by have := World.block_lt_of_cell? _ _ hx207_0; first | rwa [add_block] at this | exact this) GW204.out)
                       replace hx207_0 := (HB.out.cell (World.block_lt_of_cell? w _ hx207_0)).trans hx207_0
                       replace hx207_0 := (cell_far (p := ⟨gb204, 0, none⟩) (by first | (rw [add_block]; exact hn207_0) | (show (Addr.add _ _).block ≠ _; rw [add_block]; exact hn207_0) | exact hn207_0) (.int .i64 ((rd_T41 l0_1 x10_3).f0))).trans hx207_0
                       replace hx207_0 := (cell_far (p := ⟨gb204, 1, none⟩) (by first | (rw [add_block]; exact hn207_1) | (show (Addr.add _ _).block ≠ _; rw [add_block]; exact hn207_1) | exact hn207_1) (.int .i64 ((rd_T41 l0_1 x10_3).f1))).trans hx207_0
                       replace hx207_0 := (cell_far (p := ⟨gb204, 2, none⟩) (by first | (rw [add_block]; exact hn207_2) | (show (Addr.add _ _).block ≠ _; rw [add_block]; exact hn207_2) | exact hn207_2) (.int .i64 ((rd_T41 l0_1 x10_3).f2))).trans hx207_0
                       (try have hy207_0 := fun (n_ : Nat) => (show (((((w29.drewN n_).setCell ⟨gb204, 0, none⟩ (.int .i64 ((rd_T41 l0_1 x10_3).f0))).setCell ⟨gb204, 1, none⟩ (.int .i64 ((rd_T41 l0_1 x10_3).f1))).setCell ⟨gb204, 2, none⟩ (.int .i64 ((rd_T41 l0_1 x10_3).f2)))).cell? _ = some _ from hx207_0))
                       clear hn207_0
                       clear hn207_1
                       clear hn207_2
                       replace p207 := eq_true p207
                       replace q207 := eq_true q207
                       go_wp2
                       repeat (go_quiet (fail); try go_wp2)
                       go_meet
                       case rel => exact ⟨_, (decide ((rd l1 x10_3) < ((rd_T41 l0_1 x10_3).f2))), (by first | rfl | (simp; done) | (simp [*]; done)), H', ⟨by have := HJ4.out; have := HK2.out; have := HK3.out; first | omega | exact Nat.le_refl _⟩, ⟨by (try simp only [hl8_2]); (try simp only [hl8_3]); (with_reducible repeat (first | apply Kd.R_alloc | apply Kd.R_drewN | apply Kd.R_drew)); exact Kd.R_mono (Kd.R_far (p := ⟨gb204, 2, none⟩) (Kd.R_far (p := ⟨gb204, 1, none⟩) (Kd.R_far (p := ⟨gb204, 0, none⟩) (Kd.R_types HO_8.out BK204.out (by decide)) (fun _ hk => hk.2) (.int .i64 ((rd_T41 l0_1 x10_3).f0))) (fun _ hk => hk.2) (.int .i64 ((rd_T41 l0_1 x10_3).f1))) (fun _ hk => hk.2) (.int .i64 ((rd_T41 l0_1 x10_3).f2))) (fun _ hk => trivial)⟩, ⟨by (try simp only [hl8_2]); (try simp only [hl8_3]); (with_reducible repeat (first | refine blk_drewN ?_ _ | refine blk_drew ?_ | refine blk_alloc ?_ _)); refine blk_far ?_ NB197_204.out _; (with_reducible repeat (first | refine blk_drewN ?_ _ | refine blk_drew ?_ | refine blk_alloc ?_ _)); refine blk_far ?_ NB197_204.out _; (with_reducible repeat (first | refine blk_drewN ?_ _ | refine blk_drew ?_ | refine blk_alloc ?_ _)); refine blk_far ?_ NB197_204.out _; (with_reducible repeat (first | refine blk_drewN ?_ _ | refine blk_drew ?_ | refine blk_alloc ?_ _)); exact BK197.out⟩, ⟨by (try simp only [hl8_2]); (try simp only [hl8_3]); (with_reducible repeat (first | refine blk_drewN ?_ _ | refine blk_drew ?_ | refine blk_alloc ?_ _)); refine blk_put (cs := #[.int .i64 ((rd_T41 l0_1 x10_3).f0), .int .i64 ((rd_T41 l0_1 x10_3).f1), .int .i64 0]) ?_ 2 _ rfl; (with_reducible repeat (first | refine blk_drewN ?_ _ | refine blk_drew ?_ | refine blk_alloc ?_ _)); refine blk_put (cs := #[.int .i64 ((rd_T41 l0_1 x10_3).f0), .int .i64 0, .int .i64 0]) ?_ 1 _ rfl; (with_reducible repeat (first | refine blk_drewN ?_ _ | refine blk_drew ?_ | refine blk_alloc ?_ _)); refine blk_put (cs := #[.int .i64 0, .int .i64 0, .int .i64 0]) ?_ 0 _ rfl; (with_reducible repeat (first | refine blk_drewN ?_ _ | refine blk_drew ?_ | refine blk_alloc ?_ _)); exact BK204.out⟩, ⟨by repeat (first | (with_reducible first | exact HB.out | apply below_alloc | apply pw_below_drewN | apply below_drew1 | refine below_set ?_ GE197.out | refine below_set ?_ GE204.out) | exact HB.out)⟩⟩
                     ·rw [if_neg c37] at H
                      exact absurd H (by simp)
                    ·rw [if_neg c36] at H
                     exact absurd H (by simp)
                   ·replace c35 := Bool.eq_false_iff.mpr c35
                    subst c35
                    have H1 : (billetref05_Reach.j3 k3 l1 x8_3 x9_3 x10_3 false a0_0 l0_1 ((rd_T41 l0_1 x10_3).f0) ((rd_T41 l0_1 x10_3).f1) ((rd_T41 l0_1 x10_3).f2)) = some r := by rw [if_neg (show ¬ (false = true) by decide)] at H; exact H
                    clear H
                    have H := H1
                    clear H1
                    have H' := Aside0.mk H
                    clear H
                    have hnb44 := NB204_197.out
                    have hnc44 := NB197_204.out
                    have hcz45_0 : w29.cell? ⟨gb204, 0, none⟩ = some (.int .i64 0) := (blk_cell BK204.out 0).trans rfl
                    have hcz45_1 : w29.cell? ⟨gb204, 1, none⟩ = some (.int .i64 0) := (blk_cell BK204.out 1).trans rfl
                    have hcz45_2 : w29.cell? ⟨gb204, 2, none⟩ = some (.int .i64 0) := (blk_cell BK204.out 2).trans rfl
                    have hfz45_0 := blk_frozen BK204.out 0
                    have hfz45_1 := blk_frozen BK204.out 1
                    have hfz45_2 := blk_frozen BK204.out 2
                    have p205 : 0 ≤ (((rd_T41 l0_1 x10_3).f0) : Int) := of_decide_eq_true (by first | (with_reducible assumption) | assumption)
                    have q205 : ((rd_T41 l0_1 x10_3).f0) < (x8_3.length : Int) := of_decide_eq_true (by first | (with_reducible assumption) | assumption)
                    obtain ⟨ad205, e205, hx205_0⟩ := Kd.at_bool (Kd.R_reads' HO_8.out).2.2 ((rd_T41 l0_1 x10_3).f0) p205 q205
                    (try rw [← Nbq34.out] at hx205_0)
                    obtain rfl : (⟨go17, 0, none⟩ : Addr) = ad205 := (by injection e205)
                    (first | simp only [add_plain] at hx205_0 | simp only [add_at] at hx205_0 | simp only [Addr.add, Nat.zero_add] at hx205_0 | skip)
                    have hn205_0 : (⟨go17, 0, none⟩ : Addr).block ≠ gb204 := Kd.own_blk (Kd.R_ne HO_8.out BK204.out (by decide))
                    have hn205_1 : (⟨go17, 0, none⟩ : Addr).block ≠ gb204 := Kd.own_blk (Kd.R_ne HO_8.out BK204.out (by decide))
                    have hn205_2 : (⟨go17, 0, none⟩ : Addr).block ≠ gb204 := Kd.own_blk (Kd.R_ne HO_8.out BK204.out (by decide))
                    replace hx205_0 := (cell_far (p := ⟨gb204, 0, none⟩) (by first | (rw [add_block]; exact hn205_0) | (show (Addr.add _ _).block ≠ _; rw [add_block]; exact hn205_0) | exact hn205_0) (.int .i64 ((rd_T41 l0_1 x10_3).f0))).trans hx205_0
                    replace hx205_0 := (cell_far (p := ⟨gb204, 1, none⟩) (by first | (rw [add_block]; exact hn205_1) | (show (Addr.add _ _).block ≠ _; rw [add_block]; exact hn205_1) | exact hn205_1) (.int .i64 ((rd_T41 l0_1 x10_3).f1))).trans hx205_0
                    replace hx205_0 := (cell_far (p := ⟨gb204, 2, none⟩) (by first | (rw [add_block]; exact hn205_2) | (show (Addr.add _ _).block ≠ _; rw [add_block]; exact hn205_2) | exact hn205_2) (.int .i64 ((rd_T41 l0_1 x10_3).f2))).trans hx205_0
                    (try have hy205_0 := fun (n_ : Nat) => (show (((((w29.drewN n_).setCell ⟨gb204, 0, none⟩ (.int .i64 ((rd_T41 l0_1 x10_3).f0))).setCell ⟨gb204, 1, none⟩ (.int .i64 ((rd_T41 l0_1 x10_3).f1))).setCell ⟨gb204, 2, none⟩ (.int .i64 ((rd_T41 l0_1 x10_3).f2)))).cell? _ = some _ from hx205_0))
                    clear hn205_0
                    clear hn205_1
                    clear hn205_2
                    replace p205 := eq_true p205
                    replace q205 := eq_true q205
                    go_wp2
                    repeat (go_quiet (fail); try go_wp2)
                    go_meet
                    case rel => exact ⟨_, (false), (by first | rfl | (simp; done) | (simp [*]; done)), H', ⟨by have := HJ4.out; have := HK2.out; have := HK3.out; first | omega | exact Nat.le_refl _⟩, ⟨by (try simp only [hl8_2]); (try simp only [hl8_3]); (with_reducible repeat (first | apply Kd.R_alloc | apply Kd.R_drewN | apply Kd.R_drew)); exact Kd.R_mono (Kd.R_far (p := ⟨gb204, 2, none⟩) (Kd.R_far (p := ⟨gb204, 1, none⟩) (Kd.R_far (p := ⟨gb204, 0, none⟩) (Kd.R_types HO_8.out BK204.out (by decide)) (fun _ hk => hk.2) (.int .i64 ((rd_T41 l0_1 x10_3).f0))) (fun _ hk => hk.2) (.int .i64 ((rd_T41 l0_1 x10_3).f1))) (fun _ hk => hk.2) (.int .i64 ((rd_T41 l0_1 x10_3).f2))) (fun _ hk => trivial)⟩, ⟨by (try simp only [hl8_2]); (try simp only [hl8_3]); (with_reducible repeat (first | refine blk_drewN ?_ _ | refine blk_drew ?_ | refine blk_alloc ?_ _)); refine blk_far ?_ NB197_204.out _; (with_reducible repeat (first | refine blk_drewN ?_ _ | refine blk_drew ?_ | refine blk_alloc ?_ _)); refine blk_far ?_ NB197_204.out _; (with_reducible repeat (first | refine blk_drewN ?_ _ | refine blk_drew ?_ | refine blk_alloc ?_ _)); refine blk_far ?_ NB197_204.out _; (with_reducible repeat (first | refine blk_drewN ?_ _ | refine blk_drew ?_ | refine blk_alloc ?_ _)); exact BK197.out⟩, ⟨by (try simp only [hl8_2]); (try simp only [hl8_3]); (with_reducible repeat (first | refine blk_drewN ?_ _ | refine blk_drew ?_ | refine blk_alloc ?_ _)); refine blk_put (cs := #[.int .i64 ((rd_T41 l0_1 x10_3).f0), .int .i64 ((rd_T41 l0_1 x10_3).f1), .int .i64 0]) ?_ 2 _ rfl; (with_reducible repeat (first | refine blk_drewN ?_ _ | refine blk_drew ?_ | refine blk_alloc ?_ _)); refine blk_put (cs := #[.int .i64 ((rd_T41 l0_1 x10_3).f0), .int .i64 0, .int .i64 0]) ?_ 1 _ rfl; (with_reducible repeat (first | refine blk_drewN ?_ _ | refine blk_drew ?_ | refine blk_alloc ?_ _)); refine blk_put (cs := #[.int .i64 0, .int .i64 0, .int .i64 0]) ?_ 0 _ rfl; (with_reducible repeat (first | refine blk_drewN ?_ _ | refine blk_drew ?_ | refine blk_alloc ?_ _)); exact BK204.out⟩, ⟨by repeat (first | (with_reducible first | exact HB.out | apply below_alloc | apply pw_below_drewN | apply below_drew1 | refine below_set ?_ GE197.out | refine below_set ?_ GE204.out) | exact HB.out)⟩⟩
                  ·rw [if_neg c33] at H
                   exact absurd H (by simp)
                 ·rw [if_neg c32] at H
                  exact absurd H (by simp)
                case rest =>
                 clear HC27
                 try clear c1
                 try clear p1
                 try clear q1
                 try clear hx1
                 try clear c2
                 try clear p2
                 try clear q2
                 try clear hx2
                 try clear c3
                 try clear q3
                 try clear c4
                 try clear c9
                 try clear c10
                 try clear c10b0
                 try clear c12
                 try clear c13
                 try clear c13b0
                 try clear c13b1
                 try clear c14
                 try clear c14b0
                 try clear c14b1
                 try clear c15
                 try clear c15b0
                 try clear c16
                 try clear c16b0
                 try clear p17
                 try clear q17
                 try clear hx17
                 try clear hf17
                 try clear p20
                 try clear q20
                 try clear hx20
                 try clear c21
                 try clear c23
                 try clear c24
                 try clear c24b0
                 try clear c25
                 try clear c25b0
                 try clear c26
                 try clear c26b0
                 try clear c30
                 try clear c32
                 try clear c32b0
                 try clear c33
                 try clear c33b0
                 try clear q34
                 try clear c35
                 try clear c36
                 try clear c36b0
                 try clear c37
                 try clear c37b0
                 try clear q38
                 try clear c39
                 try clear c40
                 try clear c42
                 try clear c44
                 try clear hcz11_0
                 try clear hcz11_1
                 try clear hcz18_0
                 try clear hcz18_1
                 try clear hcz28_0
                 try clear hcz28_1
                 try clear hcz31_0
                 try clear hcz31_1
                 try clear hcz31_2
                 try clear hcz41_0
                 try clear hcz41_1
                 try clear hcz41_2
                 try clear hcz43_0
                 try clear hcz43_1
                 try clear hcz43_2
                 try clear hcz45_0
                 try clear hcz45_1
                 try clear hcz45_2
                 try clear hcz7_0
                 try clear hcz7_1
                 try clear hfz11_0
                 try clear hfz11_1
                 try clear hfz18_0
                 try clear hfz18_1
                 try clear hfz28_0
                 try clear hfz28_1
                 try clear hfz31_0
                 try clear hfz31_1
                 try clear hfz31_2
                 try clear hfz41_0
                 try clear hfz41_1
                 try clear hfz41_2
                 try clear hfz43_0
                 try clear hfz43_1
                 try clear hfz43_2
                 try clear hfz45_0
                 try clear hfz45_1
                 try clear hfz45_2
                 try clear hfz7_0
                 try clear hfz7_1
                 try clear hx17_0
                 try clear hx203_0
                 try clear hx203_1
                 try clear hx203_2
                 try clear hx205_0
                 try clear hx206_0
                 try clear hx207_0
                 try clear p1
                 try clear p17
                 try clear p2
                 try clear p203
                 try clear p205
                 try clear p206
                 try clear p207
                 try clear q1
                 try clear q17
                 try clear q203
                 try clear q205
                 try clear q206
                 try clear q207
                 obtain ⟨kq, x66_26, rfl, HA, HJ26, HO_8, BK197, BK204, HB⟩ := hcut
                 cases kq with
                 | zero => exact absurd HA.out (by simp [billetref05_Reach.j3])
                 | succ kj26 =>
                  have H := HA.out
                  clear HA
                  simp only [billetref05_Reach.j3] at H
                  by_cases c46 : x66_26 = true
                  ·subst c46
                   have H1 : (if 0 ≤ ((rd_T41 l0_1 x10_3).f1) then (if ((rd_T41 l0_1 x10_3).f1) < (x8_3.length : Int) then ((some (x8_3.set (((rd_T41 l0_1 x10_3).f1) : Int).toNat true : List Bool)).bind fun y208 => (if rdOf false y208 ((rd_T41 l0_1 x10_3).f1) = true then (if 0 ≤ ((rd_T41 l0_1 x10_3).f0) then (if ((rd_T41 l0_1 x10_3).f0) < (x8_3.length : Int) then (if rdOf false y208 ((rd_T41 l0_1 x10_3).f0) = true then (billetref05_Reach.l1 kj26 l1 y208 true (wrap64 (x10_3 + 1)) a0_0 l0_1) else (if 0 ≤ x10_3 then (if x10_3 < (l1.length : Int) then (if (rd l1 x10_3) > 0 then (billetref05_Reach.l1 kj26 l1 (y208.set (((rd_T41 l0_1 x10_3).f0) : Int).toNat true) true (wrap64 (x10_3 + 1)) a0_0 l0_1) else (billetref05_Reach.l1 kj26 l1 y208 true (wrap64 (x10_3 + 1)) a0_0 l0_1)) else (none)) else (none))) else (none)) else (none)) else (billetref05_Reach.l1 kj26 l1 y208 true (wrap64 (x10_3 + 1)) a0_0 l0_1))) else (none)) else (none)) = some r := by rw [if_pos rfl] at H; exact H
                   clear H
                   have H := H1
                   clear H1
                   by_cases c47 : 0 ≤ ((rd_T41 l0_1 x10_3).f1)
                   ·rw [if_pos c47] at H
                    have c47b0 : decide (0 ≤ ((rd_T41 l0_1 x10_3).f1)) = true := decide_eq_true c47
                    clear c47
                    by_cases c48 : ((rd_T41 l0_1 x10_3).f1) < (x8_3.length : Int)
                    ·rw [if_pos c48] at H
                     have c48b0 : decide (((rd_T41 l0_1 x10_3).f1) < (x8_3.length : Int)) = true := decide_eq_true c48
                     clear c48
                     obtain ⟨y208, hy208⟩ : ∃ y_ : List Bool, y_ = (x8_3.set (((rd_T41 l0_1 x10_3).f1) : Int).toNat true) := ⟨_, rfl⟩
                     replace H : (if rdOf false y208 ((rd_T41 l0_1 x10_3).f1) = true then (if 0 ≤ ((rd_T41 l0_1 x10_3).f0) then (if ((rd_T41 l0_1 x10_3).f0) < (x8_3.length : Int) then (if rdOf false y208 ((rd_T41 l0_1 x10_3).f0) = true then (billetref05_Reach.l1 kj26 l1 y208 true (wrap64 (x10_3 + 1)) a0_0 l0_1) else (if 0 ≤ x10_3 then (if x10_3 < (l1.length : Int) then (if (rd l1 x10_3) > 0 then (billetref05_Reach.l1 kj26 l1 (y208.set (((rd_T41 l0_1 x10_3).f0) : Int).toNat true) true (wrap64 (x10_3 + 1)) a0_0 l0_1) else (billetref05_Reach.l1 kj26 l1 y208 true (wrap64 (x10_3 + 1)) a0_0 l0_1)) else (none)) else (none))) else (none)) else (none)) else (billetref05_Reach.l1 kj26 l1 y208 true (wrap64 (x10_3 + 1)) a0_0 l0_1)) = some r := by first | (rw [hy208]; with_reducible exact H) | (have H2_ := (Option.bind_some _ _).symm.trans H; rw [hy208]; with_reducible exact H2_) | (have H2_ := (Option.bind_some _ _).symm.trans H; with_reducible exact H2_) | with_reducible exact H | (rw [hy208]; exact H) | exact H
                     have Ny208 := Aside0.mk hy208
                     clear hy208
                     obtain ⟨bq50, hbq50⟩ : ∃ b_ : Bool, b_ = (rdOf false y208 ((rd_T41 l0_1 x10_3).f1)) := ⟨_, rfl⟩
                     replace H : (if bq50 = true then (if 0 ≤ ((rd_T41 l0_1 x10_3).f0) then (if ((rd_T41 l0_1 x10_3).f0) < (x8_3.length : Int) then (if rdOf false y208 ((rd_T41 l0_1 x10_3).f0) = true then (billetref05_Reach.l1 kj26 l1 y208 true (wrap64 (x10_3 + 1)) a0_0 l0_1) else (if 0 ≤ x10_3 then (if x10_3 < (l1.length : Int) then (if (rd l1 x10_3) > 0 then (billetref05_Reach.l1 kj26 l1 (y208.set (((rd_T41 l0_1 x10_3).f0) : Int).toNat true) true (wrap64 (x10_3 + 1)) a0_0 l0_1) else (billetref05_Reach.l1 kj26 l1 y208 true (wrap64 (x10_3 + 1)) a0_0 l0_1)) else (none)) else (none))) else (none)) else (none)) else (billetref05_Reach.l1 kj26 l1 y208 true (wrap64 (x10_3 + 1)) a0_0 l0_1)) = some r := by rw [← hbq50] at H; exact H
                     have Nbq50 := Aside0.mk hbq50
                     clear hbq50
                     by_cases c51 : bq50 = true
                     ·subst c51
                      have H1 : (if 0 ≤ ((rd_T41 l0_1 x10_3).f0) then (if ((rd_T41 l0_1 x10_3).f0) < (x8_3.length : Int) then (if rdOf false y208 ((rd_T41 l0_1 x10_3).f0) = true then (billetref05_Reach.l1 kj26 l1 y208 true (wrap64 (x10_3 + 1)) a0_0 l0_1) else (if 0 ≤ x10_3 then (if x10_3 < (l1.length : Int) then (if (rd l1 x10_3) > 0 then (billetref05_Reach.l1 kj26 l1 (y208.set (((rd_T41 l0_1 x10_3).f0) : Int).toNat true) true (wrap64 (x10_3 + 1)) a0_0 l0_1) else (billetref05_Reach.l1 kj26 l1 y208 true (wrap64 (x10_3 + 1)) a0_0 l0_1)) else (none)) else (none))) else (none)) else (none)) = some r := by rw [if_pos rfl] at H; exact H
                      clear H
                      have H := H1
                      clear H1
                      by_cases c52 : 0 ≤ ((rd_T41 l0_1 x10_3).f0)
                      ·rw [if_pos c52] at H
                       have c52b0 : decide (0 ≤ ((rd_T41 l0_1 x10_3).f0)) = true := decide_eq_true c52
                       clear c52
                       by_cases c53 : ((rd_T41 l0_1 x10_3).f0) < (x8_3.length : Int)
                       ·rw [if_pos c53] at H
                        have c53b0 : decide (((rd_T41 l0_1 x10_3).f0) < (x8_3.length : Int)) = true := decide_eq_true c53
                        clear c53
                        obtain ⟨bq54, hbq54⟩ : ∃ b_ : Bool, b_ = (rdOf false y208 ((rd_T41 l0_1 x10_3).f0)) := ⟨_, rfl⟩
                        replace H : (if bq54 = true then (billetref05_Reach.l1 kj26 l1 y208 true (wrap64 (x10_3 + 1)) a0_0 l0_1) else (if 0 ≤ x10_3 then (if x10_3 < (l1.length : Int) then (if (rd l1 x10_3) > 0 then (billetref05_Reach.l1 kj26 l1 (y208.set (((rd_T41 l0_1 x10_3).f0) : Int).toNat true) true (wrap64 (x10_3 + 1)) a0_0 l0_1) else (billetref05_Reach.l1 kj26 l1 y208 true (wrap64 (x10_3 + 1)) a0_0 l0_1)) else (none)) else (none))) = some r := by rw [← hbq54] at H; exact H
                        have Nbq54 := Aside0.mk hbq54
                        clear hbq54
                        by_cases c55 : bq54 = true
                        ·subst c55
                         have H1 : (billetref05_Reach.l1 kj26 l1 y208 true (wrap64 (x10_3 + 1)) a0_0 l0_1) = some r := by rw [if_pos rfl] at H; exact H
                         clear H
                         have H := H1
                         clear H1
                         have H' := Aside0.mk H
                         clear H
                         have hnb56 := NB204_197.out
                         have hnc56 := NB197_204.out
                         have hcz57_0 : wc.cell? ⟨gb204, 0, none⟩ = some (.int .i64 ((rd_T41 l0_1 x10_3).f0)) := (blk_cell BK204.out 0).trans rfl
                         have hcz57_1 : wc.cell? ⟨gb204, 1, none⟩ = some (.int .i64 ((rd_T41 l0_1 x10_3).f1)) := (blk_cell BK204.out 1).trans rfl
                         have hcz57_2 : wc.cell? ⟨gb204, 2, none⟩ = some (.int .i64 ((rd_T41 l0_1 x10_3).f2)) := (blk_cell BK204.out 2).trans rfl
                         have hfz57_0 := blk_frozen BK204.out 0
                         have hfz57_1 := blk_frozen BK204.out 1
                         have hfz57_2 := blk_frozen BK204.out 2
                         have p49 : 0 ≤ (((rd_T41 l0_1 x10_3).f1) : Int) := of_decide_eq_true (by first | (with_reducible assumption) | assumption)
                         have q49 : (((rd_T41 l0_1 x10_3).f1) : Int) < ((x8_3.length : Int) : Int) := of_decide_eq_true (by first | (with_reducible assumption) | assumption)
                         obtain ⟨hx49_0, hf49_0⟩ := Kd.R_celln false HO_8.out (((rd_T41 l0_1 x10_3).f1) : Int) p49 q49
                         replace p49 := eq_true p49
                         replace q49 := eq_true q49
                         have HP58 := Kd.R_putg HO_8.out (((rd_T41 l0_1 x10_3).f1) : Int) true
                         iterate 8 ((try go_quiet (fail)); try go_wp2_with (first | ((with_reducible refine gate_store (t := 4) (p := 70) rfl ?_); (try (rw [drewN_self wc]; generalize hq_ : World.drewN wc _ = wc; have n0_ := Aside0.mk (Kd.R_at hq_ HO_8.out); have n1_ := Aside0.mk (blk_at hq_ BK197.out); have n2_ := Aside0.mk (blk_at hq_ BK204.out); have n3_ := Aside0.mk (below_at hq_ HB.out); clear hq_ HO_8 BK197 BK204 HB; have HO_8 := n0_; have BK197 := n1_; have BK204 := n2_; have HB := n3_; clear n0_ n1_ n2_ n3_; (try (have HP58 := Kd.R_putg HO_8.out (((rd_T41 l0_1 x10_3).f1) : Int) true)))); refine store_event (t := 4) (p := 70) (v := ?vo_w59) (w1 := (wc.setCell ⟨go17, (((rd_T41 l0_1 x10_3).f1) : Int).toNat, none⟩ (.bool true))) ?hg ?ho ?hn ?hr ?_; (case ho => rfl); (case hg => rfl); (case hn => rfl); (case hr => first | (go_simp; done) | (go_simp; rfl)); intro w59 hw; have hg : wc.grownBy w59 (some go17) := (by rw [hw]; exact HP58.2); have hp_ : Kd.R Kd.bool 4 w59 w.heap.size (fun _ => True) (.slice (some ⟨go17, 0, none⟩) x8_3.length co17) y208 := (by rw [hw, Ny208.out]; exact HP58.1); clear HP58; have n0_ := Aside0.mk (hp_); have n1_ := Aside0.mk (blk_grown (g := gb197) (o := .cells #[.int .i64 a0_0, .slice (some ad203) l0_1.length c0_1] 24 (0, 0)) (by (with_reducible repeat (first | refine blk_drewN ?_ _ | refine blk_drew ?_ | refine blk_alloc ?_ _)); exact BK197.out) hg (Kd.R_ne HO_8.out BK197.out (by decide))); have n2_ := Aside0.mk (blk_grown (g := gb204) (o := .cells #[.int .i64 ((rd_T41 l0_1 x10_3).f0), .int .i64 ((rd_T41 l0_1 x10_3).f1), .int .i64 ((rd_T41 l0_1 x10_3).f2)] 41 (0, 0)) (by (with_reducible repeat (first | refine blk_drewN ?_ _ | refine blk_drew ?_ | refine blk_alloc ?_ _)); exact BK204.out) hg (Kd.R_ne HO_8.out BK204.out (by decide))); have n3_ := Aside0.mk ((by rw [hw]; exact below_set (HB.out) GB17.out : Below w.heap.size w w59)); clear HO_8; clear BK197; clear BK204; clear HB; have HO_8 := n0_; have BK197 := n1_; have BK204 := n2_; have HB := n3_; clear n0_ n1_ n2_ n3_; clear hg hw hp_; have hcz60_0 : w59.cell? ⟨gb204, 0, none⟩ = some (.int .i64 ((rd_T41 l0_1 x10_3).f0)) := (blk_cell BK204.out 0).trans rfl; have hcz60_1 : w59.cell? ⟨gb204, 1, none⟩ = some (.int .i64 ((rd_T41 l0_1 x10_3).f1)) := (blk_cell BK204.out 1).trans rfl; have hcz60_2 : w59.cell? ⟨gb204, 2, none⟩ = some (.int .i64 ((rd_T41 l0_1 x10_3).f2)) := (blk_cell BK204.out 2).trans rfl; have hfz60_0 := blk_frozen BK204.out 0; have hfz60_1 := blk_frozen BK204.out 1; have hfz60_2 := blk_frozen BK204.out 2; have p209 : 0 ≤ (((rd_T41 l0_1 x10_3).f1) : Int) := of_decide_eq_true (by first | (with_reducible assumption) | assumption); have q209 : ((rd_T41 l0_1 x10_3).f1) < (y208.length : Int) := (by have h_ : (((rd_T41 l0_1 x10_3).f1) : Int) < ((x8_3.length : Int) : Int) := of_decide_eq_true (by first | (with_reducible assumption) | assumption); first | (have e_ := (Kd.R_reads' HO_8.out).1; omega) | simpa only [Ny208.out, List.length_set] using h_); have ql209 : ((((rd_T41 l0_1 x10_3).f1) : Int) < ((x8_3.length : Int) : Int)) = True := eq_true (of_decide_eq_true (by first | (with_reducible assumption) | assumption)); obtain ⟨ad209, e209, hx209_0⟩ := Kd.at_bool (Kd.R_reads' HO_8.out).2.2 ((rd_T41 l0_1 x10_3).f1) p209 q209; (try rw [← Nbq50.out] at hx209_0); (try rw [← Nbq54.out] at hx209_0); obtain rfl : (⟨go17, 0, none⟩ : Addr) = ad209 := (by injection e209); (first | simp only [add_plain] at hx209_0 | simp only [add_at] at hx209_0 | simp only [Addr.add, Nat.zero_add] at hx209_0 | skip); replace p209 := eq_true p209; replace q209 := eq_true q209; have p210 : 0 ≤ (((rd_T41 l0_1 x10_3).f0) : Int) := of_decide_eq_true (by first | (with_reducible assumption) | assumption); have q210 : ((rd_T41 l0_1 x10_3).f0) < (y208.length : Int) := (by have h_ : (((rd_T41 l0_1 x10_3).f0) : Int) < ((x8_3.length : Int) : Int) := of_decide_eq_true (by first | (with_reducible assumption) | assumption); first | (have e_ := (Kd.R_reads' HO_8.out).1; omega) | simpa only [Ny208.out, List.length_set] using h_); have ql210 : ((((rd_T41 l0_1 x10_3).f0) : Int) < ((x8_3.length : Int) : Int)) = True := eq_true (of_decide_eq_true (by first | (with_reducible assumption) | assumption)); obtain ⟨ad210, e210, hx210_0⟩ := Kd.at_bool (Kd.R_reads' HO_8.out).2.2 ((rd_T41 l0_1 x10_3).f0) p210 q210; (try rw [← Nbq50.out] at hx210_0); (try rw [← Nbq54.out] at hx210_0); obtain rfl : (⟨go17, 0, none⟩ : Addr) = ad210 := (by injection e210); (first | simp only [add_plain] at hx210_0 | simp only [add_at] at hx210_0 | simp only [Addr.add, Nat.zero_add] at hx210_0 | skip); replace p210 := eq_true p210; replace q210 := eq_true q210)))
                         (try simp only [← hl8_3])
                         go_roundg kj26
                         case measure => have := HJ4.out; have := HK2.out; have := HK3.out; have := HJ26.out; omega
                         case rel => exact ⟨(y208), (true), (wrap64 (x10_3 + 1)), (by first | rfl | (simp; done) | (simp [*]; done)), (by first | rfl | (simp; done) | (simp [*]; done)), H', ⟨by have := HJ4.out; have := HK2.out; have := HK3.out; have := HJ26.out; omega⟩, ⟨by (try simp only [hl8_2]); (try simp only [hl8_3]); (with_reducible repeat (first | apply Kd.R_alloc | apply Kd.R_drewN | apply Kd.R_drew)); exact HO_8.out⟩, ⟨by (try simp only [hl8_2]); (try simp only [hl8_3]); (with_reducible repeat (first | refine blk_drewN ?_ _ | refine blk_drew ?_ | refine blk_alloc ?_ _)); exact BK197.out⟩, ⟨by repeat (first | (with_reducible first | exact HB.out | apply below_alloc | apply pw_below_drewN | apply below_drew1 | refine below_set ?_ GE197.out | refine below_set ?_ GE204.out) | exact HB.out)⟩⟩
                        ·replace c55 := Bool.eq_false_iff.mpr c55
                         subst c55
                         have H1 : (if 0 ≤ x10_3 then (if x10_3 < (l1.length : Int) then (if (rd l1 x10_3) > 0 then (billetref05_Reach.l1 kj26 l1 (y208.set (((rd_T41 l0_1 x10_3).f0) : Int).toNat true) true (wrap64 (x10_3 + 1)) a0_0 l0_1) else (billetref05_Reach.l1 kj26 l1 y208 true (wrap64 (x10_3 + 1)) a0_0 l0_1)) else (none)) else (none)) = some r := by rw [if_neg (show ¬ (false = true) by decide)] at H; exact H
                         clear H
                         have H := H1
                         clear H1
                         by_cases c61 : 0 ≤ x10_3
                         ·rw [if_pos c61] at H
                          have c61b0 : decide (0 ≤ x10_3) = true := decide_eq_true c61
                          clear c61
                          by_cases c62 : x10_3 < (l1.length : Int)
                          ·rw [if_pos c62] at H
                           have c62b0 : decide (x10_3 < (l1.length : Int)) = true := decide_eq_true c62
                           clear c62
                           by_cases c63 : (rd l1 x10_3) > 0
                           ·rw [if_pos c63] at H
                            have c63b0 : decide (0 < (rd l1 x10_3)) = true := decide_eq_true c63
                            clear c63
                            obtain ⟨y212, hy212⟩ : ∃ y_ : List Bool, y_ = (y208.set (((rd_T41 l0_1 x10_3).f0) : Int).toNat true) := ⟨_, rfl⟩
                            replace H : (billetref05_Reach.l1 kj26 l1 y212 true (wrap64 (x10_3 + 1)) a0_0 l0_1) = some r := by first | (rw [hy212]; with_reducible exact H) | (have H2_ := (Option.bind_some _ _).symm.trans H; rw [hy212]; with_reducible exact H2_) | (have H2_ := (Option.bind_some _ _).symm.trans H; with_reducible exact H2_) | with_reducible exact H | (rw [hy212]; exact H) | exact H
                            have Ny212 := Aside0.mk hy212
                            clear hy212
                            have H' := Aside0.mk H
                            clear H
                            have hnb65 := NB204_197.out
                            have hnc65 := NB197_204.out
                            have hcz66_0 : wc.cell? ⟨gb204, 0, none⟩ = some (.int .i64 ((rd_T41 l0_1 x10_3).f0)) := (blk_cell BK204.out 0).trans rfl
                            have hcz66_1 : wc.cell? ⟨gb204, 1, none⟩ = some (.int .i64 ((rd_T41 l0_1 x10_3).f1)) := (blk_cell BK204.out 1).trans rfl
                            have hcz66_2 : wc.cell? ⟨gb204, 2, none⟩ = some (.int .i64 ((rd_T41 l0_1 x10_3).f2)) := (blk_cell BK204.out 2).trans rfl
                            have hfz66_0 := blk_frozen BK204.out 0
                            have hfz66_1 := blk_frozen BK204.out 1
                            have hfz66_2 := blk_frozen BK204.out 2
                            have p49 : 0 ≤ (((rd_T41 l0_1 x10_3).f1) : Int) := of_decide_eq_true (by first | (with_reducible assumption) | assumption)
                            have q49 : (((rd_T41 l0_1 x10_3).f1) : Int) < ((x8_3.length : Int) : Int) := of_decide_eq_true (by first | (with_reducible assumption) | assumption)
                            obtain ⟨hx49_0, hf49_0⟩ := Kd.R_celln false HO_8.out (((rd_T41 l0_1 x10_3).f1) : Int) p49 q49
                            replace p49 := eq_true p49
                            replace q49 := eq_true q49
                            have HP67 := Kd.R_putg HO_8.out (((rd_T41 l0_1 x10_3).f1) : Int) true
                            iterate 8 ((try go_quiet (fail)); try go_wp2_with (first | ((with_reducible refine gate_store (t := 4) (p := 70) rfl ?_); (try (rw [drewN_self wc]; generalize hq_ : World.drewN wc _ = wc; have n0_ := Aside0.mk (Kd.R_at hq_ HO_8.out); have n1_ := Aside0.mk (blk_at hq_ BK197.out); have n2_ := Aside0.mk (blk_at hq_ BK204.out); have n3_ := Aside0.mk (below_at hq_ HB.out); clear hq_ HO_8 BK197 BK204 HB; have HO_8 := n0_; have BK197 := n1_; have BK204 := n2_; have HB := n3_; clear n0_ n1_ n2_ n3_; (try (have HP67 := Kd.R_putg HO_8.out (((rd_T41 l0_1 x10_3).f1) : Int) true)))); refine store_event (t := 4) (p := 70) (v := ?vo_w68) (w1 := (wc.setCell ⟨go17, (((rd_T41 l0_1 x10_3).f1) : Int).toNat, none⟩ (.bool true))) ?hg ?ho ?hn ?hr ?_; (case ho => rfl); (case hg => rfl); (case hn => rfl); (case hr => first | (go_simp; done) | (go_simp; rfl)); intro w68 hw; have hg : wc.grownBy w68 (some go17) := (by rw [hw]; exact HP67.2); have hp_ : Kd.R Kd.bool 4 w68 w.heap.size (fun _ => True) (.slice (some ⟨go17, 0, none⟩) x8_3.length co17) y208 := (by rw [hw, Ny208.out]; exact HP67.1); clear HP67; have n0_ := Aside0.mk (hp_); have n1_ := Aside0.mk (blk_grown (g := gb197) (o := .cells #[.int .i64 a0_0, .slice (some ad203) l0_1.length c0_1] 24 (0, 0)) (by (with_reducible repeat (first | refine blk_drewN ?_ _ | refine blk_drew ?_ | refine blk_alloc ?_ _)); exact BK197.out) hg (Kd.R_ne HO_8.out BK197.out (by decide))); have n2_ := Aside0.mk (blk_grown (g := gb204) (o := .cells #[.int .i64 ((rd_T41 l0_1 x10_3).f0), .int .i64 ((rd_T41 l0_1 x10_3).f1), .int .i64 ((rd_T41 l0_1 x10_3).f2)] 41 (0, 0)) (by (with_reducible repeat (first | refine blk_drewN ?_ _ | refine blk_drew ?_ | refine blk_alloc ?_ _)); exact BK204.out) hg (Kd.R_ne HO_8.out BK204.out (by decide))); have n3_ := Aside0.mk ((by rw [hw]; exact below_set (HB.out) GB17.out : Below w.heap.size w w68)); clear HO_8; clear BK197; clear BK204; clear HB; have HO_8 := n0_; have BK197 := n1_; have BK204 := n2_; have HB := n3_; clear n0_ n1_ n2_ n3_; clear hg hw hp_; have hcz69_0 : w68.cell? ⟨gb204, 0, none⟩ = some (.int .i64 ((rd_T41 l0_1 x10_3).f0)) := (blk_cell BK204.out 0).trans rfl; have hcz69_1 : w68.cell? ⟨gb204, 1, none⟩ = some (.int .i64 ((rd_T41 l0_1 x10_3).f1)) := (blk_cell BK204.out 1).trans rfl; have hcz69_2 : w68.cell? ⟨gb204, 2, none⟩ = some (.int .i64 ((rd_T41 l0_1 x10_3).f2)) := (blk_cell BK204.out 2).trans rfl; have hfz69_0 := blk_frozen BK204.out 0; have hfz69_1 := blk_frozen BK204.out 1; have hfz69_2 := blk_frozen BK204.out 2; have p209 : 0 ≤ (((rd_T41 l0_1 x10_3).f1) : Int) := of_decide_eq_true (by first | (with_reducible assumption) | assumption); have q209 : ((rd_T41 l0_1 x10_3).f1) < (y208.length : Int) := (by have h_ : (((rd_T41 l0_1 x10_3).f1) : Int) < ((x8_3.length : Int) : Int) := of_decide_eq_true (by first | (with_reducible assumption) | assumption); first | (have e_ := (Kd.R_reads' HO_8.out).1; omega) | simpa only [Ny208.out, List.length_set] using h_); have ql209 : ((((rd_T41 l0_1 x10_3).f1) : Int) < ((x8_3.length : Int) : Int)) = True := eq_true (of_decide_eq_true (by first | (with_reducible assumption) | assumption)); obtain ⟨ad209, e209, hx209_0⟩ := Kd.at_bool (Kd.R_reads' HO_8.out).2.2 ((rd_T41 l0_1 x10_3).f1) p209 q209; (try rw [← Nbq50.out] at hx209_0); (try rw [← Nbq54.out] at hx209_0); obtain rfl : (⟨go17, 0, none⟩ : Addr) = ad209 := (by injection e209); (first | simp only [add_plain] at hx209_0 | simp only [add_at] at hx209_0 | simp only [Addr.add, Nat.zero_add] at hx209_0 | skip); replace p209 := eq_true p209; replace q209 := eq_true q209; have p210 : 0 ≤ (((rd_T41 l0_1 x10_3).f0) : Int) := of_decide_eq_true (by first | (with_reducible assumption) | assumption); have q210 : ((rd_T41 l0_1 x10_3).f0) < (y208.length : Int) := (by have h_ : (((rd_T41 l0_1 x10_3).f0) : Int) < ((x8_3.length : Int) : Int) := of_decide_eq_true (by first | (with_reducible assumption) | assumption); first | (have e_ := (Kd.R_reads' HO_8.out).1; omega) | simpa only [Ny208.out, List.length_set] using h_); have ql210 : ((((rd_T41 l0_1 x10_3).f0) : Int) < ((x8_3.length : Int) : Int)) = True := eq_true (of_decide_eq_true (by first | (with_reducible assumption) | assumption)); obtain ⟨ad210, e210, hx210_0⟩ := Kd.at_bool (Kd.R_reads' HO_8.out).2.2 ((rd_T41 l0_1 x10_3).f0) p210 q210; (try rw [← Nbq50.out] at hx210_0); (try rw [← Nbq54.out] at hx210_0); obtain rfl : (⟨go17, 0, none⟩ : Addr) = ad210 := (by injection e210); (first | simp only [add_plain] at hx210_0 | simp only [add_at] at hx210_0 | simp only [Addr.add, Nat.zero_add] at hx210_0 | skip); replace p210 := eq_true p210; replace q210 := eq_true q210; have p211 : 0 ≤ (x10_3 : Int) := of_decide_eq_true (by first | (with_reducible assumption) | assumption); have q211 : x10_3 < (l1.length : Int) := of_decide_eq_true (by first | (with_reducible assumption) | assumption); obtain ⟨ad211, e211, hx211_0⟩ := Kd.at_int HR1.out x10_3 p211 q211; cases e211; replace hx211_0 := (HB.out.cell (World.block_lt_of_cell? w _ hx211_0)).trans hx211_0; replace p211 := eq_true p211; replace q211 := eq_true q211; have p64 : 0 ≤ (((rd_T41 l0_1 x10_3).f0) : Int) := of_decide_eq_true (by first | (with_reducible assumption) | assumption); have q64 : (((rd_T41 l0_1 x10_3).f0) : Int) < ((x8_3.length : Int) : Int) := of_decide_eq_true (by first | (with_reducible assumption) | assumption); obtain ⟨hx64_0, hf64_0⟩ := Kd.R_celln false HO_8.out (((rd_T41 l0_1 x10_3).f0) : Int) p64 q64; replace p64 := eq_true p64; replace q64 := eq_true q64; obtain ⟨hy70_, hz70_⟩ := Kd.R_celln false HO_8.out (((rd_T41 l0_1 x10_3).f0) : Int) (of_decide_eq_true (by first | (with_reducible assumption) | assumption)) (of_decide_eq_true (by first | (with_reducible assumption) | assumption)); have HP70 := Kd.R_putg HO_8.out (((rd_T41 l0_1 x10_3).f0) : Int) true) | ((with_reducible refine gate_store (t := 4) (p := 94) rfl ?_); (try (rw [drewN_self w68]; generalize hq_ : World.drewN w68 _ = w68; have n0_ := Aside0.mk (Kd.R_at hq_ HO_8.out); have n1_ := Aside0.mk (blk_at hq_ BK197.out); have n2_ := Aside0.mk (blk_at hq_ BK204.out); have n3_ := Aside0.mk (below_at hq_ HB.out); clear hq_ HO_8 BK197 BK204 HB; have HO_8 := n0_; have BK197 := n1_; have BK204 := n2_; have HB := n3_; clear n0_ n1_ n2_ n3_; (try (obtain ⟨hy70_, hz70_⟩ := Kd.R_celln false HO_8.out (((rd_T41 l0_1 x10_3).f0) : Int) (of_decide_eq_true (by first | (with_reducible assumption) | assumption)) (of_decide_eq_true (by first | (with_reducible assumption) | assumption)))); (try (have HP70 := Kd.R_putg HO_8.out (((rd_T41 l0_1 x10_3).f0) : Int) true)))); refine store_event (t := 4) (p := 94) (v := ?vo_w71) (w1 := (w68.setCell ⟨go17, (((rd_T41 l0_1 x10_3).f0) : Int).toNat, none⟩ (.bool true))) ?hg ?ho ?hn ?hr ?_; (case ho => rfl); (case hg => rfl); (case hn => rfl); (case hr => first | (go_simp; done) | (go_simp; rfl)); intro w71 hw; have hg : w68.grownBy w71 (some go17) := (by rw [hw]; exact HP70.2); have hp_ : Kd.R Kd.bool 4 w71 w.heap.size (fun _ => True) (.slice (some ⟨go17, 0, none⟩) x8_3.length co17) y212 := (by rw [hw, Ny212.out]; exact HP70.1); clear HP70; have n0_ := Aside0.mk (hp_); have n1_ := Aside0.mk (blk_grown (g := gb197) (o := .cells #[.int .i64 a0_0, .slice (some ad203) l0_1.length c0_1] 24 (0, 0)) (by (with_reducible repeat (first | refine blk_drewN ?_ _ | refine blk_drew ?_ | refine blk_alloc ?_ _)); exact BK197.out) hg (Kd.R_ne HO_8.out BK197.out (by decide))); have n2_ := Aside0.mk (blk_grown (g := gb204) (o := .cells #[.int .i64 ((rd_T41 l0_1 x10_3).f0), .int .i64 ((rd_T41 l0_1 x10_3).f1), .int .i64 ((rd_T41 l0_1 x10_3).f2)] 41 (0, 0)) (by (with_reducible repeat (first | refine blk_drewN ?_ _ | refine blk_drew ?_ | refine blk_alloc ?_ _)); exact BK204.out) hg (Kd.R_ne HO_8.out BK204.out (by decide))); have n3_ := Aside0.mk ((by rw [hw]; exact below_set (HB.out) GB17.out : Below w.heap.size w w71)); clear HO_8; clear BK197; clear BK204; clear HB; have HO_8 := n0_; have BK197 := n1_; have BK204 := n2_; have HB := n3_; clear n0_ n1_ n2_ n3_; clear hg hw hp_)))
                            (try simp only [← hl8_3])
                            go_roundg kj26
                            case measure => have := HJ4.out; have := HK2.out; have := HK3.out; have := HJ26.out; omega
                            case rel => exact ⟨(y212), (true), (wrap64 (x10_3 + 1)), (by first | rfl | (simp; done) | (simp [*]; done)), (by first | rfl | (simp; done) | (simp [*]; done)), H', ⟨by have := HJ4.out; have := HK2.out; have := HK3.out; have := HJ26.out; omega⟩, ⟨by (try simp only [hl8_2]); (try simp only [hl8_3]); (with_reducible repeat (first | apply Kd.R_alloc | apply Kd.R_drewN | apply Kd.R_drew)); exact HO_8.out⟩, ⟨by (try simp only [hl8_2]); (try simp only [hl8_3]); (with_reducible repeat (first | refine blk_drewN ?_ _ | refine blk_drew ?_ | refine blk_alloc ?_ _)); exact BK197.out⟩, ⟨by repeat (first | (with_reducible first | exact HB.out | apply below_alloc | apply pw_below_drewN | apply below_drew1 | refine below_set ?_ GE197.out | refine below_set ?_ GE204.out) | exact HB.out)⟩⟩
                           ·rw [if_neg c63] at H
                            have c63b0 : decide (0 < (rd l1 x10_3)) = false := decide_eq_false c63
                            clear c63
                            have H' := Aside0.mk H
                            clear H
                            have hnb72 := NB204_197.out
                            have hnc72 := NB197_204.out
                            have hcz73_0 : wc.cell? ⟨gb204, 0, none⟩ = some (.int .i64 ((rd_T41 l0_1 x10_3).f0)) := (blk_cell BK204.out 0).trans rfl
                            have hcz73_1 : wc.cell? ⟨gb204, 1, none⟩ = some (.int .i64 ((rd_T41 l0_1 x10_3).f1)) := (blk_cell BK204.out 1).trans rfl
                            have hcz73_2 : wc.cell? ⟨gb204, 2, none⟩ = some (.int .i64 ((rd_T41 l0_1 x10_3).f2)) := (blk_cell BK204.out 2).trans rfl
                            have hfz73_0 := blk_frozen BK204.out 0
                            have hfz73_1 := blk_frozen BK204.out 1
                            have hfz73_2 := blk_frozen BK204.out 2
                            have p49 : 0 ≤ (((rd_T41 l0_1 x10_3).f1) : Int) := of_decide_eq_true (by first | (with_reducible assumption) | assumption)
                            have q49 : (((rd_T41 l0_1 x10_3).f1) : Int) < ((x8_3.length : Int) : Int) := of_decide_eq_true (by first | (with_reducible assumption) | assumption)
                            obtain ⟨hx49_0, hf49_0⟩ := Kd.R_celln false HO_8.out (((rd_T41 l0_1 x10_3).f1) : Int) p49 q49
                            replace p49 := eq_true p49
                            replace q49 := eq_true q49
                            have HP74 := Kd.R_putg HO_8.out (((rd_T41 l0_1 x10_3).f1) : Int) true
                            iterate 8 ((try go_quiet (fail)); try go_wp2_with (first | ((with_reducible refine gate_store (t := 4) (p := 70) rfl ?_); (try (rw [drewN_self wc]; generalize hq_ : World.drewN wc _ = wc; have n0_ := Aside0.mk (Kd.R_at hq_ HO_8.out); have n1_ := Aside0.mk (blk_at hq_ BK197.out); have n2_ := Aside0.mk (blk_at hq_ BK204.out); have n3_ := Aside0.mk (below_at hq_ HB.out); clear hq_ HO_8 BK197 BK204 HB; have HO_8 := n0_; have BK197 := n1_; have BK204 := n2_; have HB := n3_; clear n0_ n1_ n2_ n3_; (try (have HP74 := Kd.R_putg HO_8.out (((rd_T41 l0_1 x10_3).f1) : Int) true)))); refine store_event (t := 4) (p := 70) (v := ?vo_w75) (w1 := (wc.setCell ⟨go17, (((rd_T41 l0_1 x10_3).f1) : Int).toNat, none⟩ (.bool true))) ?hg ?ho ?hn ?hr ?_; (case ho => rfl); (case hg => rfl); (case hn => rfl); (case hr => first | (go_simp; done) | (go_simp; rfl)); intro w75 hw; have hg : wc.grownBy w75 (some go17) := (by rw [hw]; exact HP74.2); have hp_ : Kd.R Kd.bool 4 w75 w.heap.size (fun _ => True) (.slice (some ⟨go17, 0, none⟩) x8_3.length co17) y208 := (by rw [hw, Ny208.out]; exact HP74.1); clear HP74; have n0_ := Aside0.mk (hp_); have n1_ := Aside0.mk (blk_grown (g := gb197) (o := .cells #[.int .i64 a0_0, .slice (some ad203) l0_1.length c0_1] 24 (0, 0)) (by (with_reducible repeat (first | refine blk_drewN ?_ _ | refine blk_drew ?_ | refine blk_alloc ?_ _)); exact BK197.out) hg (Kd.R_ne HO_8.out BK197.out (by decide))); have n2_ := Aside0.mk (blk_grown (g := gb204) (o := .cells #[.int .i64 ((rd_T41 l0_1 x10_3).f0), .int .i64 ((rd_T41 l0_1 x10_3).f1), .int .i64 ((rd_T41 l0_1 x10_3).f2)] 41 (0, 0)) (by (with_reducible repeat (first | refine blk_drewN ?_ _ | refine blk_drew ?_ | refine blk_alloc ?_ _)); exact BK204.out) hg (Kd.R_ne HO_8.out BK204.out (by decide))); have n3_ := Aside0.mk ((by rw [hw]; exact below_set (HB.out) GB17.out : Below w.heap.size w w75)); clear HO_8; clear BK197; clear BK204; clear HB; have HO_8 := n0_; have BK197 := n1_; have BK204 := n2_; have HB := n3_; clear n0_ n1_ n2_ n3_; clear hg hw hp_; have hcz76_0 : w75.cell? ⟨gb204, 0, none⟩ = some (.int .i64 ((rd_T41 l0_1 x10_3).f0)) := (blk_cell BK204.out 0).trans rfl; have hcz76_1 : w75.cell? ⟨gb204, 1, none⟩ = some (.int .i64 ((rd_T41 l0_1 x10_3).f1)) := (blk_cell BK204.out 1).trans rfl; have hcz76_2 : w75.cell? ⟨gb204, 2, none⟩ = some (.int .i64 ((rd_T41 l0_1 x10_3).f2)) := (blk_cell BK204.out 2).trans rfl; have hfz76_0 := blk_frozen BK204.out 0; have hfz76_1 := blk_frozen BK204.out 1; have hfz76_2 := blk_frozen BK204.out 2; have p209 : 0 ≤ (((rd_T41 l0_1 x10_3).f1) : Int) := of_decide_eq_true (by first | (with_reducible assumption) | assumption); have q209 : ((rd_T41 l0_1 x10_3).f1) < (y208.length : Int) := (by have h_ : (((rd_T41 l0_1 x10_3).f1) : Int) < ((x8_3.length : Int) : Int) := of_decide_eq_true (by first | (with_reducible assumption) | assumption); first | (have e_ := (Kd.R_reads' HO_8.out).1; omega) | simpa only [Ny208.out, List.length_set] using h_); have ql209 : ((((rd_T41 l0_1 x10_3).f1) : Int) < ((x8_3.length : Int) : Int)) = True := eq_true (of_decide_eq_true (by first | (with_reducible assumption) | assumption)); obtain ⟨ad209, e209, hx209_0⟩ := Kd.at_bool (Kd.R_reads' HO_8.out).2.2 ((rd_T41 l0_1 x10_3).f1) p209 q209; (try rw [← Nbq50.out] at hx209_0); (try rw [← Nbq54.out] at hx209_0); obtain rfl : (⟨go17, 0, none⟩ : Addr) = ad209 := (by injection e209); (first | simp only [add_plain] at hx209_0 | simp only [add_at] at hx209_0 | simp only [Addr.add, Nat.zero_add] at hx209_0 | skip); replace p209 := eq_true p209; replace q209 := eq_true q209; have p210 : 0 ≤ (((rd_T41 l0_1 x10_3).f0) : Int) := of_decide_eq_true (by first | (with_reducible assumption) | assumption); have q210 : ((rd_T41 l0_1 x10_3).f0) < (y208.length : Int) := (by have h_ : (((rd_T41 l0_1 x10_3).f0) : Int) < ((x8_3.length : Int) : Int) := of_decide_eq_true (by first | (with_reducible assumption) | assumption); first | (have e_ := (Kd.R_reads' HO_8.out).1; omega) | simpa only [Ny208.out, List.length_set] using h_); have ql210 : ((((rd_T41 l0_1 x10_3).f0) : Int) < ((x8_3.length : Int) : Int)) = True := eq_true (of_decide_eq_true (by first | (with_reducible assumption) | assumption)); obtain ⟨ad210, e210, hx210_0⟩ := Kd.at_bool (Kd.R_reads' HO_8.out).2.2 ((rd_T41 l0_1 x10_3).f0) p210 q210; (try rw [← Nbq50.out] at hx210_0); (try rw [← Nbq54.out] at hx210_0); obtain rfl : (⟨go17, 0, none⟩ : Addr) = ad210 := (by injection e210); (first | simp only [add_plain] at hx210_0 | simp only [add_at] at hx210_0 | simp only [Addr.add, Nat.zero_add] at hx210_0 | skip); replace p210 := eq_true p210; replace q210 := eq_true q210; have p211 : 0 ≤ (x10_3 : Int) := of_decide_eq_true (by first | (with_reducible assumption) | assumption); have q211 : x10_3 < (l1.length : Int) := of_decide_eq_true (by first | (with_reducible assumption) | assumption); obtain ⟨ad211, e211, hx211_0⟩ := Kd.at_int HR1.out x10_3 p211 q211; cases e211; replace hx211_0 := (HB.out.cell (World.block_lt_of_cell? w _ hx211_0)).trans hx211_0; replace p211 := eq_true p211; replace q211 := eq_true q211)))
                            (try simp only [← hl8_3])
                            go_roundg kj26
                            case measure => have := HJ4.out; have := HK2.out; have := HK3.out; have := HJ26.out; omega
                            case rel => exact ⟨(y208), (true), (wrap64 (x10_3 + 1)), (by first | rfl | (simp; done) | (simp [*]; done)), (by first | rfl | (simp; done) | (simp [*]; done)), H', ⟨by have := HJ4.out; have := HK2.out; have := HK3.out; have := HJ26.out; omega⟩, ⟨by (try simp only [hl8_2]); (try simp only [hl8_3]); (with_reducible repeat (first | apply Kd.R_alloc | apply Kd.R_drewN | apply Kd.R_drew)); exact HO_8.out⟩, ⟨by (try simp only [hl8_2]); (try simp only [hl8_3]); (with_reducible repeat (first | refine blk_drewN ?_ _ | refine blk_drew ?_ | refine blk_alloc ?_ _)); exact BK197.out⟩, ⟨by repeat (first | (with_reducible first | exact HB.out | apply below_alloc | apply pw_below_drewN | apply below_drew1 | refine below_set ?_ GE197.out | refine below_set ?_ GE204.out) | exact HB.out)⟩⟩
                          ·rw [if_neg c62] at H
                           exact absurd H (by simp)
                         ·rw [if_neg c61] at H
                          exact absurd H (by simp)
                       ·rw [if_neg c53] at H
                        exact absurd H (by simp)
                      ·rw [if_neg c52] at H
                       exact absurd H (by simp)
                     ·replace c51 := Bool.eq_false_iff.mpr c51
                      subst c51
                      have H1 : (billetref05_Reach.l1 kj26 l1 y208 true (wrap64 (x10_3 + 1)) a0_0 l0_1) = some r := by rw [if_neg (show ¬ (false = true) by decide)] at H; exact H
                      clear H
                      have H := H1
                      clear H1
                      have H' := Aside0.mk H
                      clear H
                      have hnb77 := NB204_197.out
                      have hnc77 := NB197_204.out
                      have hcz78_0 : wc.cell? ⟨gb204, 0, none⟩ = some (.int .i64 ((rd_T41 l0_1 x10_3).f0)) := (blk_cell BK204.out 0).trans rfl
                      have hcz78_1 : wc.cell? ⟨gb204, 1, none⟩ = some (.int .i64 ((rd_T41 l0_1 x10_3).f1)) := (blk_cell BK204.out 1).trans rfl
                      have hcz78_2 : wc.cell? ⟨gb204, 2, none⟩ = some (.int .i64 ((rd_T41 l0_1 x10_3).f2)) := (blk_cell BK204.out 2).trans rfl
                      have hfz78_0 := blk_frozen BK204.out 0
                      have hfz78_1 := blk_frozen BK204.out 1
                      have hfz78_2 := blk_frozen BK204.out 2
                      have p49 : 0 ≤ (((rd_T41 l0_1 x10_3).f1) : Int) := of_decide_eq_true (by first | (with_reducible assumption) | assumption)
                      have q49 : (((rd_T41 l0_1 x10_3).f1) : Int) < ((x8_3.length : Int) : Int) := of_decide_eq_true (by first | (with_reducible assumption) | assumption)
                      obtain ⟨hx49_0, hf49_0⟩ := Kd.R_celln false HO_8.out (((rd_T41 l0_1 x10_3).f1) : Int) p49 q49
                      replace p49 := eq_true p49
                      replace q49 := eq_true q49
                      have HP79 := Kd.R_putg HO_8.out (((rd_T41 l0_1 x10_3).f1) : Int) true
                      iterate 8 ((try go_quiet (fail)); try go_wp2_with (first | ((with_reducible refine gate_store (t := 4) (p := 70) rfl ?_); (try (rw [drewN_self wc]; generalize hq_ : World.drewN wc _ = wc; have n0_ := Aside0.mk (Kd.R_at hq_ HO_8.out); have n1_ := Aside0.mk (blk_at hq_ BK197.out); have n2_ := Aside0.mk (blk_at hq_ BK204.out); have n3_ := Aside0.mk (below_at hq_ HB.out); clear hq_ HO_8 BK197 BK204 HB; have HO_8 := n0_; have BK197 := n1_; have BK204 := n2_; have HB := n3_; clear n0_ n1_ n2_ n3_; (try (have HP79 := Kd.R_putg HO_8.out (((rd_T41 l0_1 x10_3).f1) : Int) true)))); refine store_event (t := 4) (p := 70) (v := ?vo_w80) (w1 := (wc.setCell ⟨go17, (((rd_T41 l0_1 x10_3).f1) : Int).toNat, none⟩ (.bool true))) ?hg ?ho ?hn ?hr ?_; (case ho => rfl); (case hg => rfl); (case hn => rfl); (case hr => first | (go_simp; done) | (go_simp; rfl)); intro w80 hw; have hg : wc.grownBy w80 (some go17) := (by rw [hw]; exact HP79.2); have hp_ : Kd.R Kd.bool 4 w80 w.heap.size (fun _ => True) (.slice (some ⟨go17, 0, none⟩) x8_3.length co17) y208 := (by rw [hw, Ny208.out]; exact HP79.1); clear HP79; have n0_ := Aside0.mk (hp_); have n1_ := Aside0.mk (blk_grown (g := gb197) (o := .cells #[.int .i64 a0_0, .slice (some ad203) l0_1.length c0_1] 24 (0, 0)) (by (with_reducible repeat (first | refine blk_drewN ?_ _ | refine blk_drew ?_ | refine blk_alloc ?_ _)); exact BK197.out) hg (Kd.R_ne HO_8.out BK197.out (by decide))); have n2_ := Aside0.mk (blk_grown (g := gb204) (o := .cells #[.int .i64 ((rd_T41 l0_1 x10_3).f0), .int .i64 ((rd_T41 l0_1 x10_3).f1), .int .i64 ((rd_T41 l0_1 x10_3).f2)] 41 (0, 0)) (by (with_reducible repeat (first | refine blk_drewN ?_ _ | refine blk_drew ?_ | refine blk_alloc ?_ _)); exact BK204.out) hg (Kd.R_ne HO_8.out BK204.out (by decide))); have n3_ := Aside0.mk ((by rw [hw]; exact below_set (HB.out) GB17.out : Below w.heap.size w w80)); clear HO_8; clear BK197; clear BK204; clear HB; have HO_8 := n0_; have BK197 := n1_; have BK204 := n2_; have HB := n3_; clear n0_ n1_ n2_ n3_; clear hg hw hp_; have hcz81_0 : w80.cell? ⟨gb204, 0, none⟩ = some (.int .i64 ((rd_T41 l0_1 x10_3).f0)) := (blk_cell BK204.out 0).trans rfl; have hcz81_1 : w80.cell? ⟨gb204, 1, none⟩ = some (.int .i64 ((rd_T41 l0_1 x10_3).f1)) := (blk_cell BK204.out 1).trans rfl; have hcz81_2 : w80.cell? ⟨gb204, 2, none⟩ = some (.int .i64 ((rd_T41 l0_1 x10_3).f2)) := (blk_cell BK204.out 2).trans rfl; have hfz81_0 := blk_frozen BK204.out 0; have hfz81_1 := blk_frozen BK204.out 1; have hfz81_2 := blk_frozen BK204.out 2; have p209 : 0 ≤ (((rd_T41 l0_1 x10_3).f1) : Int) := of_decide_eq_true (by first | (with_reducible assumption) | assumption); have q209 : ((rd_T41 l0_1 x10_3).f1) < (y208.length : Int) := (by have h_ : (((rd_T41 l0_1 x10_3).f1) : Int) < ((x8_3.length : Int) : Int) := of_decide_eq_true (by first | (with_reducible assumption) | assumption); first | (have e_ := (Kd.R_reads' HO_8.out).1; omega) | simpa only [Ny208.out, List.length_set] using h_); have ql209 : ((((rd_T41 l0_1 x10_3).f1) : Int) < ((x8_3.length : Int) : Int)) = True := eq_true (of_decide_eq_true (by first | (with_reducible assumption) | assumption)); obtain ⟨ad209, e209, hx209_0⟩ := Kd.at_bool (Kd.R_reads' HO_8.out).2.2 ((rd_T41 l0_1 x10_3).f1) p209 q209; (try rw [← Nbq50.out] at hx209_0); obtain rfl : (⟨go17, 0, none⟩ : Addr) = ad209 := (by injection e209); (first | simp only [add_plain] at hx209_0 | simp only [add_at] at hx209_0 | simp only [Addr.add, Nat.zero_add] at hx209_0 | skip); replace p209 := eq_true p209; replace q209 := eq_true q209)))
                      (try simp only [← hl8_3])
                      go_roundg kj26
                      case measure => have := HJ4.out; have := HK2.out; have := HK3.out; have := HJ26.out; omega
                      case rel => exact ⟨(y208), (true), (wrap64 (x10_3 + 1)), (by first | rfl | (simp; done) | (simp [*]; done)), (by first | rfl | (simp; done) | (simp [*]; done)), H', ⟨by have := HJ4.out; have := HK2.out; have := HK3.out; have := HJ26.out; omega⟩, ⟨by (try simp only [hl8_2]); (try simp only [hl8_3]); (with_reducible repeat (first | apply Kd.R_alloc | apply Kd.R_drewN | apply Kd.R_drew)); exact HO_8.out⟩, ⟨by (try simp only [hl8_2]); (try simp only [hl8_3]); (with_reducible repeat (first | refine blk_drewN ?_ _ | refine blk_drew ?_ | refine blk_alloc ?_ _)); exact BK197.out⟩, ⟨by repeat (first | (with_reducible first | exact HB.out | apply below_alloc | apply pw_below_drewN | apply below_drew1 | refine below_set ?_ GE197.out | refine below_set ?_ GE204.out) | exact HB.out)⟩⟩
                    ·rw [if_neg c48] at H
                     exact absurd H (by simp)
                   ·rw [if_neg c47] at H
                    exact absurd H (by simp)
                  ·replace c46 := Bool.eq_false_iff.mpr c46
                   subst c46
                   have H1 : (if 0 ≤ ((rd_T41 l0_1 x10_3).f1) then (if ((rd_T41 l0_1 x10_3).f1) < (x8_3.length : Int) then (if rdOf false x8_3 ((rd_T41 l0_1 x10_3).f1) = true then (if 0 ≤ ((rd_T41 l0_1 x10_3).f0) then (if ((rd_T41 l0_1 x10_3).f0) < (x8_3.length : Int) then (if rdOf false x8_3 ((rd_T41 l0_1 x10_3).f0) = true then (billetref05_Reach.l1 kj26 l1 x8_3 x9_3 (wrap64 (x10_3 + 1)) a0_0 l0_1) else (if 0 ≤ x10_3 then (if x10_3 < (l1.length : Int) then (if (rd l1 x10_3) > 0 then (billetref05_Reach.l1 kj26 l1 (x8_3.set (((rd_T41 l0_1 x10_3).f0) : Int).toNat true) true (wrap64 (x10_3 + 1)) a0_0 l0_1) else (billetref05_Reach.l1 kj26 l1 x8_3 x9_3 (wrap64 (x10_3 + 1)) a0_0 l0_1)) else (none)) else (none))) else (none)) else (none)) else (billetref05_Reach.l1 kj26 l1 x8_3 x9_3 (wrap64 (x10_3 + 1)) a0_0 l0_1)) else (none)) else (none)) = some r := by rw [if_neg (show ¬ (false = true) by decide)] at H; exact H
                   clear H
                   have H := H1
                   clear H1
                   by_cases c82 : 0 ≤ ((rd_T41 l0_1 x10_3).f1)
                   ·rw [if_pos c82] at H
                    have c82b0 : decide (0 ≤ ((rd_T41 l0_1 x10_3).f1)) = true := decide_eq_true c82
                    clear c82
                    by_cases c83 : ((rd_T41 l0_1 x10_3).f1) < (x8_3.length : Int)
                    ·rw [if_pos c83] at H
                     have c83b0 : decide (((rd_T41 l0_1 x10_3).f1) < (x8_3.length : Int)) = true := decide_eq_true c83
                     clear c83
                     obtain ⟨bq84, hbq84⟩ : ∃ b_ : Bool, b_ = (rdOf false x8_3 ((rd_T41 l0_1 x10_3).f1)) := ⟨_, rfl⟩
                     replace H : (if bq84 = true then (if 0 ≤ ((rd_T41 l0_1 x10_3).f0) then (if ((rd_T41 l0_1 x10_3).f0) < (x8_3.length : Int) then (if rdOf false x8_3 ((rd_T41 l0_1 x10_3).f0) = true then (billetref05_Reach.l1 kj26 l1 x8_3 x9_3 (wrap64 (x10_3 + 1)) a0_0 l0_1) else (if 0 ≤ x10_3 then (if x10_3 < (l1.length : Int) then (if (rd l1 x10_3) > 0 then (billetref05_Reach.l1 kj26 l1 (x8_3.set (((rd_T41 l0_1 x10_3).f0) : Int).toNat true) true (wrap64 (x10_3 + 1)) a0_0 l0_1) else (billetref05_Reach.l1 kj26 l1 x8_3 x9_3 (wrap64 (x10_3 + 1)) a0_0 l0_1)) else (none)) else (none))) else (none)) else (none)) else (billetref05_Reach.l1 kj26 l1 x8_3 x9_3 (wrap64 (x10_3 + 1)) a0_0 l0_1)) = some r := by rw [← hbq84] at H; exact H
                     have Nbq84 := Aside0.mk hbq84
                     clear hbq84
                     by_cases c85 : bq84 = true
                     ·subst c85
                      have H1 : (if 0 ≤ ((rd_T41 l0_1 x10_3).f0) then (if ((rd_T41 l0_1 x10_3).f0) < (x8_3.length : Int) then (if rdOf false x8_3 ((rd_T41 l0_1 x10_3).f0) = true then (billetref05_Reach.l1 kj26 l1 x8_3 x9_3 (wrap64 (x10_3 + 1)) a0_0 l0_1) else (if 0 ≤ x10_3 then (if x10_3 < (l1.length : Int) then (if (rd l1 x10_3) > 0 then (billetref05_Reach.l1 kj26 l1 (x8_3.set (((rd_T41 l0_1 x10_3).f0) : Int).toNat true) true (wrap64 (x10_3 + 1)) a0_0 l0_1) else (billetref05_Reach.l1 kj26 l1 x8_3 x9_3 (wrap64 (x10_3 + 1)) a0_0 l0_1)) else (none)) else (none))) else (none)) else (none)) = some r := by rw [if_pos rfl] at H; exact H
                      clear H
                      have H := H1
                      clear H1
                      by_cases c86 : 0 ≤ ((rd_T41 l0_1 x10_3).f0)
                      ·rw [if_pos c86] at H
                       have c86b0 : decide (0 ≤ ((rd_T41 l0_1 x10_3).f0)) = true := decide_eq_true c86
                       clear c86
                       by_cases c87 : ((rd_T41 l0_1 x10_3).f0) < (x8_3.length : Int)
                       ·rw [if_pos c87] at H
                        have c87b0 : decide (((rd_T41 l0_1 x10_3).f0) < (x8_3.length : Int)) = true := decide_eq_true c87
                        clear c87
                        obtain ⟨bq88, hbq88⟩ : ∃ b_ : Bool, b_ = (rdOf false x8_3 ((rd_T41 l0_1 x10_3).f0)) := ⟨_, rfl⟩
                        replace H : (if bq88 = true then (billetref05_Reach.l1 kj26 l1 x8_3 x9_3 (wrap64 (x10_3 + 1)) a0_0 l0_1) else (if 0 ≤ x10_3 then (if x10_3 < (l1.length : Int) then (if (rd l1 x10_3) > 0 then (billetref05_Reach.l1 kj26 l1 (x8_3.set (((rd_T41 l0_1 x10_3).f0) : Int).toNat true) true (wrap64 (x10_3 + 1)) a0_0 l0_1) else (billetref05_Reach.l1 kj26 l1 x8_3 x9_3 (wrap64 (x10_3 + 1)) a0_0 l0_1)) else (none)) else (none))) = some r := by rw [← hbq88] at H; exact H
                        have Nbq88 := Aside0.mk hbq88
                        clear hbq88
                        by_cases c89 : bq88 = true
                        ·subst c89
                         have H1 : (billetref05_Reach.l1 kj26 l1 x8_3 x9_3 (wrap64 (x10_3 + 1)) a0_0 l0_1) = some r := by rw [if_pos rfl] at H; exact H
                         clear H
                         have H := H1
                         clear H1
                         have H' := Aside0.mk H
                         clear H
                         have hnb90 := NB204_197.out
                         have hnc90 := NB197_204.out
                         have hcz91_0 : wc.cell? ⟨gb204, 0, none⟩ = some (.int .i64 ((rd_T41 l0_1 x10_3).f0)) := (blk_cell BK204.out 0).trans rfl
                         have hcz91_1 : wc.cell? ⟨gb204, 1, none⟩ = some (.int .i64 ((rd_T41 l0_1 x10_3).f1)) := (blk_cell BK204.out 1).trans rfl
                         have hcz91_2 : wc.cell? ⟨gb204, 2, none⟩ = some (.int .i64 ((rd_T41 l0_1 x10_3).f2)) := (blk_cell BK204.out 2).trans rfl
                         have hfz91_0 := blk_frozen BK204.out 0
                         have hfz91_1 := blk_frozen BK204.out 1
                         have hfz91_2 := blk_frozen BK204.out 2
                         have p213 : 0 ≤ (((rd_T41 l0_1 x10_3).f1) : Int) := of_decide_eq_true (by first | (with_reducible assumption) | assumption)
                         have q213 : ((rd_T41 l0_1 x10_3).f1) < (x8_3.length : Int) := of_decide_eq_true (by first | (with_reducible assumption) | assumption)
                         obtain ⟨ad213, e213, hx213_0⟩ := Kd.at_bool (Kd.R_reads' HO_8.out).2.2 ((rd_T41 l0_1 x10_3).f1) p213 q213
                         (try rw [← Nbq84.out] at hx213_0)
                         (try rw [← Nbq88.out] at hx213_0)
                         obtain rfl : (⟨go17, 0, none⟩ : Addr) = ad213 := (by injection e213)
                         (first | simp only [add_plain] at hx213_0 | simp only [add_at] at hx213_0 | simp only [Addr.add, Nat.zero_add] at hx213_0 | skip)
                         replace p213 := eq_true p213
                         replace q213 := eq_true q213
                         have p214 : 0 ≤ (((rd_T41 l0_1 x10_3).f0) : Int) := of_decide_eq_true (by first | (with_reducible assumption) | assumption)
                         have q214 : ((rd_T41 l0_1 x10_3).f0) < (x8_3.length : Int) := of_decide_eq_true (by first | (with_reducible assumption) | assumption)
                         obtain ⟨ad214, e214, hx214_0⟩ := Kd.at_bool (Kd.R_reads' HO_8.out).2.2 ((rd_T41 l0_1 x10_3).f0) p214 q214
                         (try rw [← Nbq84.out] at hx214_0)
                         (try rw [← Nbq88.out] at hx214_0)
                         obtain rfl : (⟨go17, 0, none⟩ : Addr) = ad214 := (by injection e214)
                         (first | simp only [add_plain] at hx214_0 | simp only [add_at] at hx214_0 | simp only [Addr.add, Nat.zero_add] at hx214_0 | skip)
                         replace p214 := eq_true p214
                         replace q214 := eq_true q214
                         go_wp2
                         repeat (go_quiet (fail); try go_wp2)
                         (try simp only [← hl8_3])
                         go_roundg kj26
                         case measure => have := HJ4.out; have := HK2.out; have := HK3.out; have := HJ26.out; omega
                         case rel => exact ⟨(x8_3), (x9_3), (wrap64 (x10_3 + 1)), (by first | rfl | (simp; done) | (simp [*]; done)), (by first | rfl | (simp; done) | (simp [*]; done)), H', ⟨by have := HJ4.out; have := HK2.out; have := HK3.out; have := HJ26.out; omega⟩, ⟨by (try simp only [hl8_2]); (try simp only [hl8_3]); (with_reducible repeat (first | apply Kd.R_alloc | apply Kd.R_drewN | apply Kd.R_drew)); exact HO_8.out⟩, ⟨by (try simp only [hl8_2]); (try simp only [hl8_3]); (with_reducible repeat (first | refine blk_drewN ?_ _ | refine blk_drew ?_ | refine blk_alloc ?_ _)); exact BK197.out⟩, ⟨by repeat (first | (with_reducible first | exact HB.out | apply below_alloc | apply pw_below_drewN | apply below_drew1 | refine below_set ?_ GE197.out | refine below_set ?_ GE204.out) | exact HB.out)⟩⟩
                        ·replace c89 := Bool.eq_false_iff.mpr c89
                         subst c89
                         have H1 : (if 0 ≤ x10_3 then (if x10_3 < (l1.length : Int) then (if (rd l1 x10_3) > 0 then (billetref05_Reach.l1 kj26 l1 (x8_3.set (((rd_T41 l0_1 x10_3).f0) : Int).toNat true) true (wrap64 (x10_3 + 1)) a0_0 l0_1) else (billetref05_Reach.l1 kj26 l1 x8_3 x9_3 (wrap64 (x10_3 + 1)) a0_0 l0_1)) else (none)) else (none)) = some r := by rw [if_neg (show ¬ (false = true) by decide)] at H; exact H
                         clear H
                         have H := H1
                         clear H1
                         by_cases c92 : 0 ≤ x10_3
                         ·rw [if_pos c92] at H
                          have c92b0 : decide (0 ≤ x10_3) = true := decide_eq_true c92
                          clear c92
                          by_cases c93 : x10_3 < (l1.length : Int)
                          ·rw [if_pos c93] at H
                           have c93b0 : decide (x10_3 < (l1.length : Int)) = true := decide_eq_true c93
                           clear c93
                           by_cases c94 : (rd l1 x10_3) > 0
                           ·rw [if_pos c94] at H
                            have c94b0 : decide (0 < (rd l1 x10_3)) = true := decide_eq_true c94
                            clear c94
                            obtain ⟨y216, hy216⟩ : ∃ y_ : List Bool, y_ = (x8_3.set (((rd_T41 l0_1 x10_3).f0) : Int).toNat true) := ⟨_, rfl⟩
                            replace H : (billetref05_Reach.l1 kj26 l1 y216 true (wrap64 (x10_3 + 1)) a0_0 l0_1) = some r := by first | (rw [hy216]; with_reducible exact H) | (have H2_ := (Option.bind_some _ _).symm.trans H; rw [hy216]; with_reducible exact H2_) | (have H2_ := (Option.bind_some _ _).symm.trans H; with_reducible exact H2_) | with_reducible exact H | (rw [hy216]; exact H) | exact H
                            have Ny216 := Aside0.mk hy216
                            clear hy216
                            have H' := Aside0.mk H
                            clear H
                            have hnb96 := NB204_197.out
                            have hnc96 := NB197_204.out
                            have hcz97_0 : wc.cell? ⟨gb204, 0, none⟩ = some (.int .i64 ((rd_T41 l0_1 x10_3).f0)) := (blk_cell BK204.out 0).trans rfl
                            have hcz97_1 : wc.cell? ⟨gb204, 1, none⟩ = some (.int .i64 ((rd_T41 l0_1 x10_3).f1)) := (blk_cell BK204.out 1).trans rfl
                            have hcz97_2 : wc.cell? ⟨gb204, 2, none⟩ = some (.int .i64 ((rd_T41 l0_1 x10_3).f2)) := (blk_cell BK204.out 2).trans rfl
                            have hfz97_0 := blk_frozen BK204.out 0
                            have hfz97_1 := blk_frozen BK204.out 1
                            have hfz97_2 := blk_frozen BK204.out 2
                            have p213 : 0 ≤ (((rd_T41 l0_1 x10_3).f1) : Int) := of_decide_eq_true (by first | (with_reducible assumption) | assumption)
                            have q213 : ((rd_T41 l0_1 x10_3).f1) < (x8_3.length : Int) := of_decide_eq_true (by first | (with_reducible assumption) | assumption)
                            obtain ⟨ad213, e213, hx213_0⟩ := Kd.at_bool (Kd.R_reads' HO_8.out).2.2 ((rd_T41 l0_1 x10_3).f1) p213 q213
                            (try rw [← Nbq84.out] at hx213_0)
                            (try rw [← Nbq88.out] at hx213_0)
                            obtain rfl : (⟨go17, 0, none⟩ : Addr) = ad213 := (by injection e213)
                            (first | simp only [add_plain] at hx213_0 | simp only [add_at] at hx213_0 | simp only [Addr.add, Nat.zero_add] at hx213_0 | skip)
                            replace p213 := eq_true p213
                            replace q213 := eq_true q213
                            have p214 : 0 ≤ (((rd_T41 l0_1 x10_3).f0) : Int) := of_decide_eq_true (by first | (with_reducible assumption) | assumption)
                            have q214 : ((rd_T41 l0_1 x10_3).f0) < (x8_3.length : Int) := of_decide_eq_true (by first | (with_reducible assumption) | assumption)
                            obtain ⟨ad214, e214, hx214_0⟩ := Kd.at_bool (Kd.R_reads' HO_8.out).2.2 ((rd_T41 l0_1 x10_3).f0) p214 q214
                            (try rw [← Nbq84.out] at hx214_0)
                            (try rw [← Nbq88.out] at hx214_0)
                            obtain rfl : (⟨go17, 0, none⟩ : Addr) = ad214 := (by injection e214)
                            (first | simp only [add_plain] at hx214_0 | simp only [add_at] at hx214_0 | simp only [Addr.add, Nat.zero_add] at hx214_0 | skip)
                            replace p214 := eq_true p214
                            replace q214 := eq_true q214
                            have p215 : 0 ≤ (x10_3 : Int) := of_decide_eq_true (by first | (with_reducible assumption) | assumption)
                            have q215 : x10_3 < (l1.length : Int) := of_decide_eq_true (by first | (with_reducible assumption) | assumption)
                            obtain ⟨ad215, e215, hx215_0⟩ := Kd.at_int HR1.out x10_3 p215 q215
                            cases e215
                            replace hx215_0 := (HB.out.cell (World.block_lt_of_cell? w _ hx215_0)).trans hx215_0
                            replace p215 := eq_true p215
                            replace q215 := eq_true q215
                            have p95 : 0 ≤ (((rd_T41 l0_1 x10_3).f0) : Int) := of_decide_eq_true (by first | (with_reducible assumption) | assumption)
                            have q95 : (((rd_T41 l0_1 x10_3).f0) : Int) < ((x8_3.length : Int) : Int) := of_decide_eq_true (by first | (with_reducible assumption) | assumption)
                            obtain ⟨hx95_0, hf95_0⟩ := Kd.R_celln false HO_8.out (((rd_T41 l0_1 x10_3).f0) : Int) p95 q95
                            replace p95 := eq_true p95
                            replace q95 := eq_true q95
                            have HP98 := Kd.R_putg HO_8.out (((rd_T41 l0_1 x10_3).f0) : Int) true
                            iterate 8 ((try go_quiet (fail)); try go_wp2_with (first | ((with_reducible refine gate_store (t := 4) (p := 94) rfl ?_); (try (rw [drewN_self wc]; generalize hq_ : World.drewN wc _ = wc; have n0_ := Aside0.mk (Kd.R_at hq_ HO_8.out); have n1_ := Aside0.mk (blk_at hq_ BK197.out); have n2_ := Aside0.mk (blk_at hq_ BK204.out); have n3_ := Aside0.mk (below_at hq_ HB.out); clear hq_ HO_8 BK197 BK204 HB; have HO_8 := n0_; have BK197 := n1_; have BK204 := n2_; have HB := n3_; clear n0_ n1_ n2_ n3_; (try (have HP98 := Kd.R_putg HO_8.out (((rd_T41 l0_1 x10_3).f0) : Int) true)))); refine store_event (t := 4) (p := 94) (v := ?vo_w99) (w1 := (wc.setCell ⟨go17, (((rd_T41 l0_1 x10_3).f0) : Int).toNat, none⟩ (.bool true))) ?hg ?ho ?hn ?hr ?_; (case ho => rfl); (case hg => rfl); (case hn => rfl); (case hr => first | (go_simp; done) | (go_simp; rfl)); intro w99 hw; have hg : wc.grownBy w99 (some go17) := (by rw [hw]; exact HP98.2); have hp_ : Kd.R Kd.bool 4 w99 w.heap.size (fun _ => True) (.slice (some ⟨go17, 0, none⟩) x8_3.length co17) y216 := (by rw [hw, Ny216.out]; exact HP98.1); clear HP98; have n0_ := Aside0.mk (hp_); have n1_ := Aside0.mk (blk_grown (g := gb197) (o := .cells #[.int .i64 a0_0, .slice (some ad203) l0_1.length c0_1] 24 (0, 0)) (by (with_reducible repeat (first | refine blk_drewN ?_ _ | refine blk_drew ?_ | refine blk_alloc ?_ _)); exact BK197.out) hg (Kd.R_ne HO_8.out BK197.out (by decide))); have n2_ := Aside0.mk (blk_grown (g := gb204) (o := .cells #[.int .i64 ((rd_T41 l0_1 x10_3).f0), .int .i64 ((rd_T41 l0_1 x10_3).f1), .int .i64 ((rd_T41 l0_1 x10_3).f2)] 41 (0, 0)) (by (with_reducible repeat (first | refine blk_drewN ?_ _ | refine blk_drew ?_ | refine blk_alloc ?_ _)); exact BK204.out) hg (Kd.R_ne HO_8.out BK204.out (by decide))); have n3_ := Aside0.mk ((by rw [hw]; exact below_set (HB.out) GB17.out : Below w.heap.size w w99)); clear HO_8; clear BK197; clear BK204; clear HB; have HO_8 := n0_; have BK197 := n1_; have BK204 := n2_; have HB := n3_; clear n0_ n1_ n2_ n3_; clear hg hw hp_)))
                            (try simp only [← hl8_3])
                            go_roundg kj26
                            case measure => have := HJ4.out; have := HK2.out; have := HK3.out; have := HJ26.out; omega
                            case rel => exact ⟨(y216), (true), (wrap64 (x10_3 + 1)), (by first | rfl | (simp; done) | (simp [*]; done)), (by first | rfl | (simp; done) | (simp [*]; done)), H', ⟨by have := HJ4.out; have := HK2.out; have := HK3.out; have := HJ26.out; omega⟩, ⟨by (try simp only [hl8_2]); (try simp only [hl8_3]); (with_reducible repeat (first | apply Kd.R_alloc | apply Kd.R_drewN | apply Kd.R_drew)); exact HO_8.out⟩, ⟨by (try simp only [hl8_2]); (try simp only [hl8_3]); (with_reducible repeat (first | refine blk_drewN ?_ _ | refine blk_drew ?_ | refine blk_alloc ?_ _)); exact BK197.out⟩, ⟨by repeat (first | (with_reducible first | exact HB.out | apply below_alloc | apply pw_below_drewN | apply below_drew1 | refine below_set ?_ GE197.out | refine below_set ?_ GE204.out) | exact HB.out)⟩⟩
                           ·rw [if_neg c94] at H
                            have c94b0 : decide (0 < (rd l1 x10_3)) = false := decide_eq_false c94
                            clear c94
                            have H' := Aside0.mk H
                            clear H
                            have hnb100 := NB204_197.out
                            have hnc100 := NB197_204.out
                            have hcz101_0 : wc.cell? ⟨gb204, 0, none⟩ = some (.int .i64 ((rd_T41 l0_1 x10_3).f0)) := (blk_cell BK204.out 0).trans rfl
                            have hcz101_1 : wc.cell? ⟨gb204, 1, none⟩ = some (.int .i64 ((rd_T41 l0_1 x10_3).f1)) := (blk_cell BK204.out 1).trans rfl
                            have hcz101_2 : wc.cell? ⟨gb204, 2, none⟩ = some (.int .i64 ((rd_T41 l0_1 x10_3).f2)) := (blk_cell BK204.out 2).trans rfl
                            have hfz101_0 := blk_frozen BK204.out 0
                            have hfz101_1 := blk_frozen BK204.out 1
                            have hfz101_2 := blk_frozen BK204.out 2
                            have p213 : 0 ≤ (((rd_T41 l0_1 x10_3).f1) : Int) := of_decide_eq_true (by first | (with_reducible assumption) | assumption)
                            have q213 : ((rd_T41 l0_1 x10_3).f1) < (x8_3.length : Int) := of_decide_eq_true (by first | (with_reducible assumption) | assumption)
                            obtain ⟨ad213, e213, hx213_0⟩ := Kd.at_bool (Kd.R_reads' HO_8.out).2.2 ((rd_T41 l0_1 x10_3).f1) p213 q213
                            (try rw [← Nbq84.out] at hx213_0)
                            (try rw [← Nbq88.out] at hx213_0)
                            obtain rfl : (⟨go17, 0, none⟩ : Addr) = ad213 := (by injection e213)
                            (first | simp only [add_plain] at hx213_0 | simp only [add_at] at hx213_0 | simp only [Addr.add, Nat.zero_add] at hx213_0 | skip)
                            replace p213 := eq_true p213
                            replace q213 := eq_true q213
                            have p214 : 0 ≤ (((rd_T41 l0_1 x10_3).f0) : Int) := of_decide_eq_true (by first | (with_reducible assumption) | assumption)
                            have q214 : ((rd_T41 l0_1 x10_3).f0) < (x8_3.length : Int) := of_decide_eq_true (by first | (with_reducible assumption) | assumption)
                            obtain ⟨ad214, e214, hx214_0⟩ := Kd.at_bool (Kd.R_reads' HO_8.out).2.2 ((rd_T41 l0_1 x10_3).f0) p214 q214
                            (try rw [← Nbq84.out] at hx214_0)
                            (try rw [← Nbq88.out] at hx214_0)
                            obtain rfl : (⟨go17, 0, none⟩ : Addr) = ad214 := (by injection e214)
                            (first | simp only [add_plain] at hx214_0 | simp only [add_at] at hx214_0 | simp only [Addr.add, Nat.zero_add] at hx214_0 | skip)
                            replace p214 := eq_true p214
                            replace q214 := eq_true q214
                            have p215 : 0 ≤ (x10_3 : Int) := of_decide_eq_true (by first | (with_reducible assumption) | assumption)
                            have q215 : x10_3 < (l1.length : Int) := of_decide_eq_true (by first | (with_reducible assumption) | assumption)
                            obtain ⟨ad215, e215, hx215_0⟩ := Kd.at_int HR1.out x10_3 p215 q215
                            cases e215
                            replace hx215_0 := (HB.out.cell (World.block_lt_of_cell? w _ hx215_0)).trans hx215_0
                            replace p215 := eq_true p215
                            replace q215 := eq_true q215
                            go_wp2
                            repeat (go_quiet (fail); try go_wp2)
                            (try simp only [← hl8_3])
                            go_roundg kj26
                            case measure => have := HJ4.out; have := HK2.out; have := HK3.out; have := HJ26.out; omega
                            case rel => exact ⟨(x8_3), (x9_3), (wrap64 (x10_3 + 1)), (by first | rfl | (simp; done) | (simp [*]; done)), (by first | rfl | (simp; done) | (simp [*]; done)), H', ⟨by have := HJ4.out; have := HK2.out; have := HK3.out; have := HJ26.out; omega⟩, ⟨by (try simp only [hl8_2]); (try simp only [hl8_3]); (with_reducible repeat (first | apply Kd.R_alloc | apply Kd.R_drewN | apply Kd.R_drew)); exact HO_8.out⟩, ⟨by (try simp only [hl8_2]); (try simp only [hl8_3]); (with_reducible repeat (first | refine blk_drewN ?_ _ | refine blk_drew ?_ | refine blk_alloc ?_ _)); exact BK197.out⟩, ⟨by repeat (first | (with_reducible first | exact HB.out | apply below_alloc | apply pw_below_drewN | apply below_drew1 | refine below_set ?_ GE197.out | refine below_set ?_ GE204.out) | exact HB.out)⟩⟩
                          ·rw [if_neg c93] at H
                           exact absurd H (by simp)
                         ·rw [if_neg c92] at H
                          exact absurd H (by simp)
                       ·rw [if_neg c87] at H
                        exact absurd H (by simp)
                      ·rw [if_neg c86] at H
                       exact absurd H (by simp)
                     ·replace c85 := Bool.eq_false_iff.mpr c85
                      subst c85
                      have H1 : (billetref05_Reach.l1 kj26 l1 x8_3 x9_3 (wrap64 (x10_3 + 1)) a0_0 l0_1) = some r := by rw [if_neg (show ¬ (false = true) by decide)] at H; exact H
                      clear H
                      have H := H1
                      clear H1
                      have H' := Aside0.mk H
                      clear H
                      have hnb102 := NB204_197.out
                      have hnc102 := NB197_204.out
                      have hcz103_0 : wc.cell? ⟨gb204, 0, none⟩ = some (.int .i64 ((rd_T41 l0_1 x10_3).f0)) := (blk_cell BK204.out 0).trans rfl
                      have hcz103_1 : wc.cell? ⟨gb204, 1, none⟩ = some (.int .i64 ((rd_T41 l0_1 x10_3).f1)) := (blk_cell BK204.out 1).trans rfl
                      have hcz103_2 : wc.cell? ⟨gb204, 2, none⟩ = some (.int .i64 ((rd_T41 l0_1 x10_3).f2)) := (blk_cell BK204.out 2).trans rfl
                      have hfz103_0 := blk_frozen BK204.out 0
                      have hfz103_1 := blk_frozen BK204.out 1
                      have hfz103_2 := blk_frozen BK204.out 2
                      have p213 : 0 ≤ (((rd_T41 l0_1 x10_3).f1) : Int) := of_decide_eq_true (by first | (with_reducible assumption) | assumption)
                      have q213 : ((rd_T41 l0_1 x10_3).f1) < (x8_3.length : Int) := of_decide_eq_true (by first | (with_reducible assumption) | assumption)
                      obtain ⟨ad213, e213, hx213_0⟩ := Kd.at_bool (Kd.R_reads' HO_8.out).2.2 ((rd_T41 l0_1 x10_3).f1) p213 q213
                      (try rw [← Nbq84.out] at hx213_0)
                      obtain rfl : (⟨go17, 0, none⟩ : Addr) = ad213 := (by injection e213)
                      (first | simp only [add_plain] at hx213_0 | simp only [add_at] at hx213_0 | simp only [Addr.add, Nat.zero_add] at hx213_0 | skip)
                      replace p213 := eq_true p213
                      replace q213 := eq_true q213
                      go_wp2
                      repeat (go_quiet (fail); try go_wp2)
                      (try simp only [← hl8_3])
                      go_roundg kj26
                      case measure => have := HJ4.out; have := HK2.out; have := HK3.out; have := HJ26.out; omega
                      case rel => exact ⟨(x8_3), (x9_3), (wrap64 (x10_3 + 1)), (by first | rfl | (simp; done) | (simp [*]; done)), (by first | rfl | (simp; done) | (simp [*]; done)), H', ⟨by have := HJ4.out; have := HK2.out; have := HK3.out; have := HJ26.out; omega⟩, ⟨by (try simp only [hl8_2]); (try simp only [hl8_3]); (with_reducible repeat (first | apply Kd.R_alloc | apply Kd.R_drewN | apply Kd.R_drew)); exact HO_8.out⟩, ⟨by (try simp only [hl8_2]); (try simp only [hl8_3]); (with_reducible repeat (first | refine blk_drewN ?_ _ | refine blk_drew ?_ | refine blk_alloc ?_ _)); exact BK197.out⟩, ⟨by repeat (first | (with_reducible first | exact HB.out | apply below_alloc | apply pw_below_drewN | apply below_drew1 | refine below_set ?_ GE197.out | refine below_set ?_ GE204.out) | exact HB.out)⟩⟩
                    ·rw [if_neg c83] at H
                     exact absurd H (by simp)
                   ·rw [if_neg c82] at H
                    exact absurd H (by simp)
               ·rw [if_neg c26] at H
                exact absurd H (by simp)
              ·rw [if_neg c25] at H
               exact absurd H (by simp)
             ·rw [if_neg c24] at H
              have c24b0 : decide (x10_3 < (l1.length : Int)) = false := decide_eq_false c24
              clear c24
              have H' := Aside0.mk H
              clear H
              go_wp2
              repeat (go_quiet (fail); try go_wp2)
              (try simp only [← hl8_2, ← hl8_3])
              go_roundg k3
              case measure => have := HJ4.out; have := HK2.out; have := HK3.out; omega
              case rel => exact ⟨(x8_3), (x9_3), (by first | rfl | (simp; done) | (simp [*]; done)), H', ⟨by have := HJ4.out; have := HK2.out; have := HK3.out; omega⟩, ⟨by (try simp only [hl8_2]); (try simp only [hl8_3]); (with_reducible repeat (first | apply Kd.R_alloc | apply Kd.R_drewN | apply Kd.R_drew)); exact HO_8.out⟩, ⟨by (try simp only [hl8_2]); (try simp only [hl8_3]); (with_reducible repeat (first | refine blk_drewN ?_ _ | refine blk_drew ?_ | refine blk_alloc ?_ _)); exact BK197.out⟩, ⟨by repeat (first | (with_reducible first | exact HB.out | apply below_alloc | apply pw_below_drewN | apply below_drew1 | refine below_set ?_ GE197.out) | exact HB.out)⟩⟩
          ·replace c23 := Bool.eq_false_iff.mpr c23
           subst c23
           have H1 : (some x8_2) = some r := by rw [if_neg (show ¬ (false = true) by decide)] at H; exact H
           clear H
           have H := H1
           clear H1
           obtain rfl := Option.some.inj H
           go_wp2
           repeat (go_quiet (fail); try go_wp2)
           go_ret
           exact ⟨_, by first | rfl | (simp [errW_none, errW_some] <;> rfl) | (simp [*, errW_none, errW_some] <;> rfl), by (with_reducible repeat (first | apply Kd.R_alloc | apply Kd.R_drewN | apply Kd.R_drew)); exact HO_8.out, by repeat (first | (with_reducible first | exact HB.out | apply below_alloc | apply pw_below_drewN | apply below_drew1 | refine below_set ?_ GE197.out) | exact HB.out)⟩
       ·rw [if_neg c16] at H
        exact absurd H (by simp)
      ·rw [if_neg c15] at H
       exact absurd H (by simp)
     ·rw [if_neg c14] at H
      exact absurd H (by simp)
    ·rw [if_neg c13] at H
     exact absurd H (by simp)
end Go.Proofs.Ytfmfojogcghkkaa.P
