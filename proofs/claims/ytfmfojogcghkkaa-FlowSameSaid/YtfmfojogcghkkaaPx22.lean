import Derived.Test.YtfmfojogcghkkaaPx0
import Derived.Test.YtfmfojogcghkkaaPx20
namespace Go.Proofs.Ytfmfojogcghkkaa.P
open Go.RowKit Go.Proofs.YtfmfojogcghkkaaW.PrintWords Go.Proofs.YtfmfojogcghkkaaW.PrintLast Go.Proofs.YtfmfojogcghkkaaW.PrintMore
attribute [local go_sem] max2_int min2_int max_two min_two max_three min_three max_four min_four   -- for this text's walks alone
set_option linter.unusedVariables false
set_option linter.unusedSimpArgs false
mutual
def billetlaw05_Flow.l0 : Nat → List Int → List Int → Int → Int → List (S41) → Option (List Int)
 | 0, _, _, _, _, _ => none
 | k + 1, x1, x5, x6, x278000, x278001 => if x6 < (x1.length : Int) then (billetlaw05_Flow.j1 k x1 x5 x6 (decide (x6 < 30)) x278000 x278001) else (billetlaw05_Flow.j1 k x1 x5 x6 false x278000 x278001)
def billetlaw05_Flow.j1 : Nat → List Int → List Int → Int → Bool → Int → List (S41) → Option (List Int)
 | 0, _, _, _, _, _, _ => none
 | k + 1, x1, x5, x6, x26, x278000, x278001 => if x26 = true then (if 0 ≤ x278000 then (if (x278000 : Int).toNat ≤ 281474976710656 then ((some (List.replicate (x278000 : Int).toNat false : List Bool)).bind fun y281 => (if 0 < (y281.length : Int) then (if 0 ≤ x6 then (if x6 < (x1.length : Int) then ((billetlaw05_pick.f (rd x1 x6) 1048576).bind fun t286 => (billetlaw05_Flow.l1 k x1 x5 x6 ([] : List Int) (y281.set (0 : Int).toNat true) 0 t286 x278000 x278001)) else (none)) else (none)) else (none))) else (none)) else (none)) else (some x5)
def billetlaw05_Flow.j4 : Nat → List Int → List Int → Int → List Int → Int → Int → List (S41) → Option (List Int)
 | 0, _, _, _, _, _, _, _ => none
 | k + 1, x1, x5, x6, x7, x9, x278000, x278001 => if x9 = 1 then (billetlaw05_Flow.l3 k x1 x5 x6 x7 0 x278000 x278001) else (billetlaw05_Flow.l0 k x1 x5 (wrap64 (x6 + 1)) x278000 x278001)
def billetlaw05_Flow.l3 : Nat → List Int → List Int → Int → List Int → Int → Int → List (S41) → Option (List Int)
 | 0, _, _, _, _, _, _, _ => none
 | k + 1, x1, x5, x6, x7, x14, x278000, x278001 => if x14 < (x7.length : Int) then (if 0 ≤ x14 then (if 0 ≤ (rd x7 x14) then (if (rd x7 x14) < (x5.length : Int) then (billetlaw05_Flow.l3 k x1 (x5.set ((rd x7 x14) : Int).toNat (wrap64 ((rd x5 (rd x7 x14)) + 1))) x6 x7 (wrap64 (x14 + 1)) x278000 x278001) else (none)) else (none)) else (none)) else (billetlaw05_Flow.l0 k x1 x5 (wrap64 (x6 + 1)) x278000 x278001)
def billetlaw05_Flow.l1 : Nat → List Int → List Int → Int → List Int → List Bool → Int → Int → Int → List (S41) → Option (List Int)
 | 0, _, _, _, _, _, _, _, _, _ => none
 | k + 1, x1, x5, x6, x7, x8, x9, x10, x278000, x278001 => if x9 = 1 then (billetlaw05_Flow.j4 k x1 x5 x6 x7 x9 x278000 x278001) else (billetlaw05_Flow.l2 k x1 x5 x6 x7 x8 x9 x10 ([] : List Int) 0 x278000 x278001)
def billetlaw05_Flow.l2 : Nat → List Int → List Int → Int → List Int → List Bool → Int → Int → List Int → Int → Int → List (S41) → Option (List Int)
 | 0, _, _, _, _, _, _, _, _, _, _, _ => none
 | k + 1, x1, x5, x6, x7, x8, x9, x10, x11, x12, x278000, x278001 => if x12 < (x278001.length : Int) then (if 0 ≤ x12 then (if ((rd_T41 x278001 x12).f0) = x9 then (if 0 ≤ ((rd_T41 x278001 x12).f1) then (if ((rd_T41 x278001 x12).f1) < (x8.length : Int) then (if (rdOf false x8 ((rd_T41 x278001 x12).f1) = true) then (billetlaw05_Flow.l2 k x1 x5 x6 x7 x8 x9 x10 x11 (wrap64 (x12 + 1)) x278000 x278001) else (if x12 < (x5.length : Int) then (if (rd x5 x12) < ((rd_T41 x278001 x12).f2) then (if x11.length < 17592186044416 then (billetlaw05_Flow.l2 k x1 x5 x6 x7 x8 x9 x10 (x11 ++ [x12]) (wrap64 (x12 + 1)) x278000 x278001) else (none)) else (billetlaw05_Flow.l2 k x1 x5 x6 x7 x8 x9 x10 x11 (wrap64 (x12 + 1)) x278000 x278001)) else (none))) else (none)) else (none)) else (billetlaw05_Flow.l2 k x1 x5 x6 x7 x8 x9 x10 x11 (wrap64 (x12 + 1)) x278000 x278001)) else (none)) else (if (x11.length : Int) = 0 then (billetlaw05_Flow.j4 k x1 x5 x6 x7 x9 x278000 x278001) else (if 0 ≤ (Int.tmod x10 (x11.length : Int)) then (if (Int.tmod x10 (x11.length : Int)) < (x11.length : Int) then (if x7.length < 17592186044416 then (if 0 ≤ (rd x11 (Int.tmod x10 (x11.length : Int))) then (if (rd x11 (Int.tmod x10 (x11.length : Int))) < (x278001.length : Int) then (if 0 ≤ ((rd_T41 x278001 (rd x11 (Int.tmod x10 (x11.length : Int)))).f1) then (if ((rd_T41 x278001 (rd x11 (Int.tmod x10 (x11.length : Int)))).f1) < (x8.length : Int) then (billetlaw05_Flow.l1 k x1 x5 x6 (x7 ++ [rd x11 (Int.tmod x10 (x11.length : Int))]) (x8.set (((rd_T41 x278001 (rd x11 (Int.tmod x10 (x11.length : Int)))).f1) : Int).toNat true) ((rd_T41 x278001 (rd x11 (Int.tmod x10 (x11.length : Int)))).f1) (wrap64 (Int.tdiv x10 2)) x278000 x278001) else (none)) else (none)) else (none)) else (none)) else (none)) else (none)) else (none)))
end
def billetlaw05_Flow.f (k : Nat) (a0_0 : Int) (l0_1 : List (S41)) (l1 : List Int) : Option (List Int) := if 0 ≤ (l0_1.length : Int) then (if ((l0_1.length : Int) : Int).toNat ≤ 35184372088832 then (billetlaw05_Flow.l0 k l1 (List.replicate ((l0_1.length : Int) : Int).toNat 0) 0 a0_0 l0_1) else (none)) else (none)
theorem billetlaw05_Flow.mono_l : ∀ k, (∀ y0 y1 y2 y3 y4, LeO (billetlaw05_Flow.l0 k y0 y1 y2 y3 y4) (billetlaw05_Flow.l0 (k + 1) y0 y1 y2 y3 y4)) ∧ (∀ y0 y1 y2 y3 y4 y5, LeO (billetlaw05_Flow.j1 k y0 y1 y2 y3 y4 y5) (billetlaw05_Flow.j1 (k + 1) y0 y1 y2 y3 y4 y5)) ∧ (∀ y0 y1 y2 y3 y4 y5 y6, LeO (billetlaw05_Flow.j4 k y0 y1 y2 y3 y4 y5 y6) (billetlaw05_Flow.j4 (k + 1) y0 y1 y2 y3 y4 y5 y6)) ∧ (∀ y0 y1 y2 y3 y4 y5 y6, LeO (billetlaw05_Flow.l3 k y0 y1 y2 y3 y4 y5 y6) (billetlaw05_Flow.l3 (k + 1) y0 y1 y2 y3 y4 y5 y6)) ∧ (∀ y0 y1 y2 y3 y4 y5 y6 y7 y8, LeO (billetlaw05_Flow.l1 k y0 y1 y2 y3 y4 y5 y6 y7 y8) (billetlaw05_Flow.l1 (k + 1) y0 y1 y2 y3 y4 y5 y6 y7 y8)) ∧ (∀ y0 y1 y2 y3 y4 y5 y6 y7 y8 y9 y10, LeO (billetlaw05_Flow.l2 k y0 y1 y2 y3 y4 y5 y6 y7 y8 y9 y10) (billetlaw05_Flow.l2 (k + 1) y0 y1 y2 y3 y4 y5 y6 y7 y8 y9 y10))
 | 0 => ⟨fun _ _ _ _ _ r h => by simp [billetlaw05_Flow.l0] at h, fun _ _ _ _ _ _ r h => by simp [billetlaw05_Flow.j1] at h, fun _ _ _ _ _ _ _ r h => by simp [billetlaw05_Flow.j4] at h, fun _ _ _ _ _ _ _ r h => by simp [billetlaw05_Flow.l3] at h, fun _ _ _ _ _ _ _ _ _ r h => by simp [billetlaw05_Flow.l1] at h, fun _ _ _ _ _ _ _ _ _ _ _ r h => by simp [billetlaw05_Flow.l2] at h⟩
 | k + 1 => by
  obtain ⟨ih0, ih1, ih2, ih3, ih4, ih5⟩ := billetlaw05_Flow.mono_l k
  refine ⟨?_, ?_, ?_, ?_, ?_, ?_⟩
  ·intro y0 y1 y2 y3 y4
   unfold billetlaw05_Flow.l0
   repeat' first
   | (with_reducible exact ih0 _ _ _ _ _)
   | (with_reducible exact ih1 _ _ _ _ _ _)
   | (with_reducible exact ih2 _ _ _ _ _ _ _)
   | (with_reducible exact ih3 _ _ _ _ _ _ _)
   | (with_reducible exact ih4 _ _ _ _ _ _ _ _ _)
   | (with_reducible exact ih5 _ _ _ _ _ _ _ _ _ _ _)
   | (with_reducible exact LeO.refl _)
   | (with_reducible exact LeO.none _)
   | (with_reducible refine LeO.ite ?_ ?_)
   | (with_reducible refine LeO.bind ?_ (fun _ => ?_))
   | exact ih0 _ _ _ _ _
   | exact ih1 _ _ _ _ _ _
   | exact ih2 _ _ _ _ _ _ _
   | exact ih3 _ _ _ _ _ _ _
   | exact ih4 _ _ _ _ _ _ _ _ _
   | exact ih5 _ _ _ _ _ _ _ _ _ _ _
   | exact LeO.none _
   | refine LeO.ite ?_ ?_
   | refine LeO.bind ?_ (fun _ => ?_)
  ·intro y0 y1 y2 y3 y4 y5
   unfold billetlaw05_Flow.j1
   repeat' first
   | (with_reducible exact ih0 _ _ _ _ _)
   | (with_reducible exact ih1 _ _ _ _ _ _)
   | (with_reducible exact ih2 _ _ _ _ _ _ _)
   | (with_reducible exact ih3 _ _ _ _ _ _ _)
   | (with_reducible exact ih4 _ _ _ _ _ _ _ _ _)
   | (with_reducible exact ih5 _ _ _ _ _ _ _ _ _ _ _)
   | (with_reducible exact LeO.refl _)
   | (with_reducible exact LeO.none _)
   | (with_reducible refine LeO.ite ?_ ?_)
   | (with_reducible refine LeO.bind ?_ (fun _ => ?_))
   | exact ih0 _ _ _ _ _
   | exact ih1 _ _ _ _ _ _
   | exact ih2 _ _ _ _ _ _ _
   | exact ih3 _ _ _ _ _ _ _
   | exact ih4 _ _ _ _ _ _ _ _ _
   | exact ih5 _ _ _ _ _ _ _ _ _ _ _
   | exact LeO.none _
   | refine LeO.ite ?_ ?_
   | refine LeO.bind ?_ (fun _ => ?_)
  ·intro y0 y1 y2 y3 y4 y5 y6
   unfold billetlaw05_Flow.j4
   repeat' first
   | (with_reducible exact ih0 _ _ _ _ _)
   | (with_reducible exact ih1 _ _ _ _ _ _)
   | (with_reducible exact ih2 _ _ _ _ _ _ _)
   | (with_reducible exact ih3 _ _ _ _ _ _ _)
   | (with_reducible exact ih4 _ _ _ _ _ _ _ _ _)
   | (with_reducible exact ih5 _ _ _ _ _ _ _ _ _ _ _)
   | (with_reducible exact LeO.refl _)
   | (with_reducible exact LeO.none _)
   | (with_reducible refine LeO.ite ?_ ?_)
   | (with_reducible refine LeO.bind ?_ (fun _ => ?_))
   | exact ih0 _ _ _ _ _
   | exact ih1 _ _ _ _ _ _
   | exact ih2 _ _ _ _ _ _ _
   | exact ih3 _ _ _ _ _ _ _
   | exact ih4 _ _ _ _ _ _ _ _ _
   | exact ih5 _ _ _ _ _ _ _ _ _ _ _
   | exact LeO.none _
   | refine LeO.ite ?_ ?_
   | refine LeO.bind ?_ (fun _ => ?_)
  ·intro y0 y1 y2 y3 y4 y5 y6
   unfold billetlaw05_Flow.l3
   repeat' first
   | (with_reducible exact ih0 _ _ _ _ _)
   | (with_reducible exact ih1 _ _ _ _ _ _)
   | (with_reducible exact ih2 _ _ _ _ _ _ _)
   | (with_reducible exact ih3 _ _ _ _ _ _ _)
   | (with_reducible exact ih4 _ _ _ _ _ _ _ _ _)
   | (with_reducible exact ih5 _ _ _ _ _ _ _ _ _ _ _)
   | (with_reducible exact LeO.refl _)
   | (with_reducible exact LeO.none _)
   | (with_reducible refine LeO.ite ?_ ?_)
   | (with_reducible refine LeO.bind ?_ (fun _ => ?_))
   | exact ih0 _ _ _ _ _
   | exact ih1 _ _ _ _ _ _
   | exact ih2 _ _ _ _ _ _ _
   | exact ih3 _ _ _ _ _ _ _
   | exact ih4 _ _ _ _ _ _ _ _ _
   | exact ih5 _ _ _ _ _ _ _ _ _ _ _
   | exact LeO.none _
   | refine LeO.ite ?_ ?_
   | refine LeO.bind ?_ (fun _ => ?_)
  ·intro y0 y1 y2 y3 y4 y5 y6 y7 y8
   unfold billetlaw05_Flow.l1
   repeat' first
   | (with_reducible exact ih0 _ _ _ _ _)
   | (with_reducible exact ih1 _ _ _ _ _ _)
   | (with_reducible exact ih2 _ _ _ _ _ _ _)
   | (with_reducible exact ih3 _ _ _ _ _ _ _)
   | (with_reducible exact ih4 _ _ _ _ _ _ _ _ _)
   | (with_reducible exact ih5 _ _ _ _ _ _ _ _ _ _ _)
   | (with_reducible exact LeO.refl _)
   | (with_reducible exact LeO.none _)
   | (with_reducible refine LeO.ite ?_ ?_)
   | (with_reducible refine LeO.bind ?_ (fun _ => ?_))
   | exact ih0 _ _ _ _ _
   | exact ih1 _ _ _ _ _ _
   | exact ih2 _ _ _ _ _ _ _
   | exact ih3 _ _ _ _ _ _ _
   | exact ih4 _ _ _ _ _ _ _ _ _
   | exact ih5 _ _ _ _ _ _ _ _ _ _ _
   | exact LeO.none _
   | refine LeO.ite ?_ ?_
   | refine LeO.bind ?_ (fun _ => ?_)
  ·intro y0 y1 y2 y3 y4 y5 y6 y7 y8 y9 y10
   unfold billetlaw05_Flow.l2
   repeat' first
   | (with_reducible exact ih0 _ _ _ _ _)
   | (with_reducible exact ih1 _ _ _ _ _ _)
   | (with_reducible exact ih2 _ _ _ _ _ _ _)
   | (with_reducible exact ih3 _ _ _ _ _ _ _)
   | (with_reducible exact ih4 _ _ _ _ _ _ _ _ _)
   | (with_reducible exact ih5 _ _ _ _ _ _ _ _ _ _ _)
   | (with_reducible exact LeO.refl _)
   | (with_reducible exact LeO.none _)
   | (with_reducible refine LeO.ite ?_ ?_)
   | (with_reducible refine LeO.bind ?_ (fun _ => ?_))
   | exact ih0 _ _ _ _ _
   | exact ih1 _ _ _ _ _ _
   | exact ih2 _ _ _ _ _ _ _
   | exact ih3 _ _ _ _ _ _ _
   | exact ih4 _ _ _ _ _ _ _ _ _
   | exact ih5 _ _ _ _ _ _ _ _ _ _ _
   | exact LeO.none _
   | refine LeO.ite ?_ ?_
   | refine LeO.bind ?_ (fun _ => ?_)
theorem billetlaw05_Flow.mono : ∀ a0 a1 a2 k, LeO (billetlaw05_Flow.f k a0 a1 a2) (billetlaw05_Flow.f (k + 1) a0 a1 a2) := by
 intro a0 a1 a2 k
 obtain ⟨ih0, ih1, ih2, ih3, ih4, ih5⟩ := billetlaw05_Flow.mono_l k
 unfold billetlaw05_Flow.f
 repeat' first
   | (with_reducible exact ih0 _ _ _ _ _)
   | (with_reducible exact ih1 _ _ _ _ _ _)
   | (with_reducible exact ih2 _ _ _ _ _ _ _)
   | (with_reducible exact ih3 _ _ _ _ _ _ _)
   | (with_reducible exact ih4 _ _ _ _ _ _ _ _ _)
   | (with_reducible exact ih5 _ _ _ _ _ _ _ _ _ _ _)
   | (with_reducible exact LeO.refl _)
   | (with_reducible exact LeO.none _)
   | (with_reducible refine LeO.ite ?_ ?_)
   | (with_reducible refine LeO.bind ?_ (fun _ => ?_))
   | exact ih0 _ _ _ _ _
   | exact ih1 _ _ _ _ _ _
   | exact ih2 _ _ _ _ _ _ _
   | exact ih3 _ _ _ _ _ _ _
   | exact ih4 _ _ _ _ _ _ _ _ _
   | exact ih5 _ _ _ _ _ _ _ _ _ _ _
   | exact LeO.none _
   | refine LeO.ite ?_ ?_
   | refine LeO.bind ?_ (fun _ => ?_)
set_option maxHeartbeats 8000000 in
set_option maxRecDepth 100000 in
theorem billetlaw05_Flow.calls (k : Nat) (a0_0 : Int) (A0_1 : Option Addr) (c0_1 : Nat) (l0_1 : List (S41)) (A1 : Option Addr) (c1 : Nat) (l1 : List Int) (r : List Int) (w : World) (hr0_1 : Kd.C k41 w A0_1 l0_1.length l0_1) (hc0_1 : l0_1.length ≤ c0_1) (hr1 : Kd.C (Kd.int .i64) w A1 l1.length l1) (hc1 : l1.length ≤ c1) (h : billetlaw05_Flow.f k a0_0 l0_1 l1 = some r) :
  Calls Try.prog 31 #[.agg #[.int .i64 a0_0, .slice A0_1 l0_1.length c0_1], .slice A1 l1.length c1] w fun e w' => ∃ v0_ : Value, e = .returned (v0_) ∧ Kd.R (Kd.int .i64) 3 w' w.heap.size (fun _ => True) v0_ r ∧ Below w.heap.size w w' := by
 have hu24 := Try.underlying24
 have HR0_1 := Aside0.mk hr0_1
 have HC0_1 := Aside0.mk hc0_1
 clear hr0_1 hc0_1
 have HR1 := Aside0.mk hr1
 have HC1 := Aside0.mk hc1
 clear hr1 hc1
 have HB := Aside0.mk (Below.refl w.heap.size w)
 have H : (if 0 ≤ (l0_1.length : Int) then (if ((l0_1.length : Int) : Int).toNat ≤ 35184372088832 then (billetlaw05_Flow.l0 k l1 (List.replicate ((l0_1.length : Int) : Int).toNat 0) 0 a0_0 l0_1) else (none)) else (none)) = some r := h
 clear h
 by_cases c3 : 0 ≤ (l0_1.length : Int)
 ·rw [if_pos c3] at H
  have c3b0 := eq_true c3
  have c3b1 : decide (0 ≤ (l0_1.length : Int)) = true := decide_eq_true c3
  clear c3
  by_cases c4 : ((l0_1.length : Int) : Int).toNat ≤ 35184372088832
  ·rw [if_pos c4] at H
   have c4b0 := eq_true c4
   have c4b1 : decide (((l0_1.length : Int) : Int).toNat ≤ 35184372088832) = true := decide_eq_true c4
   clear c4
   obtain ⟨y278, hy278⟩ : ∃ y_ : List Int, y_ = (List.replicate ((l0_1.length : Int) : Int).toNat 0) := ⟨_, rfl⟩
   replace H : (billetlaw05_Flow.l0 k l1 y278 0 a0_0 l0_1) = some r := by first | (rw [hy278]; with_reducible exact H) | (have H2_ := (Option.bind_some _ _).symm.trans H; rw [hy278]; with_reducible exact H2_) | (have H2_ := (Option.bind_some _ _).symm.trans H; with_reducible exact H2_) | with_reducible exact H | (rw [hy278]; exact H) | exact H
   have Ny278 := Aside0.mk hy278
   clear hy278
   have H' := Aside0.mk H
   clear H
   go_enter Try.func31, Try.ntmps31
   iterate 8 ((try go_quiet (fail)); try go_wp2_with (first | ((with_reducible refine gate_dst (N := 2) rfl ?_); refine box_event ?hg (N := 2) ?hd (cs := #[.int .i64 a0_0, .slice A0_1 l0_1.length c0_1]) (t := 24) ?hr ?_; (case hd => rfl); (case hg => rfl); (case hr => first | (go_simp; done) | (go_simp; rfl)); intro gb277 hg w5 hbox hb; have n0_ := Aside0.mk (below_step (by repeat (first | (with_reducible first | exact HB.out | apply below_alloc | apply pw_below_drewN | apply below_drew1) | exact HB.out)) hb); have n1_ := Aside0.mk (hbox); have n2_ := Aside0.mk ((by rw [hg]; exact (below_size (by repeat (first | (with_reducible first | exact HB.out | apply below_alloc | apply pw_below_drewN | apply below_drew1) | exact HB.out))) : w.heap.size ≤ gb277)); have n3_ := Aside0.mk ((by rw [hg]; exact (below_size (by repeat (first | (with_reducible first | exact HB.out | apply below_alloc | apply pw_below_drewN | apply below_drew1) | exact HB.out))) : w.heap.size ≤ gb277)); clear HB; have HB := n0_; have BK277 := n1_; have GW277 := n2_; have GE277 := n3_; clear n0_ n1_ n2_ n3_; clear hb hbox hg; have hcz6_0 : w5.cell? ⟨gb277, 0, none⟩ = some (.int .i64 a0_0) := (blk_cell BK277.out 0).trans rfl; have hcz6_1 : w5.cell? ⟨gb277, 1, none⟩ = some (.slice A0_1 l0_1.length c0_1) := (blk_cell BK277.out 1).trans rfl; have hfz6_0 := blk_frozen BK277.out 0; have hfz6_1 := blk_frozen BK277.out 1) | ((with_reducible refine gate_dst (N := 18) rfl ?_); refine Kd.R_make (Kd.int .i64) _ 3 rfl (N := 18) rfl 25 _ _ rfl (l0_1.length : Int) rfl rfl Try.underlying25 (.int .i64 0) 8 info3 rfl (by decide) (by omega) 0 (ok := fun _ => True) (okp := fun _ => True) rfl (fun _ hk => hk) trivial (of_decide_eq_true (by first | (with_reducible assumption) | assumption)) (Nat.le_trans (Nat.mul_le_mul_right _ (of_decide_eq_true (by first | (with_reducible assumption) | assumption) : (l0_1.length : Int).toNat ≤ 35184372088832)) (by omega)) (Below.refl _ _) (Nat.le_refl _) ?_; intro v279 w7 ho8 hb hg_ hnew_; clear hg_ hnew_; (first | rw [← Ny278.out] at ho8 | (simp only [Int.reduceToNat] at ho8; rw [← Ny278.out] at ho8)); have n0_ := Aside0.mk (Kd.R_lower ho8 (below_size (by repeat (first | (with_reducible first | exact HB.out | apply below_alloc | apply pw_below_drewN | apply below_drew1 | refine below_set ?_ GE277.out) | exact HB.out)))); have n1_ := Aside0.mk (blk_below (g := gb277) (o := .cells #[.int .i64 a0_0, .slice A0_1 l0_1.length c0_1] 24 (0, 0)) (by (with_reducible repeat (first | refine blk_drewN ?_ _ | refine blk_drew ?_ | refine blk_alloc ?_ _)); exact BK277.out) hb); have n2_ := Aside0.mk (below_step (by repeat (first | (with_reducible first | exact HB.out | apply below_alloc | apply pw_below_drewN | apply below_drew1 | refine below_set ?_ GE277.out) | exact HB.out)) hb); clear BK277; clear HB; have HO280 := n0_; have BK277 := n1_; have HB := n2_; clear n0_ n1_ n2_; clear hb ho8)))
   go_loopg [6] k (fun kq v6 w' => ∃ (x5_1 : List Int) (x6_1 : Int), v6 = .int .i64 x6_1 ∧ Aside0 (billetlaw05_Flow.l0 kq l1 x5_1 x6_1 a0_0 l0_1 = some r) ∧ Aside0 (kq ≤ k) ∧ Aside0 (Kd.R (Kd.int .i64) 3 w' w.heap.size (fun _ => True) v279 x5_1) ∧ Aside0 (w'.heap[gb277]? = some (.cells #[.int .i64 a0_0, (.slice A0_1 l0_1.length c0_1)] 24 (0, 0))) ∧ Aside0 (Below w.heap.size w w'))
   case atStart => exact ⟨(y278), (0), (by first | rfl | (simp; done) | (simp [*]; done)), H', ⟨Nat.le_refl _⟩, ⟨by (with_reducible repeat (first | apply Kd.R_alloc | apply Kd.R_drewN | apply Kd.R_drew)); exact HO280.out⟩, ⟨by (with_reducible repeat (first | refine blk_drewN ?_ _ | refine blk_drew ?_ | refine blk_alloc ?_ _)); exact BK277.out⟩, ⟨by repeat (first | (with_reducible first | exact HB.out | apply below_alloc | apply pw_below_drewN | apply below_drew1 | refine below_set ?_ GE277.out) | exact HB.out)⟩⟩
   case round =>
    clear H'
    obtain ⟨x5_1, x6_1, rfl, HA, HK1, HO_5, BK277, HB⟩ := hrel
    cases gk with
    | zero => exact absurd HA.out (by simp [billetlaw05_Flow.l0])
    | succ k1 =>
     have H := HA.out
     clear HA
     simp only [billetlaw05_Flow.l0] at H
     have HC9 := Aside0.mk H
     clear H
     go_upto_region 3 with (fail)
     repeat (go_quiet (fail); go_upto_region 3 with (fail))
     go_cut [26] (fun v26 wc => ∃ (kq : Nat) (x26_8 : Bool), v26 = .bool x26_8 ∧ Aside0 (billetlaw05_Flow.j1 kq l1 x5_1 x6_1 x26_8 a0_0 l0_1 = some r) ∧ Aside0 (kq ≤ k1) ∧ Aside0 (Kd.R (Kd.int .i64) 3 wc w.heap.size (fun _ => True) v279 x5_1) ∧ Aside0 (wc.heap[gb277]? = some (.cells #[.int .i64 a0_0, (.slice A0_1 l0_1.length c0_1)] 24 (0, 0))) ∧ Aside0 (Below w.heap.size w wc))
     case first =>
      have H := HC9.out
      clear HC9
      by_cases c10 : x6_1 < (l1.length : Int)
      ·rw [if_pos c10] at H
       have c10b0 : decide (x6_1 < (l1.length : Int)) = true := decide_eq_true c10
       clear c10
       (first | rw [c10b0] | (simp only [i64_w, i32_w]; rw [c10b0]) | skip)
       have H' := Aside0.mk H
       clear H
       go_wp2
       repeat (go_quiet (fail); try go_wp2)
       go_meet
       case rel => exact ⟨_, (decide (x6_1 < 30)), (by first | rfl | (simp; done) | (simp [*]; done)), H', ⟨by have := HK1.out; first | omega | exact Nat.le_refl _⟩, ⟨by (with_reducible repeat (first | apply Kd.R_alloc | apply Kd.R_drewN | apply Kd.R_drew)); exact HO_5.out⟩, ⟨by (with_reducible repeat (first | refine blk_drewN ?_ _ | refine blk_drew ?_ | refine blk_alloc ?_ _)); exact BK277.out⟩, ⟨by repeat (first | (with_reducible first | exact HB.out | apply below_alloc | apply pw_below_drewN | apply below_drew1 | refine below_set ?_ GE277.out) | exact HB.out)⟩⟩
      ·rw [if_neg c10] at H
       have c10b0 : decide (x6_1 < (l1.length : Int)) = false := decide_eq_false c10
       clear c10
       (first | rw [c10b0] | (simp only [i64_w, i32_w]; rw [c10b0]) | skip)
       have H' := Aside0.mk H
       clear H
       go_wp2
       repeat (go_quiet (fail); try go_wp2)
       go_meet
       case rel => exact ⟨_, (false), (by first | rfl | (simp; done) | (simp [*]; done)), H', ⟨by have := HK1.out; first | omega | exact Nat.le_refl _⟩, ⟨by (with_reducible repeat (first | apply Kd.R_alloc | apply Kd.R_drewN | apply Kd.R_drew)); exact HO_5.out⟩, ⟨by (with_reducible repeat (first | refine blk_drewN ?_ _ | refine blk_drew ?_ | refine blk_alloc ?_ _)); exact BK277.out⟩, ⟨by repeat (first | (with_reducible first | exact HB.out | apply below_alloc | apply pw_below_drewN | apply below_drew1 | refine below_set ?_ GE277.out) | exact HB.out)⟩⟩
     case rest =>
      clear HC9
      obtain ⟨kq, x26_8, rfl, HA, HJ8, HO_5, BK277, HB⟩ := hcut
      cases kq with
      | zero => exact absurd HA.out (by simp [billetlaw05_Flow.j1])
      | succ kj8 =>
       have H := HA.out
       clear HA
       simp only [billetlaw05_Flow.j1] at H
       by_cases c11 : x26_8 = true
       ·subst c11
        have H1 : (if 0 ≤ a0_0 then (if (a0_0 : Int).toNat ≤ 281474976710656 then ((some (List.replicate (a0_0 : Int).toNat false : List Bool)).bind fun y281 => (if 0 < (y281.length : Int) then (if 0 ≤ x6_1 then (if x6_1 < (l1.length : Int) then ((billetlaw05_pick.f (rd l1 x6_1) 1048576).bind fun t286 => (billetlaw05_Flow.l1 kj8 l1 x5_1 x6_1 ([] : List Int) (y281.set (0 : Int).toNat true) 0 t286 a0_0 l0_1)) else (none)) else (none)) else (none))) else (none)) else (none)) = some r := by rw [if_pos rfl] at H; exact H
        clear H
        have H := H1
        clear H1
        by_cases c12 : 0 ≤ a0_0
        ·rw [if_pos c12] at H
         have c12b0 := eq_true c12
         have c12b1 : decide (0 ≤ a0_0) = true := decide_eq_true c12
         clear c12
         by_cases c13 : (a0_0 : Int).toNat ≤ 281474976710656
         ·rw [if_pos c13] at H
          have c13b0 := eq_true c13
          have c13b1 : decide ((a0_0 : Int).toNat ≤ 281474976710656) = true := decide_eq_true c13
          clear c13
          obtain ⟨y281, hy281⟩ : ∃ y_ : List Bool, y_ = (List.replicate (a0_0 : Int).toNat false) := ⟨_, rfl⟩
          replace H : (if 0 < (y281.length : Int) then (if 0 ≤ x6_1 then (if x6_1 < (l1.length : Int) then ((billetlaw05_pick.f (rd l1 x6_1) 1048576).bind fun t286 => (billetlaw05_Flow.l1 kj8 l1 x5_1 x6_1 ([] : List Int) (y281.set (0 : Int).toNat true) 0 t286 a0_0 l0_1)) else (none)) else (none)) else (none)) = some r := by first | (rw [hy281]; with_reducible exact H) | (have H2_ := (Option.bind_some _ _).symm.trans H; rw [hy281]; with_reducible exact H2_) | (have H2_ := (Option.bind_some _ _).symm.trans H; with_reducible exact H2_) | with_reducible exact H | (rw [hy281]; exact H) | exact H
          have Ny281 := Aside0.mk hy281
          clear hy281
          by_cases c14 : 0 < (y281.length : Int)
          ·rw [if_pos c14] at H
           have c14b0 : decide (0 < (y281.length : Int)) = true := decide_eq_true c14
           have c14b1 : decide (0 < y281.length) = true := decide_eq_true (by omega)
           clear c14
           obtain ⟨y284, hy284⟩ : ∃ y_ : List Bool, y_ = (y281.set (0 : Int).toNat true) := ⟨_, rfl⟩
           replace H : (if 0 ≤ x6_1 then (if x6_1 < (l1.length : Int) then ((billetlaw05_pick.f (rd l1 x6_1) 1048576).bind fun t286 => (billetlaw05_Flow.l1 kj8 l1 x5_1 x6_1 ([] : List Int) y284 0 t286 a0_0 l0_1)) else (none)) else (none)) = some r := by first | (rw [hy284]; with_reducible exact H) | (have H2_ := (Option.bind_some _ _).symm.trans H; rw [hy284]; with_reducible exact H2_) | (have H2_ := (Option.bind_some _ _).symm.trans H; with_reducible exact H2_) | with_reducible exact H | (rw [hy284]; exact H) | exact H
           have Ny284 := Aside0.mk hy284
           clear hy284
           by_cases c16 : 0 ≤ x6_1
           ·rw [if_pos c16] at H
            have c16b0 : decide (0 ≤ x6_1) = true := decide_eq_true c16
            clear c16
            by_cases c17 : x6_1 < (l1.length : Int)
            ·rw [if_pos c17] at H
             have c17b0 : decide (x6_1 < (l1.length : Int)) = true := decide_eq_true c17
             clear c17
             replace H := Option.bind_eq_some_iff.mp H
             obtain ⟨t286, A180, H⟩ := H
             replace H : (billetlaw05_Flow.l1 kj8 l1 x5_1 x6_1 ([] : List Int) y284 0 t286 a0_0 l0_1) = some r := H
             have A18 := Aside0.mk A180
             clear A180
             have HC19 := Aside0.mk H
             clear H
             have hcz20_0 : wc.cell? ⟨gb277, 0, none⟩ = some (.int .i64 a0_0) := (blk_cell BK277.out 0).trans rfl
             have hcz20_1 : wc.cell? ⟨gb277, 1, none⟩ = some (.slice A0_1 l0_1.length c0_1) := (blk_cell BK277.out 1).trans rfl
             have hfz20_0 := blk_frozen BK277.out 0
             have hfz20_1 := blk_frozen BK277.out 1
             go_upto_block 2 with (first | ((with_reducible refine gate_dst (N := 31) rfl ?_); refine Kd.R_make Kd.bool _ 4 rfl (N := 31) rfl 26 _ _ rfl a0_0 rfl rfl Try.underlying26 (.bool false) 1 info4 rfl (by decide) (by omega) false (ok := fun _ => True) (okp := fun _ => True) rfl (fun _ hk => hk) trivial (of_decide_eq_true (by first | (with_reducible assumption) | assumption)) (Nat.le_trans (Nat.mul_le_mul_right _ (of_decide_eq_true (by first | (with_reducible assumption) | assumption) : a0_0.toNat ≤ 281474976710656)) (by omega)) (Below.refl _ _) (Nat.le_refl _) ?_; intro v282 w21 ho22 hb hg_ hnew_; clear hg_ hnew_; (first | rw [← Ny281.out] at ho22 | (simp only [Int.reduceToNat] at ho22; rw [← Ny281.out] at ho22)); have n0_ := Aside0.mk (Kd.R_below (by (with_reducible repeat (first | apply Kd.R_alloc | apply Kd.R_drewN | apply Kd.R_drew)); exact HO_5.out) hb); have n1_ := Aside0.mk (Kd.R_lower ho22 (below_size (by repeat (first | (with_reducible first | exact HB.out | apply below_alloc | apply pw_below_drewN | apply below_drew1 | refine below_set ?_ GE277.out) | exact HB.out)))); have n2_ := Aside0.mk (blk_below (g := gb277) (o := .cells #[.int .i64 a0_0, .slice A0_1 l0_1.length c0_1] 24 (0, 0)) (by (with_reducible repeat (first | refine blk_drewN ?_ _ | refine blk_drew ?_ | refine blk_alloc ?_ _)); exact BK277.out) hb); have n3_ := Aside0.mk (below_step (by repeat (first | (with_reducible first | exact HB.out | apply below_alloc | apply pw_below_drewN | apply below_drew1 | refine below_set ?_ GE277.out) | exact HB.out)) hb); clear HO_5; clear BK277; clear HB; have HO_5 := n0_; have HO283 := n1_; have BK277 := n2_; have HB := n3_; clear n0_ n1_ n2_ n3_; clear hb ho22; have p15 : 0 ≤ (0 : Int) := (by omega); have q15 : (0 : Int) < ((y281.length : Int) : Int) := of_decide_eq_true (by first | (with_reducible assumption) | assumption); have qi15 : (0 < y281.length) = True := eq_true (by omega); obtain ⟨go15, co15, eo15, gb15, gl15, cl15, HG15⟩ := Kd.R_form HO283.out (by omega); (first | cases eo15 | (injection eo15 with ea_ en_ ec_; (first | subst ea_ | (injection ea_ with ea_; subst ea_)); subst ec_; clear en_)); have GB15 := Aside0.mk gb15; have GG15 := Aside0.mk HG15; clear gb15 gl15 HG15; obtain ⟨hx15_0, hf15_0⟩ := Kd.R_celln false HO283.out (0 : Int) p15 q15; (try rw [show ((0 : Int)).toNat = 0 from rfl] at hx15_0); (try simp only [Nat.reduceMul, Nat.zero_mul, Nat.zero_add, Nat.reduceAdd] at hx15_0); (try rw [show ((0 : Int)).toNat = 0 from rfl] at hf15_0); (try simp only [Nat.reduceMul, Nat.zero_mul, Nat.zero_add, Nat.reduceAdd] at hf15_0); replace p15 := eq_true p15; replace q15 := eq_true q15; obtain ⟨hy23_, hz23_⟩ := Kd.R_celln false HO283.out (0 : Int) (by omega) (of_decide_eq_true (by first | (with_reducible assumption) | assumption)); (try simp only [Int.reduceToNat, Int.toNat_zero, Int.toNat_ofNat, Nat.reduceMul, Nat.zero_mul, Nat.zero_add] at hy23_ hz23_); (try rw [show ((0 : Int)).toNat = 0 from rfl] at hy23_); (try rw [show ((0 : Int)).toNat = 0 from rfl] at hz23_); have HP23 := Kd.R_putg HO283.out (0 : Int) true) | ((with_reducible refine gate_store (t := 4) (p := 33) rfl ?_); (try (rw [drewN_self w21]; generalize hq_ : World.drewN w21 _ = w21; have n0_ := Aside0.mk (Kd.R_at hq_ HO_5.out); have n1_ := Aside0.mk (Kd.R_at hq_ HO283.out); have n2_ := Aside0.mk (blk_at hq_ BK277.out); have n3_ := Aside0.mk (below_at hq_ HB.out); clear hq_ HO_5 HO283 BK277 HB; have HO_5 := n0_; have HO283 := n1_; have BK277 := n2_; have HB := n3_; clear n0_ n1_ n2_ n3_; (try (obtain ⟨hy23_, hz23_⟩ := Kd.R_celln false HO283.out (0 : Int) (by omega) (of_decide_eq_true (by first | (with_reducible assumption) | assumption)))); (try (try simp only [Int.reduceToNat, Int.toNat_zero, Int.toNat_ofNat, Nat.reduceMul, Nat.zero_mul, Nat.zero_add] at hy23_ hz23_)); (try (try rw [show ((0 : Int)).toNat = 0 from rfl] at hy23_)); (try (try rw [show ((0 : Int)).toNat = 0 from rfl] at hz23_)); (try (have HP23 := Kd.R_putg HO283.out (0 : Int) true)))); refine store_event (t := 4) (p := 33) (v := ?vo_w24) (w1 := (w21.setCell ⟨go15, (0 : Int).toNat, none⟩ (.bool true))) ?hg ?ho ?hn ?hr ?_; (case ho => rfl); (case hg => rfl); (case hn => rfl); (case hr => first | (go_simp; done) | (go_simp; rfl)); intro w24 hw; have hg : w21.grownBy w24 (some go15) := (by rw [hw]; exact HP23.2); have hp_ : Kd.R Kd.bool 4 w24 w.heap.size (fun _ => True) (.slice (some ⟨go15, 0, none⟩) y281.length co15) y284 := (by rw [hw, Ny284.out]; exact HP23.1); clear HP23; have n0_ := Aside0.mk (Kd.R_over' (v := (.slice (some ⟨go15, 0, none⟩) y281.length co15)) (by (with_reducible repeat (first | apply Kd.R_alloc | apply Kd.R_drewN | apply Kd.R_drew)); exact HO_5.out) (Kd.R_typed HO283.out) (by decide) hg); have n1_ := Aside0.mk (blk_grown (g := gb277) (o := .cells #[.int .i64 a0_0, .slice A0_1 l0_1.length c0_1] 24 (0, 0)) (by (with_reducible repeat (first | refine blk_drewN ?_ _ | refine blk_drew ?_ | refine blk_alloc ?_ _)); exact BK277.out) hg (Kd.R_ne HO283.out BK277.out (by decide))); have n2_ := Aside0.mk (hp_); have n3_ := Aside0.mk ((by rw [hw]; exact below_set (HB.out) GB15.out : Below w.heap.size w w24)); clear HO_5; clear BK277; clear HO283; clear HB; have HO_5 := n0_; have BK277 := n1_; have HO283 := n2_; have HB := n3_; clear n0_ n1_ n2_ n3_; clear hg hw hp_; have p285 : 0 ≤ (x6_1 : Int) := of_decide_eq_true (by first | (with_reducible assumption) | assumption); have q285 : x6_1 < (l1.length : Int) := of_decide_eq_true (by first | (with_reducible assumption) | assumption); obtain ⟨ad285, e285, hx285_0⟩ := Kd.at_int HR1.out x6_1 p285 q285; cases e285; replace hx285_0 := (HB.out.cell (World.block_lt_of_cell? w _ hx285_0)).trans hx285_0; replace p285 := eq_true p285; replace q285 := eq_true q285) | (go_at_call 32; (with_reducible refine (billetlaw05_pick.calls (rd l1 x6_1) 1048576 t286 _ A18.out).mono ?_); rintro e w' ⟨rfl, ⟨nd, rfl⟩⟩; (try first | exact ⟨rfl, _, World.drewN_drewN _ _ _⟩ | exact ⟨rfl, _, Eq.trans (World.drewN_drewN _ _ _) (congrArg (World.drewN _) (Nat.add_assoc _ _ _))⟩)))
             repeat (go_quiet (fail); go_upto_block 2 with (first | ((with_reducible refine gate_dst (N := 31) rfl ?_); refine Kd.R_make Kd.bool _ 4 rfl (N := 31) rfl 26 _ _ rfl a0_0 rfl rfl Try.underlying26 (.bool false) 1 info4 rfl (by decide) (by omega) false (ok := fun _ => True) (okp := fun _ => True) rfl (fun _ hk => hk) trivial (of_decide_eq_true (by first | (with_reducible assumption) | assumption)) (Nat.le_trans (Nat.mul_le_mul_right _ (of_decide_eq_true (by first | (with_reducible assumption) | assumption) : a0_0.toNat ≤ 281474976710656)) (by omega)) (Below.refl _ _) (Nat.le_refl _) ?_; intro v282 w21 ho22 hb hg_ hnew_; clear hg_ hnew_; (first | rw [← Ny281.out] at ho22 | (simp only [Int.reduceToNat] at ho22; rw [← Ny281.out] at ho22)); have n0_ := Aside0.mk (Kd.R_below (by (with_reducible repeat (first | apply Kd.R_alloc | apply Kd.R_drewN | apply Kd.R_drew)); exact HO_5.out) hb); have n1_ := Aside0.mk (Kd.R_lower ho22 (below_size (by repeat (first | (with_reducible first | exact HB.out | apply below_alloc | apply pw_below_drewN | apply below_drew1 | refine below_set ?_ GE277.out) | exact HB.out)))); have n2_ := Aside0.mk (blk_below (g := gb277) (o := .cells #[.int .i64 a0_0, .slice A0_1 l0_1.length c0_1] 24 (0, 0)) (by (with_reducible repeat (first | refine blk_drewN ?_ _ | refine blk_drew ?_ | refine blk_alloc ?_ _)); exact BK277.out) hb); have n3_ := Aside0.mk (below_step (by repeat (first | (with_reducible first | exact HB.out | apply below_alloc | apply pw_below_drewN | apply below_drew1 | refine below_set ?_ GE277.out) | exact HB.out)) hb); clear HO_5; clear BK277; clear HB; have HO_5 := n0_; have HO283 := n1_; have BK277 := n2_; have HB := n3_; clear n0_ n1_ n2_ n3_; clear hb ho22; have p15 : 0 ≤ (0 : Int) := (by omega); have q15 : (0 : Int) < ((y281.length : Int) : Int) := of_decide_eq_true (by first | (with_reducible assumption) | assumption); have qi15 : (0 < y281.length) = True := eq_true (by omega); obtain ⟨go15, co15, eo15, gb15, gl15, cl15, HG15⟩ := Kd.R_form HO283.out (by omega); (first | cases eo15 | (injection eo15 with ea_ en_ ec_; (first | subst ea_ | (injection ea_ with ea_; subst ea_)); subst ec_; clear en_)); have GB15 := Aside0.mk gb15; have GG15 := Aside0.mk HG15; clear gb15 gl15 HG15; obtain ⟨hx15_0, hf15_0⟩ := Kd.R_celln false HO283.out (0 : Int) p15 q15; (try rw [show ((0 : Int)).toNat = 0 from rfl] at hx15_0); (try simp only [Nat.reduceMul, Nat.zero_mul, Nat.zero_add, Nat.reduceAdd] at hx15_0); (try rw [show ((0 : Int)).toNat = 0 from rfl] at hf15_0); (try simp only [Nat.reduceMul, Nat.zero_mul, Nat.zero_add, Nat.reduceAdd] at hf15_0); replace p15 := eq_true p15; replace q15 := eq_true q15; obtain ⟨hy23_, hz23_⟩ := Kd.R_celln false HO283.out (0 : Int) (by omega) (of_decide_eq_true (by first | (with_reducible assumption) | assumption)); (try simp only [Int.reduceToNat, Int.toNat_zero, Int.toNat_ofNat, Nat.reduceMul, Nat.zero_mul, Nat.zero_add] at hy23_ hz23_); (try rw [show ((0 : Int)).toNat = 0 from rfl] at hy23_); (try rw [show ((0 : Int)).toNat = 0 from rfl] at hz23_); have HP23 := Kd.R_putg HO283.out (0 : Int) true) | ((with_reducible refine gate_store (t := 4) (p := 33) rfl ?_); (try (rw [drewN_self w21]; generalize hq_ : World.drewN w21 _ = w21; have n0_ := Aside0.mk (Kd.R_at hq_ HO_5.out); have n1_ := Aside0.mk (Kd.R_at hq_ HO283.out); have n2_ := Aside0.mk (blk_at hq_ BK277.out); have n3_ := Aside0.mk (below_at hq_ HB.out); clear hq_ HO_5 HO283 BK277 HB; have HO_5 := n0_; have HO283 := n1_; have BK277 := n2_; have HB := n3_; clear n0_ n1_ n2_ n3_; (try (obtain ⟨hy23_, hz23_⟩ := Kd.R_celln false HO283.out (0 : Int) (by omega) (of_decide_eq_true (by first | (with_reducible assumption) | assumption)))); (try (try simp only [Int.reduceToNat, Int.toNat_zero, Int.toNat_ofNat, Nat.reduceMul, Nat.zero_mul, Nat.zero_add] at hy23_ hz23_)); (try (try rw [show ((0 : Int)).toNat = 0 from rfl] at hy23_)); (try (try rw [show ((0 : Int)).toNat = 0 from rfl] at hz23_)); (try (have HP23 := Kd.R_putg HO283.out (0 : Int) true)))); refine store_event (t := 4) (p := 33) (v := ?vo_w24) (w1 := (w21.setCell ⟨go15, (0 : Int).toNat, none⟩ (.bool true))) ?hg ?ho ?hn ?hr ?_; (case ho => rfl); (case hg => rfl); (case hn => rfl); (case hr => first | (go_simp; done) | (go_simp; rfl)); intro w24 hw; have hg : w21.grownBy w24 (some go15) := (by rw [hw]; exact HP23.2); have hp_ : Kd.R Kd.bool 4 w24 w.heap.size (fun _ => True) (.slice (some ⟨go15, 0, none⟩) y281.length co15) y284 := (by rw [hw, Ny284.out]; exact HP23.1); clear HP23; have n0_ := Aside0.mk (Kd.R_over' (v := (.slice (some ⟨go15, 0, none⟩) y281.length co15)) (by (with_reducible repeat (first | apply Kd.R_alloc | apply Kd.R_drewN | apply Kd.R_drew)); exact HO_5.out) (Kd.R_typed HO283.out) (by decide) hg); have n1_ := Aside0.mk (blk_grown (g := gb277) (o := .cells #[.int .i64 a0_0, .slice A0_1 l0_1.length c0_1] 24 (0, 0)) (by (with_reducible repeat (first | refine blk_drewN ?_ _ | refine blk_drew ?_ | refine blk_alloc ?_ _)); exact BK277.out) hg (Kd.R_ne HO283.out BK277.out (by decide))); have n2_ := Aside0.mk (hp_); have n3_ := Aside0.mk ((by rw [hw]; exact below_set (HB.out) GB15.out : Below w.heap.size w w24)); clear HO_5; clear BK277; clear HO283; clear HB; have HO_5 := n0_; have BK277 := n1_; have HO283 := n2_; have HB := n3_; clear n0_ n1_ n2_ n3_; clear hg hw hp_; have p285 : 0 ≤ (x6_1 : Int) := of_decide_eq_true (by first | (with_reducible assumption) | assumption); have q285 : x6_1 < (l1.length : Int) := of_decide_eq_true (by first | (with_reducible assumption) | assumption); obtain ⟨ad285, e285, hx285_0⟩ := Kd.at_int HR1.out x6_1 p285 q285; cases e285; replace hx285_0 := (HB.out.cell (World.block_lt_of_cell? w _ hx285_0)).trans hx285_0; replace p285 := eq_true p285; replace q285 := eq_true q285) | (go_at_call 32; (with_reducible refine (billetlaw05_pick.calls (rd l1 x6_1) 1048576 t286 _ A18.out).mono ?_); rintro e w' ⟨rfl, ⟨nd, rfl⟩⟩; (try first | exact ⟨rfl, _, World.drewN_drewN _ _ _⟩ | exact ⟨rfl, _, Eq.trans (World.drewN_drewN _ _ _) (congrArg (World.drewN _) (Nat.add_assoc _ _ _))⟩))))
             (try simp only [Act.put, List.setIfInBounds_toArray, List.set_cons_zero, List.set_cons_succ])
             go_cut [7, 9] (fun v7 v9 wc => ∃ (kq : Nat) (x7_18 : List Int) (x9_18 : Int), v9 = .int .i64 x9_18 ∧ Aside0 (billetlaw05_Flow.j4 kq l1 x5_1 x6_1 x7_18 x9_18 a0_0 l0_1 = some r) ∧ Aside0 (kq ≤ kj8) ∧ Aside0 (Kd.R (Kd.int .i64) 3 wc w.heap.size (fun k_ => some k_ ≠ (v7 : Value).ownBlock) v279 x5_1) ∧ Aside0 (Kd.R (Kd.int .i64) 3 wc w.heap.size (fun k_ => some k_ ≠ (v279 : Value).ownBlock) v7 x7_18) ∧ Aside0 (wc.heap[gb277]? = some (.cells #[.int .i64 a0_0, (.slice A0_1 l0_1.length c0_1)] 24 (0, 0))) ∧ Aside0 (Below w.heap.size w wc))
             case first =>
              have H := HC19.out
              clear HC19
              have H' := Aside0.mk H
              clear H
              go_wp2
              repeat (go_quiet (fail); try go_wp2)
              go_loopg [7, 9, 10] kj8 (fun kq v7 v9 v10 w' => ∃ (x7_3 : List Int) (x8_3 : List Bool) (x9_3 : Int) (x10_3 : Int), v9 = .int .i64 x9_3 ∧ v10 = .int .i64 x10_3 ∧ Aside0 (billetlaw05_Flow.l1 kq l1 x5_1 x6_1 x7_3 x8_3 x9_3 x10_3 a0_0 l0_1 = some r) ∧ Aside0 (kq ≤ kj8) ∧ Aside0 (Kd.R (Kd.int .i64) 3 w' w.heap.size (fun k_ => some k_ ≠ (v7 : Value).ownBlock) v279 x5_1) ∧ Aside0 (Kd.R (Kd.int .i64) 3 w' w.heap.size (fun k_ => some k_ ≠ (v279 : Value).ownBlock) v7 x7_3) ∧ Aside0 (Kd.R Kd.bool 4 w' w.heap.size (fun _ => True) (.slice (some ⟨go15, 0, none⟩) y281.length co15) x8_3) ∧ Aside0 (w'.heap[gb277]? = some (.cells #[.int .i64 a0_0, (.slice A0_1 l0_1.length c0_1)] 24 (0, 0))) ∧ Aside0 (Below w.heap.size w w'))
              case atStart => exact ⟨(([] : List Int)), (y284), (0), (t286), (by first | rfl | (simp; done) | (simp [*]; done)), (by first | rfl | (simp; done) | (simp [*]; done)), H', ⟨Nat.le_refl _⟩, ⟨by (with_reducible repeat (first | apply Kd.R_alloc | apply Kd.R_drewN | apply Kd.R_drew)); exact Kd.R_mono HO_5.out (fun _ hk => (by simp [Value.ownBlock]))⟩, ⟨by first | exact Kd.R_nil _ _ _ _ _ | exact Kd.N_nil _ _ _ _ _ | exact Kd.V_nil _ _ _ _ _ | exact Kd.Q_nil _ _ _ _ _ | exact Kd.S_nil _ _ _ _ _⟩, ⟨by (with_reducible repeat (first | apply Kd.R_alloc | apply Kd.R_drewN | apply Kd.R_drew)); exact HO283.out⟩, ⟨by (with_reducible repeat (first | refine blk_drewN ?_ _ | refine blk_drew ?_ | refine blk_alloc ?_ _)); exact BK277.out⟩, ⟨by repeat (first | (with_reducible first | exact HB.out | apply below_alloc | apply pw_below_drewN | apply below_drew1 | refine below_set ?_ GE277.out) | exact HB.out)⟩⟩
              case round =>
               clear H'
               obtain ⟨x7_3, x8_3, x9_3, x10_3, rfl, rfl, HA, HK3, HO_5, HO_7, HO_8, BK277, HB⟩ := hrel
               have hl8_3 := (Kd.R_reads' HO_8.out).1
               rw [hl8_3] at HO_8
               (try simp only [hl8_3])
               (try simp only [hl8_3] at BK277)
               (try simp only [hl8_3] at HO_5)
               (try simp only [hl8_3] at HO_7)
               cases gk with
               | zero => exact absurd HA.out (by simp [billetlaw05_Flow.l1])
               | succ k3 =>
                have H := HA.out
                clear HA
                simp only [billetlaw05_Flow.l1] at H
                by_cases c25 : x9_3 = 1
                ·rw [if_pos c25] at H
                 have c25b0 : (x9_3 == 1) = true := beq_iff_eq.mpr c25
                 have c25b1 : (x9_3 != 1) = false := bne_eq_false_iff_eq.mpr c25
                 clear c25
                 (first | rw [c25b0] | (simp only [i64_w, i32_w]; rw [c25b0]) | skip)
                 have H' := Aside0.mk H
                 clear H
                 go_wp2
                 repeat (go_quiet (fail); try go_wp2)
                 (try simp only [← hl8_3])
                 go_meet
                 case rel => exact ⟨_, (x7_3), (x9_3), (by first | rfl | (simp; done) | (simp [*]; done)), H', ⟨by have := HK1.out; have := HJ8.out; have := HK3.out; first | omega | exact Nat.le_refl _⟩, ⟨by (try simp only [hl8_3]); (with_reducible repeat (first | apply Kd.R_alloc | apply Kd.R_drewN | apply Kd.R_drew)); exact HO_5.out⟩, ⟨by (try simp only [hl8_3]); (with_reducible repeat (first | apply Kd.R_alloc | apply Kd.R_drewN | apply Kd.R_drew)); exact HO_7.out⟩, ⟨by (try simp only [hl8_3]); (with_reducible repeat (first | refine blk_drewN ?_ _ | refine blk_drew ?_ | refine blk_alloc ?_ _)); exact BK277.out⟩, ⟨by repeat (first | (with_reducible first | exact HB.out | apply below_alloc | apply pw_below_drewN | apply below_drew1 | refine below_set ?_ GE277.out) | exact HB.out)⟩⟩
                ·rw [if_neg c25] at H
                 have c25b0 : (x9_3 == 1) = false := beq_eq_false_iff_ne.mpr c25
                 have c25b1 : (x9_3 != 1) = true := bne_iff_ne.mpr c25
                 (first | rw [c25b0] | (simp only [i64_w, i32_w]; rw [c25b0]) | skip)
                 have H' := Aside0.mk H
                 clear H
                 go_wp2
                 repeat (go_quiet (fail); try go_wp2)
                 go_loopg [11, 12] k3 (fun kq v11 v12 w' => ∃ (x11_4 : List Int) (x12_4 : Int), v12 = .int .i64 x12_4 ∧ Aside0 (billetlaw05_Flow.l2 kq l1 x5_1 x6_1 x7_3 x8_3 x9_3 x10_3 x11_4 x12_4 a0_0 l0_1 = some r) ∧ Aside0 (kq ≤ k3) ∧ Aside0 (Kd.R (Kd.int .i64) 3 w' w.heap.size (fun k_ => some k_ ≠ (u7 : Value).ownBlock ∧ some k_ ≠ (v11 : Value).ownBlock) v279 x5_1) ∧ Aside0 (Kd.R (Kd.int .i64) 3 w' w.heap.size (fun k_ => some k_ ≠ (v279 : Value).ownBlock ∧ some k_ ≠ (v11 : Value).ownBlock) u7 x7_3) ∧ Aside0 (Kd.R Kd.bool 4 w' w.heap.size (fun _ => True) (.slice (some ⟨go15, 0, none⟩) x8_3.length co15) x8_3) ∧ Aside0 (Kd.R (Kd.int .i64) 3 w' w.heap.size (fun k_ => some k_ ≠ (v279 : Value).ownBlock ∧ some k_ ≠ (u7 : Value).ownBlock) v11 x11_4) ∧ Aside0 (w'.heap[gb277]? = some (.cells #[.int .i64 a0_0, (.slice A0_1 l0_1.length c0_1)] 24 (0, 0))) ∧ Aside0 (Below w.heap.size w w'))
                 case atStart => exact ⟨(([] : List Int)), (0), (by first | rfl | (simp; done) | (simp [*]; done)), H', ⟨Nat.le_refl _⟩, ⟨by (try simp only [hl8_3]); (with_reducible repeat (first | apply Kd.R_alloc | apply Kd.R_drewN | apply Kd.R_drew)); exact Kd.R_mono HO_5.out (fun _ hk => ⟨hk, (by simp [Value.ownBlock])⟩)⟩, ⟨by (try simp only [hl8_3]); (with_reducible repeat (first | apply Kd.R_alloc | apply Kd.R_drewN | apply Kd.R_drew)); exact Kd.R_mono HO_7.out (fun _ hk => ⟨hk, (by simp [Value.ownBlock])⟩)⟩, ⟨by (try simp only [hl8_3]); (with_reducible repeat (first | apply Kd.R_alloc | apply Kd.R_drewN | apply Kd.R_drew)); exact HO_8.out⟩, ⟨by (try simp only [hl8_3]); first | exact Kd.R_nil _ _ _ _ _ | exact Kd.N_nil _ _ _ _ _ | exact Kd.V_nil _ _ _ _ _ | exact Kd.Q_nil _ _ _ _ _ | exact Kd.S_nil _ _ _ _ _⟩, ⟨by (try simp only [hl8_3]); (with_reducible repeat (first | refine blk_drewN ?_ _ | refine blk_drew ?_ | refine blk_alloc ?_ _)); exact BK277.out⟩, ⟨by repeat (first | (with_reducible first | exact HB.out | apply below_alloc | apply pw_below_drewN | apply below_drew1 | refine below_set ?_ GE277.out) | exact HB.out)⟩⟩
                 case round =>
                  clear H'
                  obtain ⟨x11_4, x12_4, rfl, HA, HK4, HO_5, HO_7, HO_8, HO_11, BK277, HB⟩ := hrel
                  cases gk with
                  | zero => exact absurd HA.out (by simp [billetlaw05_Flow.l2])
                  | succ k4 =>
                   have H := HA.out
                   clear HA
                   simp only [billetlaw05_Flow.l2] at H
                   by_cases c26 : x12_4 < (l0_1.length : Int)
                   ·rw [if_pos c26] at H
                    have c26b0 : decide (x12_4 < (l0_1.length : Int)) = true := decide_eq_true c26
                    clear c26
                    by_cases c27 : 0 ≤ x12_4
                    ·rw [if_pos c27] at H
                     have c27b0 : decide (0 ≤ x12_4) = true := decide_eq_true c27
                     clear c27
                     by_cases c28 : ((rd_T41 l0_1 x12_4).f0) = x9_3
                     ·rw [if_pos c28] at H
                      have c28b0 : (((rd_T41 l0_1 x12_4).f0) == x9_3) = true := beq_iff_eq.mpr c28
                      have c28b1 : (((rd_T41 l0_1 x12_4).f0) != x9_3) = false := bne_eq_false_iff_eq.mpr c28
                      clear c28
                      by_cases c29 : 0 ≤ ((rd_T41 l0_1 x12_4).f1)
                      ·rw [if_pos c29] at H
                       have c29b0 : decide (0 ≤ ((rd_T41 l0_1 x12_4).f1)) = true := decide_eq_true c29
                       clear c29
                       by_cases c30 : ((rd_T41 l0_1 x12_4).f1) < (x8_3.length : Int)
                       ·rw [if_pos c30] at H
                        have c30b0 : decide (((rd_T41 l0_1 x12_4).f1) < (x8_3.length : Int)) = true := decide_eq_true c30
                        clear c30
                        obtain ⟨bq31, hbq31⟩ : ∃ b_ : Bool, b_ = (rdOf false x8_3 ((rd_T41 l0_1 x12_4).f1)) := ⟨_, rfl⟩
                        replace H : (if (bq31 = true) then (billetlaw05_Flow.l2 k4 l1 x5_1 x6_1 x7_3 x8_3 x9_3 x10_3 x11_4 (wrap64 (x12_4 + 1)) a0_0 l0_1) else (if x12_4 < (x5_1.length : Int) then (if (rd x5_1 x12_4) < ((rd_T41 l0_1 x12_4).f2) then (if x11_4.length < 17592186044416 then (billetlaw05_Flow.l2 k4 l1 x5_1 x6_1 x7_3 x8_3 x9_3 x10_3 (x11_4 ++ [x12_4]) (wrap64 (x12_4 + 1)) a0_0 l0_1) else (none)) else (billetlaw05_Flow.l2 k4 l1 x5_1 x6_1 x7_3 x8_3 x9_3 x10_3 x11_4 (wrap64 (x12_4 + 1)) a0_0 l0_1)) else (none))) = some r := by rw [← hbq31] at H; exact H
                        have Nbq31 := Aside0.mk hbq31
                        clear hbq31
                        by_cases c32 : (bq31 = true)
                        ·subst c32
                         have H1 : (billetlaw05_Flow.l2 k4 l1 x5_1 x6_1 x7_3 x8_3 x9_3 x10_3 x11_4 (wrap64 (x12_4 + 1)) a0_0 l0_1) = some r := by rw [if_pos rfl] at H; exact H
                         clear H
                         have H := H1
                         clear H1
                         have H' := Aside0.mk H
                         clear H
                         have hcz33_0 : wr.cell? ⟨gb277, 0, none⟩ = some (.int .i64 a0_0) := (blk_cell BK277.out 0).trans rfl
                         have hcz33_1 : wr.cell? ⟨gb277, 1, none⟩ = some (.slice A0_1 l0_1.length c0_1) := (blk_cell BK277.out 1).trans rfl
                         have hfz33_0 := blk_frozen BK277.out 0
                         have hfz33_1 := blk_frozen BK277.out 1
                         have p287 : 0 ≤ (x12_4 : Int) := of_decide_eq_true (by first | (with_reducible assumption) | assumption)
                         have q287 : x12_4 < (l0_1.length : Int) := of_decide_eq_true (by first | (with_reducible assumption) | assumption)
                         obtain ⟨ad287, e287, hx287_0, hx287_1, hx287_2⟩ := at_T41 HR0_1.out x12_4 p287 q287
                         cases e287
                         replace hx287_0 := (HB.out.cell (World.block_lt_of_cell? w _ hx287_0)).trans hx287_0
                         replace hx287_1 := (HB.out.cell (World.block_lt_of_cell? w _ hx287_1)).trans hx287_1
                         replace hx287_2 := (HB.out.cell (World.block_lt_of_cell? w _ hx287_2)).trans hx287_2
                         replace p287 := eq_true p287
                         replace q287 := eq_true q287
                         have p288 : 0 ≤ (x12_4 : Int) := of_decide_eq_true (by first | (with_reducible assumption) | assumption)
                         have q288 : x12_4 < (l0_1.length : Int) := of_decide_eq_true (by first | (with_reducible assumption) | assumption)
                         obtain ⟨ad288, e288, hx288_0, hx288_1, hx288_2⟩ := at_T41 HR0_1.out x12_4 p288 q288
                         obtain rfl : ad287 = ad288 := (by injection e288)
                         replace hx288_0 := (HB.out.cell (World.block_lt_of_cell? w _ hx288_0)).trans hx288_0
                         replace hx288_1 := (HB.out.cell (World.block_lt_of_cell? w _ hx288_1)).trans hx288_1
                         replace hx288_2 := (HB.out.cell (World.block_lt_of_cell? w _ hx288_2)).trans hx288_2
                         replace p288 := eq_true p288
                         replace q288 := eq_true q288
                         have p289 : 0 ≤ (((rd_T41 l0_1 x12_4).f1) : Int) := of_decide_eq_true (by first | (with_reducible assumption) | assumption)
                         have q289 : ((rd_T41 l0_1 x12_4).f1) < (x8_3.length : Int) := of_decide_eq_true (by first | (with_reducible assumption) | assumption)
                         obtain ⟨ad289, e289, hx289_0⟩ := Kd.at_bool (Kd.R_reads' HO_8.out).2.2 ((rd_T41 l0_1 x12_4).f1) p289 q289
                         (try rw [← Nbq31.out] at hx289_0)
                         obtain rfl : (⟨go15, 0, none⟩ : Addr) = ad289 := (by injection e289)
                         (first | simp only [add_plain] at hx289_0 | simp only [add_at] at hx289_0 | simp only [Addr.add, Nat.zero_add] at hx289_0 | skip)
                         replace p289 := eq_true p289
                         replace q289 := eq_true q289
                         go_wp2
                         repeat (go_quiet (fail); try go_wp2)
                         go_roundg k4
                         case measure => have := HK1.out; have := HJ8.out; have := HK3.out; have := HK4.out; omega
                         case rel => exact ⟨(x11_4), (wrap64 (x12_4 + 1)), (by first | rfl | (simp; done) | (simp [*]; done)), H', ⟨by have := HK1.out; have := HJ8.out; have := HK3.out; have := HK4.out; omega⟩, ⟨by (try simp only [hl8_3]); (with_reducible repeat (first | apply Kd.R_alloc | apply Kd.R_drewN | apply Kd.R_drew)); exact HO_5.out⟩, ⟨by (try simp only [hl8_3]); (with_reducible repeat (first | apply Kd.R_alloc | apply Kd.R_drewN | apply Kd.R_drew)); exact HO_7.out⟩, ⟨by (try simp only [hl8_3]); (with_reducible repeat (first | apply Kd.R_alloc | apply Kd.R_drewN | apply Kd.R_drew)); exact HO_8.out⟩, ⟨by (try simp only [hl8_3]); (with_reducible repeat (first | apply Kd.R_alloc | apply Kd.R_drewN | apply Kd.R_drew)); exact HO_11.out⟩, ⟨by (try simp only [hl8_3]); (with_reducible repeat (first | refine blk_drewN ?_ _ | refine blk_drew ?_ | refine blk_alloc ?_ _)); exact BK277.out⟩, ⟨by repeat (first | (with_reducible first | exact HB.out | apply below_alloc | apply pw_below_drewN | apply below_drew1 | refine below_set ?_ GE277.out) | exact HB.out)⟩⟩
                        ·replace c32 := Bool.eq_false_iff.mpr c32
                         subst c32
                         have H1 : (if x12_4 < (x5_1.length : Int) then (if (rd x5_1 x12_4) < ((rd_T41 l0_1 x12_4).f2) then (if x11_4.length < 17592186044416 then (billetlaw05_Flow.l2 k4 l1 x5_1 x6_1 x7_3 x8_3 x9_3 x10_3 (x11_4 ++ [x12_4]) (wrap64 (x12_4 + 1)) a0_0 l0_1) else (none)) else (billetlaw05_Flow.l2 k4 l1 x5_1 x6_1 x7_3 x8_3 x9_3 x10_3 x11_4 (wrap64 (x12_4 + 1)) a0_0 l0_1)) else (none)) = some r := by rw [if_neg (show ¬ (false = true) by decide)] at H; exact H
                         clear H
                         have H := H1
                         clear H1
                         by_cases c34 : x12_4 < (x5_1.length : Int)
                         ·rw [if_pos c34] at H
                          have c34b0 : decide (x12_4 < (x5_1.length : Int)) = true := decide_eq_true c34
                          clear c34
                          by_cases c35 : (rd x5_1 x12_4) < ((rd_T41 l0_1 x12_4).f2)
                          ·rw [if_pos c35] at H
                           have c35b0 : decide ((rd x5_1 x12_4) < ((rd_T41 l0_1 x12_4).f2)) = true := decide_eq_true c35
                           clear c35
                           by_cases c36 : x11_4.length < 17592186044416
                           ·rw [if_pos c36] at H
                            have LMc36 := Aside0.mk c36
                            clear c36
                            obtain ⟨y292, hy292⟩ : ∃ y_ : List Int, y_ = (x11_4 ++ [x12_4]) := ⟨_, rfl⟩
                            replace H : (billetlaw05_Flow.l2 k4 l1 x5_1 x6_1 x7_3 x8_3 x9_3 x10_3 y292 (wrap64 (x12_4 + 1)) a0_0 l0_1) = some r := by first | (rw [hy292]; with_reducible exact H) | (have H2_ := (Option.bind_some _ _).symm.trans H; rw [hy292]; with_reducible exact H2_) | (have H2_ := (Option.bind_some _ _).symm.trans H; with_reducible exact H2_) | with_reducible exact H | (rw [hy292]; exact H) | exact H
                            have Ny292 := Aside0.mk hy292
                            clear hy292
                            have H' := Aside0.mk H
                            clear H
                            have hcz37_0 : wr.cell? ⟨gb277, 0, none⟩ = some (.int .i64 a0_0) := (blk_cell BK277.out 0).trans rfl
                            have hcz37_1 : wr.cell? ⟨gb277, 1, none⟩ = some (.slice A0_1 l0_1.length c0_1) := (blk_cell BK277.out 1).trans rfl
                            have hfz37_0 := blk_frozen BK277.out 0
                            have hfz37_1 := blk_frozen BK277.out 1
                            have p287 : 0 ≤ (x12_4 : Int) := of_decide_eq_true (by first | (with_reducible assumption) | assumption)
                            have q287 : x12_4 < (l0_1.length : Int) := of_decide_eq_true (by first | (with_reducible assumption) | assumption)
                            obtain ⟨ad287, e287, hx287_0, hx287_1, hx287_2⟩ := at_T41 HR0_1.out x12_4 p287 q287
                            cases e287
                            replace hx287_0 := (HB.out.cell (World.block_lt_of_cell? w _ hx287_0)).trans hx287_0
                            replace hx287_1 := (HB.out.cell (World.block_lt_of_cell? w _ hx287_1)).trans hx287_1
                            replace hx287_2 := (HB.out.cell (World.block_lt_of_cell? w _ hx287_2)).trans hx287_2
                            replace p287 := eq_true p287
                            replace q287 := eq_true q287
                            have p288 : 0 ≤ (x12_4 : Int) := of_decide_eq_true (by first | (with_reducible assumption) | assumption)
                            have q288 : x12_4 < (l0_1.length : Int) := of_decide_eq_true (by first | (with_reducible assumption) | assumption)
                            obtain ⟨ad288, e288, hx288_0, hx288_1, hx288_2⟩ := at_T41 HR0_1.out x12_4 p288 q288
                            obtain rfl : ad287 = ad288 := (by injection e288)
                            replace hx288_0 := (HB.out.cell (World.block_lt_of_cell? w _ hx288_0)).trans hx288_0
                            replace hx288_1 := (HB.out.cell (World.block_lt_of_cell? w _ hx288_1)).trans hx288_1
                            replace hx288_2 := (HB.out.cell (World.block_lt_of_cell? w _ hx288_2)).trans hx288_2
                            replace p288 := eq_true p288
                            replace q288 := eq_true q288
                            have p289 : 0 ≤ (((rd_T41 l0_1 x12_4).f1) : Int) := of_decide_eq_true (by first | (with_reducible assumption) | assumption)
                            have q289 : ((rd_T41 l0_1 x12_4).f1) < (x8_3.length : Int) := of_decide_eq_true (by first | (with_reducible assumption) | assumption)
                            obtain ⟨ad289, e289, hx289_0⟩ := Kd.at_bool (Kd.R_reads' HO_8.out).2.2 ((rd_T41 l0_1 x12_4).f1) p289 q289
                            (try rw [← Nbq31.out] at hx289_0)
                            obtain rfl : (⟨go15, 0, none⟩ : Addr) = ad289 := (by injection e289)
                            (first | simp only [add_plain] at hx289_0 | simp only [add_at] at hx289_0 | simp only [Addr.add, Nat.zero_add] at hx289_0 | skip)
                            replace p289 := eq_true p289
                            replace q289 := eq_true q289
                            obtain ⟨Ao38, co38, eo38⟩ := Kd.R_slice HO_5.out
                            subst eo38
                            have p290 : 0 ≤ (x12_4 : Int) := of_decide_eq_true (by first | (with_reducible assumption) | assumption)
                            have q290 : x12_4 < (x5_1.length : Int) := of_decide_eq_true (by first | (with_reducible assumption) | assumption)
                            obtain ⟨ad290, e290, hx290_0⟩ := Kd.at_int (Kd.R_reads' HO_5.out).2.2 x12_4 p290 q290
                            cases e290
                            replace p290 := eq_true p290
                            replace q290 := eq_true q290
                            have p291 : 0 ≤ (x12_4 : Int) := of_decide_eq_true (by first | (with_reducible assumption) | assumption)
                            have q291 : x12_4 < (l0_1.length : Int) := of_decide_eq_true (by first | (with_reducible assumption) | assumption)
                            obtain ⟨ad291, e291, hx291_0, hx291_1, hx291_2⟩ := at_T41 HR0_1.out x12_4 p291 q291
                            obtain rfl : ad287 = ad291 := (by injection e291)
                            replace hx291_0 := (HB.out.cell (World.block_lt_of_cell? w _ hx291_0)).trans hx291_0
                            replace hx291_1 := (HB.out.cell (World.block_lt_of_cell? w _ hx291_1)).trans hx291_1
                            replace hx291_2 := (HB.out.cell (World.block_lt_of_cell? w _ hx291_2)).trans hx291_2
                            replace p291 := eq_true p291
                            replace q291 := eq_true q291
                            iterate 8 ((try go_quiet (fail)); try go_wp2_with (first | ((with_reducible refine gate_builtin (b := .append) (xs := #[.tmp 81, .tmp 83]) rfl ?_); at_builtin; refine Kd.R_append (Kd.int .i64) (w0 := w) w.heap.size rfl (.tmp 81) (.tmp 83) 25 3 (.int .i64 0) 8 rfl Try.underlying25 info3 rfl (by decide) (by omega) u11 x11_4 x12_4 [.int .i64 x12_4] (fun k_ => some k_ ≠ (.slice (some ad290) x5_1.length co38 : Value).ownBlock ∧ some k_ ≠ (u7 : Value).ownBlock) (fun _ => False) rfl rfl ?aP (fun _ hk => hk.elim) ?aF ?aO ?aB ?aS ?aL ?_; (case aP => exact rfl); (case aB => exact (by repeat (first | (with_reducible first | exact HB.out | apply below_alloc | apply pw_below_drewN | apply below_drew1 | refine below_set ?_ GE277.out) | exact HB.out))); (case aF => exact (fun k_ hk => ⟨Kd.fresh' (Kd.R_lt (by (with_reducible repeat (first | apply Kd.R_alloc | apply Kd.R_drewN | apply Kd.R_drew)); exact HO_5.out)) k_ hk, Kd.fresh' (Kd.R_lt (by (with_reducible repeat (first | apply Kd.R_alloc | apply Kd.R_drewN | apply Kd.R_drew)); exact HO_7.out)) k_ hk⟩)); (case aO => exact (by (with_reducible repeat (first | apply Kd.R_alloc | apply Kd.R_drewN | apply Kd.R_drew)); exact HO_11.out)); (case aS => exact (below_size (by repeat (first | (with_reducible first | exact HB.out | apply below_alloc | apply pw_below_drewN | apply below_drew1 | refine below_set ?_ GE277.out) | exact HB.out)))); (case aL => have := LMc36.out; omega); intro v293 w39 ho hb hg hat; rw [← Ny292.out] at ho; have n0_ := Aside0.mk (Kd.R_after (ok := (fun k_ => some k_ ≠ (u7 : Value).ownBlock)) (by (with_reducible repeat (first | apply Kd.R_alloc | apply Kd.R_drewN | apply Kd.R_drew)); exact HO_5.out) hg hat); have n1_ := Aside0.mk (Kd.R_after (ok := (fun k_ => some k_ ≠ (.slice (some ad290) x5_1.length co38 : Value).ownBlock)) (by (with_reducible repeat (first | apply Kd.R_alloc | apply Kd.R_drewN | apply Kd.R_drew)); exact HO_7.out) hg hat); have n2_ := Aside0.mk (Kd.R_over' (by (with_reducible repeat (first | apply Kd.R_alloc | apply Kd.R_drewN | apply Kd.R_drew)); exact HO_8.out) (Kd.R_typed (by (with_reducible repeat (first | apply Kd.R_alloc | apply Kd.R_drewN | apply Kd.R_drew)); exact HO_11.out)) (by decide) hg); have n3_ := Aside0.mk (blk_grown (g := gb277) (o := .cells #[.int .i64 a0_0, .slice (some ad287) l0_1.length c0_1] 24 (0, 0)) (by (with_reducible repeat (first | refine blk_drewN ?_ _ | refine blk_drew ?_ | refine blk_alloc ?_ _)); exact BK277.out) hg (Kd.R_ne HO_11.out BK277.out (by decide))); have n4_ := Aside0.mk (hb); have n5_ := Aside0.mk (ho); clear HO_5; clear HO_7; clear HO_8; clear BK277; clear HB; clear HO_11; have HO_5 := n0_; have HO_7 := n1_; have HO_8 := n2_; have BK277 := n3_; have HB := n4_; have HO294 := n5_; clear n0_ n1_ n2_ n3_ n4_ n5_; clear ho hb hg hat)))
                            go_roundg k4
                            case measure => have := HK1.out; have := HJ8.out; have := HK3.out; have := HK4.out; omega
                            case rel => exact ⟨(y292), (wrap64 (x12_4 + 1)), (by first | rfl | (simp; done) | (simp [*]; done)), H', ⟨by have := HK1.out; have := HJ8.out; have := HK3.out; have := HK4.out; omega⟩, ⟨by (try simp only [hl8_3]); (with_reducible repeat (first | apply Kd.R_alloc | apply Kd.R_drewN | apply Kd.R_drew)); exact HO_5.out⟩, ⟨by (try simp only [hl8_3]); (with_reducible repeat (first | apply Kd.R_alloc | apply Kd.R_drewN | apply Kd.R_drew)); exact HO_7.out⟩, ⟨by (try simp only [hl8_3]); (with_reducible repeat (first | apply Kd.R_alloc | apply Kd.R_drewN | apply Kd.R_drew)); exact HO_8.out⟩, ⟨by (try simp only [hl8_3]); (with_reducible repeat (first | apply Kd.R_alloc | apply Kd.R_drewN | apply Kd.R_drew)); exact HO294.out⟩, ⟨by (try simp only [hl8_3]); (with_reducible repeat (first | refine blk_drewN ?_ _ | refine blk_drew ?_ | refine blk_alloc ?_ _)); exact BK277.out⟩, ⟨by repeat (first | (with_reducible first | exact HB.out | apply below_alloc | apply pw_below_drewN | apply below_drew1 | refine below_set ?_ GE277.out) | exact HB.out)⟩⟩
                           ·rw [if_neg c36] at H
                            exact absurd H (by simp)
                          ·rw [if_neg c35] at H
                           have c35b0 : decide ((rd x5_1 x12_4) < ((rd_T41 l0_1 x12_4).f2)) = false := decide_eq_false c35
                           clear c35
                           have H' := Aside0.mk H
                           clear H
                           have hcz40_0 : wr.cell? ⟨gb277, 0, none⟩ = some (.int .i64 a0_0) := (blk_cell BK277.out 0).trans rfl
                           have hcz40_1 : wr.cell? ⟨gb277, 1, none⟩ = some (.slice A0_1 l0_1.length c0_1) := (blk_cell BK277.out 1).trans rfl
                           have hfz40_0 := blk_frozen BK277.out 0
                           have hfz40_1 := blk_frozen BK277.out 1
                           have p287 : 0 ≤ (x12_4 : Int) := of_decide_eq_true (by first | (with_reducible assumption) | assumption)
                           have q287 : x12_4 < (l0_1.length : Int) := of_decide_eq_true (by first | (with_reducible assumption) | assumption)
                           obtain ⟨ad287, e287, hx287_0, hx287_1, hx287_2⟩ := at_T41 HR0_1.out x12_4 p287 q287
                           cases e287
                           replace hx287_0 := (HB.out.cell (World.block_lt_of_cell? w _ hx287_0)).trans hx287_0
                           replace hx287_1 := (HB.out.cell (World.block_lt_of_cell? w _ hx287_1)).trans hx287_1
                           replace hx287_2 := (HB.out.cell (World.block_lt_of_cell? w _ hx287_2)).trans hx287_2
                           replace p287 := eq_true p287
                           replace q287 := eq_true q287
                           have p288 : 0 ≤ (x12_4 : Int) := of_decide_eq_true (by first | (with_reducible assumption) | assumption)
                           have q288 : x12_4 < (l0_1.length : Int) := of_decide_eq_true (by first | (with_reducible assumption) | assumption)
                           obtain ⟨ad288, e288, hx288_0, hx288_1, hx288_2⟩ := at_T41 HR0_1.out x12_4 p288 q288
                           obtain rfl : ad287 = ad288 := (by injection e288)
                           replace hx288_0 := (HB.out.cell (World.block_lt_of_cell? w _ hx288_0)).trans hx288_0
                           replace hx288_1 := (HB.out.cell (World.block_lt_of_cell? w _ hx288_1)).trans hx288_1
                           replace hx288_2 := (HB.out.cell (World.block_lt_of_cell? w _ hx288_2)).trans hx288_2
                           replace p288 := eq_true p288
                           replace q288 := eq_true q288
                           have p289 : 0 ≤ (((rd_T41 l0_1 x12_4).f1) : Int) := of_decide_eq_true (by first | (with_reducible assumption) | assumption)
                           have q289 : ((rd_T41 l0_1 x12_4).f1) < (x8_3.length : Int) := of_decide_eq_true (by first | (with_reducible assumption) | assumption)
                           obtain ⟨ad289, e289, hx289_0⟩ := Kd.at_bool (Kd.R_reads' HO_8.out).2.2 ((rd_T41 l0_1 x12_4).f1) p289 q289
                           (try rw [← Nbq31.out] at hx289_0)
                           obtain rfl : (⟨go15, 0, none⟩ : Addr) = ad289 := (by injection e289)
                           (first | simp only [add_plain] at hx289_0 | simp only [add_at] at hx289_0 | simp only [Addr.add, Nat.zero_add] at hx289_0 | skip)
                           replace p289 := eq_true p289
                           replace q289 := eq_true q289
                           obtain ⟨Ao41, co41, eo41⟩ := Kd.R_slice HO_5.out
                           subst eo41
                           have p290 : 0 ≤ (x12_4 : Int) := of_decide_eq_true (by first | (with_reducible assumption) | assumption)
                           have q290 : x12_4 < (x5_1.length : Int) := of_decide_eq_true (by first | (with_reducible assumption) | assumption)
                           obtain ⟨ad290, e290, hx290_0⟩ := Kd.at_int (Kd.R_reads' HO_5.out).2.2 x12_4 p290 q290
                           cases e290
                           replace p290 := eq_true p290
                           replace q290 := eq_true q290
                           have p291 : 0 ≤ (x12_4 : Int) := of_decide_eq_true (by first | (with_reducible assumption) | assumption)
                           have q291 : x12_4 < (l0_1.length : Int) := of_decide_eq_true (by first | (with_reducible assumption) | assumption)
                           obtain ⟨ad291, e291, hx291_0, hx291_1, hx291_2⟩ := at_T41 HR0_1.out x12_4 p291 q291
                           obtain rfl : ad287 = ad291 := (by injection e291)
                           replace hx291_0 := (HB.out.cell (World.block_lt_of_cell? w _ hx291_0)).trans hx291_0
                           replace hx291_1 := (HB.out.cell (World.block_lt_of_cell? w _ hx291_1)).trans hx291_1
                           replace hx291_2 := (HB.out.cell (World.block_lt_of_cell? w _ hx291_2)).trans hx291_2
                           replace p291 := eq_true p291
                           replace q291 := eq_true q291
                           go_wp2
                           repeat (go_quiet (fail); try go_wp2)
                           go_roundg k4
                           case measure => have := HK1.out; have := HJ8.out; have := HK3.out; have := HK4.out; omega
                           case rel => exact ⟨(x11_4), (wrap64 (x12_4 + 1)), (by first | rfl | (simp; done) | (simp [*]; done)), H', ⟨by have := HK1.out; have := HJ8.out; have := HK3.out; have := HK4.out; omega⟩, ⟨by (try simp only [hl8_3]); (with_reducible repeat (first | apply Kd.R_alloc | apply Kd.R_drewN | apply Kd.R_drew)); exact HO_5.out⟩, ⟨by (try simp only [hl8_3]); (with_reducible repeat (first | apply Kd.R_alloc | apply Kd.R_drewN | apply Kd.R_drew)); exact HO_7.out⟩, ⟨by (try simp only [hl8_3]); (with_reducible repeat (first | apply Kd.R_alloc | apply Kd.R_drewN | apply Kd.R_drew)); exact HO_8.out⟩, ⟨by (try simp only [hl8_3]); (with_reducible repeat (first | apply Kd.R_alloc | apply Kd.R_drewN | apply Kd.R_drew)); exact HO_11.out⟩, ⟨by (try simp only [hl8_3]); (with_reducible repeat (first | refine blk_drewN ?_ _ | refine blk_drew ?_ | refine blk_alloc ?_ _)); exact BK277.out⟩, ⟨by repeat (first | (with_reducible first | exact HB.out | apply below_alloc | apply pw_below_drewN | apply below_drew1 | refine below_set ?_ GE277.out) | exact HB.out)⟩⟩
                         ·rw [if_neg c34] at H
                          exact absurd H (by simp)
                       ·rw [if_neg c30] at H
                        exact absurd H (by simp)
                      ·rw [if_neg c29] at H
                       exact absurd H (by simp)
                     ·rw [if_neg c28] at H
                      have c28b0 : (((rd_T41 l0_1 x12_4).f0) == x9_3) = false := beq_eq_false_iff_ne.mpr c28
                      have c28b1 : (((rd_T41 l0_1 x12_4).f0) != x9_3) = true := bne_iff_ne.mpr c28
                      have H' := Aside0.mk H
                      clear H
                      have hcz42_0 : wr.cell? ⟨gb277, 0, none⟩ = some (.int .i64 a0_0) := (blk_cell BK277.out 0).trans rfl
                      have hcz42_1 : wr.cell? ⟨gb277, 1, none⟩ = some (.slice A0_1 l0_1.length c0_1) := (blk_cell BK277.out 1).trans rfl
                      have hfz42_0 := blk_frozen BK277.out 0
                      have hfz42_1 := blk_frozen BK277.out 1
                      have p287 : 0 ≤ (x12_4 : Int) := of_decide_eq_true (by first | (with_reducible assumption) | assumption)
                      have q287 : x12_4 < (l0_1.length : Int) := of_decide_eq_true (by first | (with_reducible assumption) | assumption)
                      obtain ⟨ad287, e287, hx287_0, hx287_1, hx287_2⟩ := at_T41 HR0_1.out x12_4 p287 q287
                      cases e287
                      replace hx287_0 := (HB.out.cell (World.block_lt_of_cell? w _ hx287_0)).trans hx287_0
                      replace hx287_1 := (HB.out.cell (World.block_lt_of_cell? w _ hx287_1)).trans hx287_1
                      replace hx287_2 := (HB.out.cell (World.block_lt_of_cell? w _ hx287_2)).trans hx287_2
                      replace p287 := eq_true p287
                      replace q287 := eq_true q287
                      go_wp2
                      repeat (go_quiet (fail); try go_wp2)
                      go_roundg k4
                      case measure => have := HK1.out; have := HJ8.out; have := HK3.out; have := HK4.out; omega
                      case rel => exact ⟨(x11_4), (wrap64 (x12_4 + 1)), (by first | rfl | (simp; done) | (simp [*]; done)), H', ⟨by have := HK1.out; have := HJ8.out; have := HK3.out; have := HK4.out; omega⟩, ⟨by (try simp only [hl8_3]); (with_reducible repeat (first | apply Kd.R_alloc | apply Kd.R_drewN | apply Kd.R_drew)); exact HO_5.out⟩, ⟨by (try simp only [hl8_3]); (with_reducible repeat (first | apply Kd.R_alloc | apply Kd.R_drewN | apply Kd.R_drew)); exact HO_7.out⟩, ⟨by (try simp only [hl8_3]); (with_reducible repeat (first | apply Kd.R_alloc | apply Kd.R_drewN | apply Kd.R_drew)); exact HO_8.out⟩, ⟨by (try simp only [hl8_3]); (with_reducible repeat (first | apply Kd.R_alloc | apply Kd.R_drewN | apply Kd.R_drew)); exact HO_11.out⟩, ⟨by (try simp only [hl8_3]); (with_reducible repeat (first | refine blk_drewN ?_ _ | refine blk_drew ?_ | refine blk_alloc ?_ _)); exact BK277.out⟩, ⟨by repeat (first | (with_reducible first | exact HB.out | apply below_alloc | apply pw_below_drewN | apply below_drew1 | refine below_set ?_ GE277.out) | exact HB.out)⟩⟩
                    ·rw [if_neg c27] at H
                     exact absurd H (by simp)
                   ·rw [if_neg c26] at H
                    have c26b0 : decide (x12_4 < (l0_1.length : Int)) = false := decide_eq_false c26
                    clear c26
                    by_cases c43 : (x11_4.length : Int) = 0
                    ·rw [if_pos c43] at H
                     have c43b0 : ((x11_4.length : Int) == 0) = true := beq_iff_eq.mpr c43
                     have c43b1 : ((x11_4.length : Int) != 0) = false := bne_eq_false_iff_eq.mpr c43
                     clear c43
                     have H' := Aside0.mk H
                     clear H
                     have hcz44_0 : wr.cell? ⟨gb277, 0, none⟩ = some (.int .i64 a0_0) := (blk_cell BK277.out 0).trans rfl
                     have hcz44_1 : wr.cell? ⟨gb277, 1, none⟩ = some (.slice A0_1 l0_1.length c0_1) := (blk_cell BK277.out 1).trans rfl
                     have hfz44_0 := blk_frozen BK277.out 0
                     have hfz44_1 := blk_frozen BK277.out 1
                     obtain ⟨Ao45, co45, eo45⟩ := Kd.R_slice HO_11.out
                     subst eo45
                     go_wp2
                     repeat (go_quiet (fail); try go_wp2)
                     (try simp only [← hl8_3])
                     go_meet
                     case rel => exact ⟨_, (x7_3), (x9_3), (by first | rfl | (simp; done) | (simp [*]; done)), H', ⟨by have := HK1.out; have := HJ8.out; have := HK3.out; have := HK4.out; first | omega | exact Nat.le_refl _⟩, ⟨by (try simp only [hl8_3]); (with_reducible repeat (first | apply Kd.R_alloc | apply Kd.R_drewN | apply Kd.R_drew)); exact Kd.R_mono HO_5.out (fun _ hk => hk.1)⟩, ⟨by (try simp only [hl8_3]); (with_reducible repeat (first | apply Kd.R_alloc | apply Kd.R_drewN | apply Kd.R_drew)); exact Kd.R_mono HO_7.out (fun _ hk => hk.1)⟩, ⟨by (try simp only [hl8_3]); (with_reducible repeat (first | refine blk_drewN ?_ _ | refine blk_drew ?_ | refine blk_alloc ?_ _)); exact BK277.out⟩, ⟨by repeat (first | (with_reducible first | exact HB.out | apply below_alloc | apply pw_below_drewN | apply below_drew1 | refine below_set ?_ GE277.out) | exact HB.out)⟩⟩
                    ·rw [if_neg c43] at H
                     have c43b0 : ((x11_4.length : Int) == 0) = false := beq_eq_false_iff_ne.mpr c43
                     have c43b1 : ((x11_4.length : Int) != 0) = true := bne_iff_ne.mpr c43
                     have c43b2 : ¬ (x11_4 = []) := fun h_ => c43 (by rw [h_]; rfl)
                     obtain ⟨ji46, hji46⟩ : ∃ j_ : Int, (Int.tmod x10_3 (x11_4.length : Int)) = j_ := ⟨_, rfl⟩
                     replace H : (if 0 ≤ (ji46) then (if (ji46) < (x11_4.length : Int) then (if x7_3.length < 17592186044416 then (if 0 ≤ (rd x11_4 (ji46)) then (if (rd x11_4 (ji46)) < (l0_1.length : Int) then (if 0 ≤ ((rd_T41 l0_1 (rd x11_4 (ji46))).f1) then (if ((rd_T41 l0_1 (rd x11_4 (ji46))).f1) < (x8_3.length : Int) then (billetlaw05_Flow.l1 k4 l1 x5_1 x6_1 (x7_3 ++ [rd x11_4 (ji46)]) (x8_3.set (((rd_T41 l0_1 (rd x11_4 (ji46))).f1) : Int).toNat true) ((rd_T41 l0_1 (rd x11_4 (ji46))).f1) (wrap64 (Int.tdiv x10_3 2)) a0_0 l0_1) else (none)) else (none)) else (none)) else (none)) else (none)) else (none)) else (none)) = some r := by first | (rw [hji46] at H; exact H) | (simp only [hji46] at H ⊢; exact H)
                     by_cases c47 : 0 ≤ (ji46)
                     ·rw [if_pos c47] at H
                      have c47b0 : decide (0 ≤ (ji46)) = true := decide_eq_true c47
                      clear c47
                      by_cases c48 : (ji46) < (x11_4.length : Int)
                      ·rw [if_pos c48] at H
                       have c48b0 : decide ((ji46) < (x11_4.length : Int)) = true := decide_eq_true c48
                       clear c48
                       by_cases c49 : x7_3.length < 17592186044416
                       ·rw [if_pos c49] at H
                        have LMc49 := Aside0.mk c49
                        clear c49
                        obtain ⟨y296, hy296⟩ : ∃ y_ : List Int, y_ = (x7_3 ++ [rd x11_4 (ji46)]) := ⟨_, rfl⟩
                        replace H : (if 0 ≤ (rd x11_4 (ji46)) then (if (rd x11_4 (ji46)) < (l0_1.length : Int) then (if 0 ≤ ((rd_T41 l0_1 (rd x11_4 (ji46))).f1) then (if ((rd_T41 l0_1 (rd x11_4 (ji46))).f1) < (x8_3.length : Int) then (billetlaw05_Flow.l1 k4 l1 x5_1 x6_1 y296 (x8_3.set (((rd_T41 l0_1 (rd x11_4 (ji46))).f1) : Int).toNat true) ((rd_T41 l0_1 (rd x11_4 (ji46))).f1) (wrap64 (Int.tdiv x10_3 2)) a0_0 l0_1) else (none)) else (none)) else (none)) else (none)) = some r := by first | (rw [hy296]; with_reducible exact H) | (have H2_ := (Option.bind_some _ _).symm.trans H; rw [hy296]; with_reducible exact H2_) | (have H2_ := (Option.bind_some _ _).symm.trans H; with_reducible exact H2_) | with_reducible exact H | (rw [hy296]; exact H) | exact H
                        have Ny296 := Aside0.mk hy296
                        clear hy296
                        by_cases c50 : 0 ≤ (rd x11_4 (ji46))
                        ·rw [if_pos c50] at H
                         have c50b0 : decide (0 ≤ (rd x11_4 (ji46))) = true := decide_eq_true c50
                         clear c50
                         by_cases c51 : (rd x11_4 (ji46)) < (l0_1.length : Int)
                         ·rw [if_pos c51] at H
                          have c51b0 : decide ((rd x11_4 (ji46)) < (l0_1.length : Int)) = true := decide_eq_true c51
                          clear c51
                          by_cases c52 : 0 ≤ ((rd_T41 l0_1 (rd x11_4 (ji46))).f1)
                          ·rw [if_pos c52] at H
                           have c52b0 : decide (0 ≤ ((rd_T41 l0_1 (rd x11_4 (ji46))).f1)) = true := decide_eq_true c52
                           clear c52
                           by_cases c53 : ((rd_T41 l0_1 (rd x11_4 (ji46))).f1) < (x8_3.length : Int)
                           ·rw [if_pos c53] at H
                            have c53b0 : decide (((rd_T41 l0_1 (rd x11_4 (ji46))).f1) < (x8_3.length : Int)) = true := decide_eq_true c53
                            clear c53
                            obtain ⟨y300, hy300⟩ : ∃ y_ : List Bool, y_ = (x8_3.set (((rd_T41 l0_1 (rd x11_4 (ji46))).f1) : Int).toNat true) := ⟨_, rfl⟩
                            replace H : (billetlaw05_Flow.l1 k4 l1 x5_1 x6_1 y296 y300 ((rd_T41 l0_1 (rd x11_4 (ji46))).f1) (wrap64 (Int.tdiv x10_3 2)) a0_0 l0_1) = some r := by first | (rw [hy300]; with_reducible exact H) | (have H2_ := (Option.bind_some _ _).symm.trans H; rw [hy300]; with_reducible exact H2_) | (have H2_ := (Option.bind_some _ _).symm.trans H; with_reducible exact H2_) | with_reducible exact H | (rw [hy300]; exact H) | exact H
                            have Ny300 := Aside0.mk hy300
                            clear hy300
                            have H' := Aside0.mk H
                            clear H
                            have hcz55_0 : wr.cell? ⟨gb277, 0, none⟩ = some (.int .i64 a0_0) := (blk_cell BK277.out 0).trans rfl
                            have hcz55_1 : wr.cell? ⟨gb277, 1, none⟩ = some (.slice A0_1 l0_1.length c0_1) := (blk_cell BK277.out 1).trans rfl
                            have hfz55_0 := blk_frozen BK277.out 0
                            have hfz55_1 := blk_frozen BK277.out 1
                            obtain ⟨Ao56, co56, eo56⟩ := Kd.R_slice HO_11.out
                            subst eo56
                            have p295 : 0 ≤ ((ji46) : Int) := of_decide_eq_true (by first | (with_reducible assumption) | assumption)
                            have q295 : (ji46) < (x11_4.length : Int) := of_decide_eq_true (by first | (with_reducible assumption) | assumption)
                            obtain ⟨ad295, e295, hx295_0⟩ := Kd.at_int (Kd.R_reads' HO_11.out).2.2 (ji46) p295 q295
                            cases e295
                            replace p295 := eq_true p295
                            replace q295 := eq_true q295
                            iterate 8 ((try go_quiet (fail)); try go_wp2_with (first | ((with_reducible refine gate_builtin (b := .append) (xs := #[.tmp 97, .tmp 99]) rfl ?_); at_builtin; refine Kd.R_append (Kd.int .i64) (w0 := w) w.heap.size rfl (.tmp 97) (.tmp 99) 25 3 (.int .i64 0) 8 rfl Try.underlying25 info3 rfl (by decide) (by omega) u7 x7_3 (rd x11_4 (ji46)) [.int .i64 (rd x11_4 (ji46))] (fun k_ => some k_ ≠ (v279 : Value).ownBlock ∧ some k_ ≠ (.slice (some ad295) x11_4.length co56 : Value).ownBlock) (fun _ => False) rfl rfl ?aP (fun _ hk => hk.elim) ?aF ?aO ?aB ?aS ?aL ?_; (case aP => exact rfl); (case aB => exact (by repeat (first | (with_reducible first | exact HB.out | apply below_alloc | apply pw_below_drewN | apply below_drew1 | refine below_set ?_ GE277.out) | exact HB.out))); (case aF => exact (fun k_ hk => ⟨Kd.fresh' (Kd.R_lt (by (with_reducible repeat (first | apply Kd.R_alloc | apply Kd.R_drewN | apply Kd.R_drew)); exact HO_5.out)) k_ hk, Kd.fresh' (Kd.R_lt (by (with_reducible repeat (first | apply Kd.R_alloc | apply Kd.R_drewN | apply Kd.R_drew)); exact HO_11.out)) k_ hk⟩)); (case aO => exact (by (with_reducible repeat (first | apply Kd.R_alloc | apply Kd.R_drewN | apply Kd.R_drew)); exact HO_7.out)); (case aS => exact (below_size (by repeat (first | (with_reducible first | exact HB.out | apply below_alloc | apply pw_below_drewN | apply below_drew1 | refine below_set ?_ GE277.out) | exact HB.out)))); (case aL => have := LMc49.out; omega); intro v297 w57 ho hb hg hat; rw [← Ny296.out] at ho; have n0_ := Aside0.mk (Kd.R_after (ok := (fun k_ => some k_ ≠ (.slice (some ad295) x11_4.length co56 : Value).ownBlock)) (by (with_reducible repeat (first | apply Kd.R_alloc | apply Kd.R_drewN | apply Kd.R_drew)); exact Kd.R_mono HO_5.out (fun _ hk => ⟨hk.2, hk.1⟩)) hg hat); have n1_ := Aside0.mk (Kd.R_over' (by (with_reducible repeat (first | apply Kd.R_alloc | apply Kd.R_drewN | apply Kd.R_drew)); exact HO_8.out) (Kd.R_typed (by (with_reducible repeat (first | apply Kd.R_alloc | apply Kd.R_drewN | apply Kd.R_drew)); exact HO_7.out)) (by decide) hg); have n2_ := Aside0.mk (Kd.R_after (ok := (fun k_ => some k_ ≠ (v279 : Value).ownBlock)) (by (with_reducible repeat (first | apply Kd.R_alloc | apply Kd.R_drewN | apply Kd.R_drew)); exact HO_11.out) hg hat); have n3_ := Aside0.mk (blk_grown (g := gb277) (o := .cells #[.int .i64 a0_0, .slice A0_1 l0_1.length c0_1] 24 (0, 0)) (by (with_reducible repeat (first | refine blk_drewN ?_ _ | refine blk_drew ?_ | refine blk_alloc ?_ _)); exact BK277.out) hg (Kd.R_ne HO_7.out BK277.out (by decide))); have n4_ := Aside0.mk (hb); have n5_ := Aside0.mk (ho); clear HO_5; clear HO_8; clear HO_11; clear BK277; clear HB; clear HO_7; have HO_5 := n0_; have HO_8 := n1_; have HO_11 := n2_; have BK277 := n3_; have HB := n4_; have HO298 := n5_; clear n0_ n1_ n2_ n3_ n4_ n5_; clear ho hb hg hat; have hcz58_0 : w57.cell? ⟨gb277, 0, none⟩ = some (.int .i64 a0_0) := (blk_cell BK277.out 0).trans rfl; have hcz58_1 : w57.cell? ⟨gb277, 1, none⟩ = some (.slice A0_1 l0_1.length c0_1) := (blk_cell BK277.out 1).trans rfl; have hfz58_0 := blk_frozen BK277.out 0; have hfz58_1 := blk_frozen BK277.out 1; have p299 : 0 ≤ ((rd x11_4 (ji46)) : Int) := of_decide_eq_true (by first | (with_reducible assumption) | assumption); have q299 : (rd x11_4 (ji46)) < (l0_1.length : Int) := of_decide_eq_true (by first | (with_reducible assumption) | assumption); obtain ⟨ad299, e299, hx299_0, hx299_1, hx299_2⟩ := at_T41 HR0_1.out (rd x11_4 (ji46)) p299 q299; cases e299; replace hx299_0 := (HB.out.cell (World.block_lt_of_cell? w _ hx299_0)).trans hx299_0; replace hx299_1 := (HB.out.cell (World.block_lt_of_cell? w _ hx299_1)).trans hx299_1; replace hx299_2 := (HB.out.cell (World.block_lt_of_cell? w _ hx299_2)).trans hx299_2; replace p299 := eq_true p299; replace q299 := eq_true q299; have p54 : 0 ≤ (((rd_T41 l0_1 (rd x11_4 (ji46))).f1) : Int) := of_decide_eq_true (by first | (with_reducible assumption) | assumption); have q54 : (((rd_T41 l0_1 (rd x11_4 (ji46))).f1) : Int) < ((x8_3.length : Int) : Int) := of_decide_eq_true (by first | (with_reducible assumption) | assumption); obtain ⟨hx54_0, hf54_0⟩ := Kd.R_celln false HO_8.out (((rd_T41 l0_1 (rd x11_4 (ji46))).f1) : Int) p54 q54; replace p54 := eq_true p54; replace q54 := eq_true q54; obtain ⟨hy59_, hz59_⟩ := Kd.R_celln false HO_8.out (((rd_T41 l0_1 (rd x11_4 (ji46))).f1) : Int) (of_decide_eq_true (by first | (with_reducible assumption) | assumption)) (of_decide_eq_true (by first | (with_reducible assumption) | assumption)); have HP59 := Kd.R_putg HO_8.out (((rd_T41 l0_1 (rd x11_4 (ji46))).f1) : Int) true) | ((with_reducible refine gate_store (t := 4) (p := 109) rfl ?_); (try (rw [drewN_self w57]; generalize hq_ : World.drewN w57 _ = w57; have n0_ := Aside0.mk (Kd.R_at hq_ HO_5.out); have n1_ := Aside0.mk (Kd.R_at hq_ HO_8.out); have n2_ := Aside0.mk (Kd.R_at hq_ HO_11.out); have n3_ := Aside0.mk (Kd.R_at hq_ HO298.out); have n4_ := Aside0.mk (blk_at hq_ BK277.out); have n5_ := Aside0.mk (below_at hq_ HB.out); clear hq_ HO_5 HO_8 HO_11 HO298 BK277 HB; have HO_5 := n0_; have HO_8 := n1_; have HO_11 := n2_; have HO298 := n3_; have BK277 := n4_; have HB := n5_; clear n0_ n1_ n2_ n3_ n4_ n5_; (try (obtain ⟨hy59_, hz59_⟩ := Kd.R_celln false HO_8.out (((rd_T41 l0_1 (rd x11_4 (ji46))).f1) : Int) (of_decide_eq_true (by first | (with_reducible assumption) | assumption)) (of_decide_eq_true (by first | (with_reducible assumption) | assumption)))); (try (have HP59 := Kd.R_putg HO_8.out (((rd_T41 l0_1 (rd x11_4 (ji46))).f1) : Int) true)))); refine store_event (t := 4) (p := 109) (v := ?vo_w60) (w1 := (w57.setCell ⟨go15, (((rd_T41 l0_1 (rd x11_4 (ji46))).f1) : Int).toNat, none⟩ (.bool true))) ?hg ?ho ?hn ?hr ?_; (case ho => rfl); (case hg => rfl); (case hn => rfl); (case hr => first | (go_simp; done) | (go_simp; rfl)); intro w60 hw; have hg : w57.grownBy w60 (some go15) := (by rw [hw]; exact HP59.2); have hp_ : Kd.R Kd.bool 4 w60 w.heap.size (fun _ => True) (.slice (some ⟨go15, 0, none⟩) x8_3.length co15) y300 := (by rw [hw, Ny300.out]; exact HP59.1); clear HP59; have n0_ := Aside0.mk (Kd.R_over' (v := (.slice (some ⟨go15, 0, none⟩) x8_3.length co15)) (by (with_reducible repeat (first | apply Kd.R_alloc | apply Kd.R_drewN | apply Kd.R_drew)); exact HO_5.out) (Kd.R_typed HO_8.out) (by decide) hg); have n1_ := Aside0.mk (hp_); have n2_ := Aside0.mk (Kd.R_over' (v := (.slice (some ⟨go15, 0, none⟩) x8_3.length co15)) (by (with_reducible repeat (first | apply Kd.R_alloc | apply Kd.R_drewN | apply Kd.R_drew)); exact HO_11.out) (Kd.R_typed HO_8.out) (by decide) hg); have n3_ := Aside0.mk (blk_grown (g := gb277) (o := .cells #[.int .i64 a0_0, .slice (some ad299) l0_1.length c0_1] 24 (0, 0)) (by (with_reducible repeat (first | refine blk_drewN ?_ _ | refine blk_drew ?_ | refine blk_alloc ?_ _)); exact BK277.out) hg (Kd.R_ne HO_8.out BK277.out (by decide))); have n4_ := Aside0.mk (Kd.R_over' (v := (.slice (some ⟨go15, 0, none⟩) x8_3.length co15)) (by (with_reducible repeat (first | apply Kd.R_alloc | apply Kd.R_drewN | apply Kd.R_drew)); exact HO298.out) (Kd.R_typed HO_8.out) (by decide) hg); have n5_ := Aside0.mk ((by rw [hw]; exact below_set (HB.out) GB15.out : Below w.heap.size w w60)); clear HO_5; clear HO_8; clear HO_11; clear BK277; clear HO298; clear HB; have HO_5 := n0_; have HO_8 := n1_; have HO_11 := n2_; have BK277 := n3_; have HO298 := n4_; have HB := n5_; clear n0_ n1_ n2_ n3_ n4_ n5_; clear hg hw hp_)))
                            (try simp only [← hl8_3])
                            go_roundg k4
                            case measure => have := HK1.out; have := HJ8.out; have := HK3.out; have := HK4.out; omega
                            case rel => exact ⟨(y296), (y300), ((rd_T41 l0_1 (rd x11_4 (ji46))).f1), (wrap64 (Int.tdiv x10_3 2)), (by first | rfl | (simp; done) | (simp only [← hji46] <;> (first | rfl | simp)) | (simp [*]; done)), (by first | rfl | (simp; done) | (simp [*]; done)), H', ⟨by have := HK1.out; have := HJ8.out; have := HK3.out; have := HK4.out; omega⟩, ⟨by (try simp only [hl8_3]); (with_reducible repeat (first | apply Kd.R_alloc | apply Kd.R_drewN | apply Kd.R_drew)); exact Kd.R_mono HO_5.out (fun _ hk => hk.2)⟩, ⟨by (try simp only [hl8_3]); (with_reducible repeat (first | apply Kd.R_alloc | apply Kd.R_drewN | apply Kd.R_drew)); exact Kd.R_mono HO298.out (fun _ hk => hk.1)⟩, ⟨by (try simp only [hl8_3]); (with_reducible repeat (first | apply Kd.R_alloc | apply Kd.R_drewN | apply Kd.R_drew)); exact HO_8.out⟩, ⟨by (try simp only [hl8_3]); (with_reducible repeat (first | refine blk_drewN ?_ _ | refine blk_drew ?_ | refine blk_alloc ?_ _)); exact BK277.out⟩, ⟨by repeat (first | (with_reducible first | exact HB.out | apply below_alloc | apply pw_below_drewN | apply below_drew1 | refine below_set ?_ GE277.out) | exact HB.out)⟩⟩
                           ·rw [if_neg c53] at H
                            exact absurd H (by simp)
                          ·rw [if_neg c52] at H
                           exact absurd H (by simp)
                         ·rw [if_neg c51] at H
                          exact absurd H (by simp)
                        ·rw [if_neg c50] at H
                         exact absurd H (by simp)
                       ·rw [if_neg c49] at H
                        exact absurd H (by simp)
                      ·rw [if_neg c48] at H
                       exact absurd H (by simp)
                     ·rw [if_neg c47] at H
                      exact absurd H (by simp)
             case rest =>
              clear HC19
              obtain ⟨kq, x7_18, x9_18, rfl, HA, HJ18, HO_5, HO_7, BK277, HB⟩ := hcut
              cases kq with
              | zero => exact absurd HA.out (by simp [billetlaw05_Flow.j4])
              | succ kj18 =>
               have H := HA.out
               clear HA
               simp only [billetlaw05_Flow.j4] at H
               by_cases c61 : x9_18 = 1
               ·rw [if_pos c61] at H
                have c61b0 : (x9_18 == 1) = true := beq_iff_eq.mpr c61
                have c61b1 : (x9_18 != 1) = false := bne_eq_false_iff_eq.mpr c61
                clear c61
                have H' := Aside0.mk H
                clear H
                go_wp2
                repeat (go_quiet (fail); try go_wp2)
                go_loopg [14] kj18 (fun kq v14 w' => ∃ (x5_4 : List Int) (x14_4 : Int), v14 = .int .i64 x14_4 ∧ Aside0 (billetlaw05_Flow.l3 kq l1 x5_4 x6_1 x7_18 x14_4 a0_0 l0_1 = some r) ∧ Aside0 (kq ≤ kj18) ∧ Aside0 (Kd.R (Kd.int .i64) 3 w' w.heap.size (fun k_ => some k_ ≠ (u7 : Value).ownBlock) v279 x5_4) ∧ Aside0 (Kd.R (Kd.int .i64) 3 w' w.heap.size (fun k_ => some k_ ≠ (v279 : Value).ownBlock) u7 x7_18) ∧ Aside0 (w'.heap[gb277]? = some (.cells #[.int .i64 a0_0, (.slice A0_1 l0_1.length c0_1)] 24 (0, 0))) ∧ Aside0 (Below w.heap.size w w'))
                case atStart => exact ⟨(x5_1), (0), (by first | rfl | (simp; done) | (simp [*]; done)), H', ⟨Nat.le_refl _⟩, ⟨by (with_reducible repeat (first | apply Kd.R_alloc | apply Kd.R_drewN | apply Kd.R_drew)); exact HO_5.out⟩, ⟨by (with_reducible repeat (first | apply Kd.R_alloc | apply Kd.R_drewN | apply Kd.R_drew)); exact HO_7.out⟩, ⟨by (with_reducible repeat (first | refine blk_drewN ?_ _ | refine blk_drew ?_ | refine blk_alloc ?_ _)); exact BK277.out⟩, ⟨by repeat (first | (with_reducible first | exact HB.out | apply below_alloc | apply pw_below_drewN | apply below_drew1 | refine below_set ?_ GE277.out) | exact HB.out)⟩⟩
                case round =>
                 clear H'
                 obtain ⟨x5_4, x14_4, rfl, HA, HK4, HO_5, HO_7, BK277, HB⟩ := hrel
                 cases gk with
                 | zero => exact absurd HA.out (by simp [billetlaw05_Flow.l3])
                 | succ k4 =>
                  have H := HA.out
                  clear HA
                  simp only [billetlaw05_Flow.l3] at H
                  by_cases c62 : x14_4 < (x7_18.length : Int)
                  ·rw [if_pos c62] at H
                   have c62b0 : decide (x14_4 < (x7_18.length : Int)) = true := decide_eq_true c62
                   clear c62
                   by_cases c63 : 0 ≤ x14_4
                   ·rw [if_pos c63] at H
                    have c63b0 : decide (0 ≤ x14_4) = true := decide_eq_true c63
                    clear c63
                    by_cases c64 : 0 ≤ (rd x7_18 x14_4)
                    ·rw [if_pos c64] at H
                     have c64b0 : decide (0 ≤ (rd x7_18 x14_4)) = true := decide_eq_true c64
                     clear c64
                     by_cases c65 : (rd x7_18 x14_4) < (x5_4.length : Int)
                     ·rw [if_pos c65] at H
                      have c65b0 : decide ((rd x7_18 x14_4) < (x5_4.length : Int)) = true := decide_eq_true c65
                      clear c65
                      obtain ⟨y303, hy303⟩ : ∃ y_ : List Int, y_ = (x5_4.set ((rd x7_18 x14_4) : Int).toNat (wrap64 ((rd x5_4 (rd x7_18 x14_4)) + 1))) := ⟨_, rfl⟩
                      replace H : (billetlaw05_Flow.l3 k4 l1 y303 x6_1 x7_18 (wrap64 (x14_4 + 1)) a0_0 l0_1) = some r := by first | (rw [hy303]; with_reducible exact H) | (have H2_ := (Option.bind_some _ _).symm.trans H; rw [hy303]; with_reducible exact H2_) | (have H2_ := (Option.bind_some _ _).symm.trans H; with_reducible exact H2_) | with_reducible exact H | (rw [hy303]; exact H) | exact H
                      have Ny303 := Aside0.mk hy303
                      clear hy303
                      have H' := Aside0.mk H
                      clear H
                      obtain ⟨Ao67, co67, eo67⟩ := Kd.R_slice HO_7.out
                      subst eo67
                      have p301 : 0 ≤ (x14_4 : Int) := of_decide_eq_true (by first | (with_reducible assumption) | assumption)
                      have q301 : x14_4 < (x7_18.length : Int) := of_decide_eq_true (by first | (with_reducible assumption) | assumption)
                      obtain ⟨ad301, e301, hx301_0⟩ := Kd.at_int (Kd.R_reads' HO_7.out).2.2 x14_4 p301 q301
                      cases e301
                      replace p301 := eq_true p301
                      replace q301 := eq_true q301
                      obtain ⟨Ao68, co68, eo68⟩ := Kd.R_slice HO_5.out
                      subst eo68
                      have p302 : 0 ≤ ((rd x7_18 x14_4) : Int) := of_decide_eq_true (by first | (with_reducible assumption) | assumption)
                      have q302 : (rd x7_18 x14_4) < (x5_4.length : Int) := of_decide_eq_true (by first | (with_reducible assumption) | assumption)
                      obtain ⟨ad302, e302, hx302_0⟩ := Kd.at_int (Kd.R_reads' HO_5.out).2.2 (rd x7_18 x14_4) p302 q302
                      cases e302
                      replace p302 := eq_true p302
                      replace q302 := eq_true q302
                      have p66 : 0 ≤ ((rd x7_18 x14_4) : Int) := of_decide_eq_true (by first | (with_reducible assumption) | assumption)
                      have q66 : ((rd x7_18 x14_4) : Int) < ((x5_4.length : Int) : Int) := of_decide_eq_true (by first | (with_reducible assumption) | assumption)
                      obtain ⟨go66, co66, eo66, gb66, gl66, cl66, HG66⟩ := Kd.R_form HO_5.out (by omega)
                      (first | cases eo66 | (injection eo66 with ea_ en_ ec_; (first | subst ea_ | (injection ea_ with ea_; subst ea_)); subst ec_; clear en_))
                      have GB66 := Aside0.mk gb66
                      have GG66 := Aside0.mk HG66
                      clear gb66 gl66 HG66
                      (first | simp only [add_plain] at hx302_0 | skip)
                      obtain ⟨hx66_0, hf66_0⟩ := Kd.R_celln 0 HO_5.out ((rd x7_18 x14_4) : Int) p66 q66
                      replace p66 := eq_true p66
                      replace q66 := eq_true q66
                      have HP69 := Kd.R_putg HO_5.out ((rd x7_18 x14_4) : Int) (wrap64 ((rd x5_4 (rd x7_18 x14_4)) + 1))
                      iterate 8 ((try go_quiet (fail)); try go_wp2_with (first | ((with_reducible refine gate_store (t := 3) (p := 126) rfl ?_); (try (rw [drewN_self wr]; generalize hq_ : World.drewN wr _ = wr; have n0_ := Aside0.mk (Kd.R_at hq_ HO_5.out); have n1_ := Aside0.mk (Kd.R_at hq_ HO_7.out); have n2_ := Aside0.mk (blk_at hq_ BK277.out); have n3_ := Aside0.mk (below_at hq_ HB.out); clear hq_ HO_5 HO_7 BK277 HB; have HO_5 := n0_; have HO_7 := n1_; have BK277 := n2_; have HB := n3_; clear n0_ n1_ n2_ n3_; (try (have HP69 := Kd.R_putg HO_5.out ((rd x7_18 x14_4) : Int) (wrap64 ((rd x5_4 (rd x7_18 x14_4)) + 1)))))); refine store_event (t := 3) (p := 126) (v := ?vo_w70) (w1 := (wr.setCell ⟨go66, ((rd x7_18 x14_4) : Int).toNat, none⟩ (.int .i64 (wrap64 ((rd x5_4 (rd x7_18 x14_4)) + 1))))) ?hg ?ho ?hn ?hr ?_; (case ho => rfl); (case hg => rfl); (case hn => rfl); (case hr => first | (go_simp; done) | (go_simp; rfl)); intro w70 hw; have hg : wr.grownBy w70 (some go66) := (by rw [hw]; exact HP69.2); have hp_ : Kd.R (Kd.int .i64) 3 w70 w.heap.size (fun k_ => some k_ ≠ (.slice (some ad301) x7_18.length co67 : Value).ownBlock) (.slice (some ⟨go66, 0, none⟩) x5_4.length co68) y303 := (by rw [hw, Ny303.out]; exact HP69.1); clear HP69; have n0_ := Aside0.mk (hp_); have n1_ := Aside0.mk (Kd.R_after (v := (.slice (some ⟨go66, 0, none⟩) x5_4.length co68)) (v1 := (.slice (some ⟨go66, 0, none⟩) x5_4.length co68)) (ok := (fun _ => True)) (by (with_reducible repeat (first | apply Kd.R_alloc | apply Kd.R_drewN | apply Kd.R_drew)); exact Kd.R_mono HO_7.out (fun _ hk => ⟨trivial, hk⟩)) hg (.inl rfl)); have n2_ := Aside0.mk (blk_grown (g := gb277) (o := .cells #[.int .i64 a0_0, .slice A0_1 l0_1.length c0_1] 24 (0, 0)) (by (with_reducible repeat (first | refine blk_drewN ?_ _ | refine blk_drew ?_ | refine blk_alloc ?_ _)); exact BK277.out) hg (Kd.R_ne HO_5.out BK277.out (by decide))); have n3_ := Aside0.mk ((by rw [hw]; exact below_set (HB.out) GB66.out : Below w.heap.size w w70)); clear HO_5; clear HO_7; clear BK277; clear HB; have HO_5 := n0_; have HO_7 := n1_; have BK277 := n2_; have HB := n3_; clear n0_ n1_ n2_ n3_; clear hg hw hp_)))
                      go_roundg k4
                      case measure => have := HK1.out; have := HJ8.out; have := HJ18.out; have := HK4.out; omega
                      case rel => exact ⟨(y303), (wrap64 (x14_4 + 1)), (by first | rfl | (simp; done) | (simp [*]; done)), H', ⟨by have := HK1.out; have := HJ8.out; have := HJ18.out; have := HK4.out; omega⟩, ⟨by (with_reducible repeat (first | apply Kd.R_alloc | apply Kd.R_drewN | apply Kd.R_drew)); exact HO_5.out⟩, ⟨by (with_reducible repeat (first | apply Kd.R_alloc | apply Kd.R_drewN | apply Kd.R_drew)); exact Kd.R_mono HO_7.out (fun _ hk => hk.2)⟩, ⟨by (with_reducible repeat (first | refine blk_drewN ?_ _ | refine blk_drew ?_ | refine blk_alloc ?_ _)); exact BK277.out⟩, ⟨by repeat (first | (with_reducible first | exact HB.out | apply below_alloc | apply pw_below_drewN | apply below_drew1 | refine below_set ?_ GE277.out) | exact HB.out)⟩⟩
                     ·rw [if_neg c65] at H
                      exact absurd H (by simp)
                    ·rw [if_neg c64] at H
                     exact absurd H (by simp)
                   ·rw [if_neg c63] at H
                    exact absurd H (by simp)
                  ·rw [if_neg c62] at H
                   have c62b0 : decide (x14_4 < (x7_18.length : Int)) = false := decide_eq_false c62
                   clear c62
                   have H' := Aside0.mk H
                   clear H
                   obtain ⟨Ao71, co71, eo71⟩ := Kd.R_slice HO_7.out
                   subst eo71
                   go_wp2
                   repeat (go_quiet (fail); try go_wp2)
                   go_roundg k4
                   case measure => have := HK1.out; have := HJ8.out; have := HJ18.out; have := HK4.out; omega
                   case rel => exact ⟨(x5_4), (wrap64 (x6_1 + 1)), (by first | rfl | (simp; done) | (simp [*]; done)), H', ⟨by have := HK1.out; have := HJ8.out; have := HJ18.out; have := HK4.out; omega⟩, ⟨by (with_reducible repeat (first | apply Kd.R_alloc | apply Kd.R_drewN | apply Kd.R_drew)); exact Kd.R_mono HO_5.out (fun _ hk => trivial)⟩, ⟨by (with_reducible repeat (first | refine blk_drewN ?_ _ | refine blk_drew ?_ | refine blk_alloc ?_ _)); exact BK277.out⟩, ⟨by repeat (first | (with_reducible first | exact HB.out | apply below_alloc | apply pw_below_drewN | apply below_drew1 | refine below_set ?_ GE277.out) | exact HB.out)⟩⟩
               ·rw [if_neg c61] at H
                have c61b0 : (x9_18 == 1) = false := beq_eq_false_iff_ne.mpr c61
                have c61b1 : (x9_18 != 1) = true := bne_iff_ne.mpr c61
                have H' := Aside0.mk H
                clear H
                go_wp2
                repeat (go_quiet (fail); try go_wp2)
                go_roundg kj18
                case measure => have := HK1.out; have := HJ8.out; have := HJ18.out; omega
                case rel => exact ⟨(x5_1), (wrap64 (x6_1 + 1)), (by first | rfl | (simp; done) | (simp [*]; done)), H', ⟨by have := HK1.out; have := HJ8.out; have := HJ18.out; omega⟩, ⟨by (with_reducible repeat (first | apply Kd.R_alloc | apply Kd.R_drewN | apply Kd.R_drew)); exact Kd.R_mono HO_5.out (fun _ hk => trivial)⟩, ⟨by (with_reducible repeat (first | refine blk_drewN ?_ _ | refine blk_drew ?_ | refine blk_alloc ?_ _)); exact BK277.out⟩, ⟨by repeat (first | (with_reducible first | exact HB.out | apply below_alloc | apply pw_below_drewN | apply below_drew1 | refine below_set ?_ GE277.out) | exact HB.out)⟩⟩
            ·rw [if_neg c17] at H
             exact absurd H (by simp)
           ·rw [if_neg c16] at H
            exact absurd H (by simp)
          ·rw [if_neg c14] at H
           exact absurd H (by simp)
         ·rw [if_neg c13] at H
          exact absurd H (by simp)
        ·rw [if_neg c12] at H
         exact absurd H (by simp)
       ·replace c11 := Bool.eq_false_iff.mpr c11
        subst c11
        have H1 : (some x5_1) = some r := by rw [if_neg (show ¬ (false = true) by decide)] at H; exact H
        clear H
        have H := H1
        clear H1
        obtain rfl := Option.some.inj H
        go_wp2
        repeat (go_quiet (fail); try go_wp2)
        go_ret
        exact ⟨_, by first | rfl | (simp [errW_none, errW_some] <;> rfl) | (simp [*, errW_none, errW_some] <;> rfl), by (with_reducible repeat (first | apply Kd.R_alloc | apply Kd.R_drewN | apply Kd.R_drew)); exact HO_5.out, by repeat (first | (with_reducible first | exact HB.out | apply below_alloc | apply pw_below_drewN | apply below_drew1 | refine below_set ?_ GE277.out) | exact HB.out)⟩
  ·rw [if_neg c4] at H
   exact absurd H (by simp)
 ·rw [if_neg c3] at H
  exact absurd H (by simp)
end Go.Proofs.Ytfmfojogcghkkaa.P
