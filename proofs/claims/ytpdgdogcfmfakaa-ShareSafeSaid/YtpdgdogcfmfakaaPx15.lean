-- Laid by a program of this session (wip/tools/genx.py) out of the kit's print of the translation.
import Derived.Test.YtpdgdogcfmfakaaPx0
import Derived.Test.YtpdgdogcfmfakaaPx4
import Derived.Test.YtpdgdogcfmfakaaPx9
import Derived.Test.YtpdgdogcfmfakaaPx13
import Derived.Test.YtpdgdogcfmfakaaPx14
namespace Go.Proofs.Ytpdgdogcfmfakaa.P
open Go.RowKit Go.Proofs.YtpdgdogcfmfakaaW.PrintWords Go.Proofs.YtpdgdogcfmfakaaW.PrintLast Go.Proofs.YtpdgdogcfmfakaaW.PrintMore
attribute [local go_sem] max2_int min2_int max_two min_two max_three min_three max_four min_four   -- for this text's walks alone
set_option linter.unusedVariables false
set_option linter.unusedSimpArgs false

/-! ### billetlaw15_ShareSafe: function 4 -/
mutual
def billetlaw15_ShareSafe.j0 : Nat → Int → List Int → List Int → List Int → Bool → Option (Bool)
  | 0, _, _, _, _, _ => none
  | k + 1, x0, x6, x7, x8, x31 => if x31 = true then (some false) else (billetlaw15_ShareSafe.l0 k x0 x6 x7 x8 0 0 false 0)
def billetlaw15_ShareSafe.l0 : Nat → Int → List Int → List Int → List Int → Int → Int → Bool → Int → Option (Bool)
  | 0, _, _, _, _, _, _, _, _ => none
  | k + 1, x0, x6, x7, x8, x9, x10, x11, x12 => if x12 < 3 then (if x11 = true then (if 0 ≤ x12 then (if x12 < (x8.length : Int) then (if (rd x8 x12) < 0 then (some false) else (if x12 < (x7.length : Int) then (if (rd x8 x12) > (rd x7 x12) then (some false) else (if x12 < (x6.length : Int) then (if (rd x6 x12) < 0 then (if (rd x8 x12) = 0 then (billetlaw15_ShareSafe.l0 k x0 x6 x7 x8 (wrap64 (x9 + (mx (mx (rd x6 x12) 0) (rd x8 x12)))) (wrap64 (x10 + (mx (rd x6 x12) 0))) true (wrap64 (x12 + 1))) else (some false)) else (billetlaw15_ShareSafe.l0 k x0 x6 x7 x8 (wrap64 (x9 + (mx (mx (rd x6 x12) 0) (rd x8 x12)))) (wrap64 (x10 + (mx (rd x6 x12) 0))) true (wrap64 (x12 + 1)))) else (none))) else (none))) else (none)) else (none)) else (if 0 ≤ x12 then (if x12 < (x6.length : Int) then (if x12 < (x8.length : Int) then (if (rd x8 x12) < 0 then (some false) else (if x12 < (x7.length : Int) then (if (rd x8 x12) > (rd x7 x12) then (some false) else (if (rd x6 x12) < 0 then (if (rd x8 x12) = 0 then (billetlaw15_ShareSafe.l0 k x0 x6 x7 x8 (wrap64 (x9 + (mx (mx (rd x6 x12) 0) (rd x8 x12)))) (wrap64 (x10 + (mx (rd x6 x12) 0))) (decide ((rd x6 x12) < 0)) (wrap64 (x12 + 1))) else (some false)) else (billetlaw15_ShareSafe.l0 k x0 x6 x7 x8 (wrap64 (x9 + (mx (mx (rd x6 x12) 0) (rd x8 x12)))) (wrap64 (x10 + (mx (rd x6 x12) 0))) (decide ((rd x6 x12) < 0)) (wrap64 (x12 + 1))))) else (none))) else (none)) else (none)) else (none))) else (if x9 ≤ (mx x0 x10) then (if x11 = true then (some (x9 == x10)) else (some true)) else (some false))
end
def billetlaw15_ShareSafe.f (k : Nat) (a0 : Int) (l1 : List Int) : Option (Bool) := (billetlaw15_awake.f k).bind fun t326 => ((billetlaw15_lists.f k l1).bind fun bt327 => ((billetlaw15_pick.f a0 20).bind fun t333 => ((share_Share.f k t333 bt327.1 bt327.2).bind fun t334 => (if t326 = true then (billetlaw15_ShareSafe.j0 k t333 bt327.1 bt327.2 t334 ((t334.length : Int) != 3)) else (billetlaw15_ShareSafe.j0 k t333 bt327.1 bt327.2 t334 true)))))
theorem billetlaw15_ShareSafe.mono_l : ∀ k, (∀ y0 y1 y2 y3 y4, LeO (billetlaw15_ShareSafe.j0 k y0 y1 y2 y3 y4) (billetlaw15_ShareSafe.j0 (k + 1) y0 y1 y2 y3 y4)) ∧ (∀ y0 y1 y2 y3 y4 y5 y6 y7, LeO (billetlaw15_ShareSafe.l0 k y0 y1 y2 y3 y4 y5 y6 y7) (billetlaw15_ShareSafe.l0 (k + 1) y0 y1 y2 y3 y4 y5 y6 y7))
  | 0 => ⟨fun _ _ _ _ _ r h => by simp [billetlaw15_ShareSafe.j0] at h, fun _ _ _ _ _ _ _ _ r h => by simp [billetlaw15_ShareSafe.l0] at h⟩
  | k + 1 => by
    obtain ⟨ih0, ih1⟩ := billetlaw15_ShareSafe.mono_l k
    refine ⟨?_, ?_⟩
    · intro y0 y1 y2 y3 y4
      unfold billetlaw15_ShareSafe.j0
      repeat' first
      | (with_reducible exact ih0 _ _ _ _ _)
      | (with_reducible exact ih1 _ _ _ _ _ _ _ _)
      | (with_reducible exact billetlaw15_awake.mono _)
      | (with_reducible exact billetlaw15_lists.mono _ _)
      | (with_reducible exact share_Share.mono _ _ _ _)
      | (with_reducible exact LeO.refl _)
      | (with_reducible exact LeO.none _)
      | (with_reducible refine LeO.ite ?_ ?_)
      | (with_reducible refine LeO.bind ?_ (fun _ => ?_))
      | exact ih0 _ _ _ _ _
      | exact ih1 _ _ _ _ _ _ _ _
      | exact billetlaw15_awake.mono _
      | exact billetlaw15_lists.mono _ _
      | exact share_Share.mono _ _ _ _
      | exact LeO.none _
      | refine LeO.ite ?_ ?_
      | refine LeO.bind ?_ (fun _ => ?_)
    · intro y0 y1 y2 y3 y4 y5 y6 y7
      unfold billetlaw15_ShareSafe.l0
      repeat' first
      | (with_reducible exact ih0 _ _ _ _ _)
      | (with_reducible exact ih1 _ _ _ _ _ _ _ _)
      | (with_reducible exact billetlaw15_awake.mono _)
      | (with_reducible exact billetlaw15_lists.mono _ _)
      | (with_reducible exact share_Share.mono _ _ _ _)
      | (with_reducible exact LeO.refl _)
      | (with_reducible exact LeO.none _)
      | (with_reducible refine LeO.ite ?_ ?_)
      | (with_reducible refine LeO.bind ?_ (fun _ => ?_))
      | exact ih0 _ _ _ _ _
      | exact ih1 _ _ _ _ _ _ _ _
      | exact billetlaw15_awake.mono _
      | exact billetlaw15_lists.mono _ _
      | exact share_Share.mono _ _ _ _
      | exact LeO.none _
      | refine LeO.ite ?_ ?_
      | refine LeO.bind ?_ (fun _ => ?_)
theorem billetlaw15_ShareSafe.mono : ∀ a0 a1 k, LeO (billetlaw15_ShareSafe.f k a0 a1) (billetlaw15_ShareSafe.f (k + 1) a0 a1) := by
  intro a0 a1 k
  obtain ⟨ih0, ih1⟩ := billetlaw15_ShareSafe.mono_l k
  unfold billetlaw15_ShareSafe.f
  repeat' first
      | (with_reducible exact ih0 _ _ _ _ _)
      | (with_reducible exact ih1 _ _ _ _ _ _ _ _)
      | (with_reducible exact billetlaw15_awake.mono _)
      | (with_reducible exact billetlaw15_lists.mono _ _)
      | (with_reducible exact share_Share.mono _ _ _ _)
      | (with_reducible exact LeO.refl _)
      | (with_reducible exact LeO.none _)
      | (with_reducible refine LeO.ite ?_ ?_)
      | (with_reducible refine LeO.bind ?_ (fun _ => ?_))
      | exact ih0 _ _ _ _ _
      | exact ih1 _ _ _ _ _ _ _ _
      | exact billetlaw15_awake.mono _
      | exact billetlaw15_lists.mono _ _
      | exact share_Share.mono _ _ _ _
      | exact LeO.none _
      | refine LeO.ite ?_ ?_
      | refine LeO.bind ?_ (fun _ => ?_)
set_option maxHeartbeats 8000000 in
set_option maxRecDepth 100000 in
theorem billetlaw15_ShareSafe.calls (k : Nat) (a0 : Int) (A1 : Option Addr) (c1 : Nat) (l1 : List Int) (r : Bool) (w : World) (hr1 : Kd.C (Kd.int .i64) w A1 l1.length l1) (hc1 : l1.length ≤ c1) (h : billetlaw15_ShareSafe.f k a0 l1 = some r) :
    Calls Try.prog 4 #[.int .i64 a0, .slice A1 l1.length c1] w fun e w' => e = .returned (.bool r) ∧ Below w.heap.size w w' := by
  have HR1 := Aside0.mk hr1
  have HC1 := Aside0.mk hc1
  clear hr1 hc1
  have HB := Aside0.mk (Below.refl w.heap.size w)
  have H : ((billetlaw15_awake.f k).bind fun t326 => ((billetlaw15_lists.f k l1).bind fun bt327 => ((billetlaw15_pick.f a0 20).bind fun t333 => ((share_Share.f k t333 bt327.1 bt327.2).bind fun t334 => (if t326 = true then (billetlaw15_ShareSafe.j0 k t333 bt327.1 bt327.2 t334 ((t334.length : Int) != 3)) else (billetlaw15_ShareSafe.j0 k t333 bt327.1 bt327.2 t334 true)))))) = some r := h
  clear h
  replace H := Option.bind_eq_some_iff.mp H
  obtain ⟨t326, A30, H⟩ := H
  replace H : ((billetlaw15_lists.f k l1).bind fun bt327 => ((billetlaw15_pick.f a0 20).bind fun t333 => ((share_Share.f k t333 bt327.1 bt327.2).bind fun t334 => (if t326 = true then (billetlaw15_ShareSafe.j0 k t333 bt327.1 bt327.2 t334 ((t334.length : Int) != 3)) else (billetlaw15_ShareSafe.j0 k t333 bt327.1 bt327.2 t334 true))))) = some r := H
  have A3 := Aside0.mk A30
  clear A30
  replace H := Option.bind_eq_some_iff.mp H
  obtain ⟨⟨t327, t328⟩, A40, H⟩ := H
  replace H : ((billetlaw15_pick.f a0 20).bind fun t333 => ((share_Share.f k t333 t327 t328).bind fun t334 => (if t326 = true then (billetlaw15_ShareSafe.j0 k t333 t327 t328 t334 ((t334.length : Int) != 3)) else (billetlaw15_ShareSafe.j0 k t333 t327 t328 t334 true)))) = some r := H
  have A4 := Aside0.mk A40
  clear A40
  replace H := Option.bind_eq_some_iff.mp H
  obtain ⟨t333, A50, H⟩ := H
  replace H : ((share_Share.f k t333 t327 t328).bind fun t334 => (if t326 = true then (billetlaw15_ShareSafe.j0 k t333 t327 t328 t334 ((t334.length : Int) != 3)) else (billetlaw15_ShareSafe.j0 k t333 t327 t328 t334 true))) = some r := H
  have A5 := Aside0.mk A50
  clear A50
  replace H := Option.bind_eq_some_iff.mp H
  obtain ⟨t334, A60, H⟩ := H
  replace H : (if t326 = true then (billetlaw15_ShareSafe.j0 k t333 t327 t328 t334 ((t334.length : Int) != 3)) else (billetlaw15_ShareSafe.j0 k t333 t327 t328 t334 true)) = some r := H
  have A6 := Aside0.mk A60
  clear A60
  have HC7 := Aside0.mk H
  clear H
  go_enter Try.func4, Try.ntmps4
  go_upto_region 5 with (first | (go_at_call 10; (with_reducible refine (billetlaw15_awake.calls k  t326 _ A3.out).mono ?_); rintro e w8 ⟨rfl, hb⟩; have n0_ := Aside0.mk (below_step (by repeat (first | (with_reducible first | exact HB.out | apply below_alloc | apply pw_below_drewN | apply below_drew1) | exact HB.out)) hb); clear HB; have HB := n0_; clear n0_; (try clear hb); (try clear hb2); (try clear hk); (try clear hi)) | (go_at_call 17; (with_reducible refine (billetlaw15_lists.calls k _ _ l1 t327 t328 _ ?side1 ?side2 A4.out).mono ?_); (case side1 => repeat (first | exact (Kd.C_below HR1.out HB.out) | (with_reducible refine Kd.C_alloc ?_ _) | (with_reducible refine Kd.C_drewN ?_ _) | (with_reducible refine Kd.C_drew ?_))); (case side2 => exact HC1.out); rintro e w9 ⟨v329, v331, rfl, ho0, ho1, hb⟩; have n0_ := Aside0.mk (Kd.R_lower ho0 (below_size (by repeat (first | (with_reducible first | exact HB.out | apply below_alloc | apply pw_below_drewN | apply below_drew1) | exact HB.out)))); have n1_ := Aside0.mk (Kd.R_lower ho1 (below_size (by repeat (first | (with_reducible first | exact HB.out | apply below_alloc | apply pw_below_drewN | apply below_drew1) | exact HB.out)))); have n2_ := Aside0.mk (below_step (by repeat (first | (with_reducible first | exact HB.out | apply below_alloc | apply pw_below_drewN | apply below_drew1) | exact HB.out)) hb); clear HB; have HO330 := n0_; have HO332 := n1_; have HB := n2_; clear n0_ n1_ n2_; (try clear hb); (try clear hb2); (try clear hk); (try clear hi); (try clear ho0); (try clear ho1)) | (go_at_call 18; (with_reducible refine (billetlaw15_pick.calls a0 20 t333 _ A5.out).mono ?_); rintro e w' ⟨rfl, ⟨nd, rfl⟩⟩; (try first | exact ⟨rfl, _, World.drewN_drewN _ _ _⟩ | exact ⟨rfl, _, Eq.trans (World.drewN_drewN _ _ _) (congrArg (World.drewN _) (Nat.add_assoc _ _ _))⟩); obtain ⟨Ao10, co10, eo10⟩ := Kd.R_slice HO330.out; subst eo10; obtain ⟨Ao11, co11, eo11⟩ := Kd.R_slice HO332.out; subst eo11) | (go_at_call 11; (with_reducible refine (share_Share.calls k t333 _ _ t327 _ _ t328 t334 _ ?side1 ?side2 ?side3 ?side4 A6.out).mono ?_); (case side1 => repeat (first | exact (Kd.R_reads' HO330.out).2.2 | (with_reducible refine Kd.C_alloc ?_ _) | (with_reducible refine Kd.C_drewN ?_ _) | (with_reducible refine Kd.C_drew ?_))); (case side2 => exact (Kd.R_reads' HO330.out).2.1); (case side3 => repeat (first | exact (Kd.R_reads' HO332.out).2.2 | (with_reducible refine Kd.C_alloc ?_ _) | (with_reducible refine Kd.C_drewN ?_ _) | (with_reducible refine Kd.C_drew ?_))); (case side4 => exact (Kd.R_reads' HO332.out).2.1); rintro e w12 ⟨v335, rfl, ho0, hb⟩; have n0_ := Aside0.mk (Kd.R_elder' (by (with_reducible repeat (first | apply Kd.R_alloc | apply Kd.R_drewN | apply Kd.R_drew)); exact HO330.out) (Kd.R_base ho0) hb); have n1_ := Aside0.mk (Kd.R_elder' (by (with_reducible repeat (first | apply Kd.R_alloc | apply Kd.R_drewN | apply Kd.R_drew)); exact HO332.out) (Kd.R_base ho0) hb); have n2_ := Aside0.mk (Kd.R_lower (Kd.R_new' (Kd.R_new' ho0 (Kd.R_lt (by (with_reducible repeat (first | apply Kd.R_alloc | apply Kd.R_drewN | apply Kd.R_drew)); exact HO330.out))) (Kd.R_lt (by (with_reducible repeat (first | apply Kd.R_alloc | apply Kd.R_drewN | apply Kd.R_drew)); exact HO332.out))) (below_size (by repeat (first | (with_reducible first | exact HB.out | apply below_alloc | apply pw_below_drewN | apply below_drew1) | exact HB.out)))); have n3_ := Aside0.mk (below_step (by repeat (first | (with_reducible first | exact HB.out | apply below_alloc | apply pw_below_drewN | apply below_drew1) | exact HB.out)) hb); clear HO330; clear HO332; clear HB; have HO330 := n0_; have HO332 := n1_; have HO336 := n2_; have HB := n3_; clear n0_ n1_ n2_ n3_; (try clear hb); (try clear hb2); (try clear hk); (try clear hi); (try clear ho0)))
  repeat (go_quiet (first | (go_at_call 10; (with_reducible refine (billetlaw15_awake.calls k  t326 _ A3.out).mono ?_); rintro e w8 ⟨rfl, hb⟩; have n0_ := Aside0.mk (below_step (by repeat (first | (with_reducible first | exact HB.out | apply below_alloc | apply pw_below_drewN | apply below_drew1) | exact HB.out)) hb); clear HB; have HB := n0_; clear n0_; (try clear hb); (try clear hb2); (try clear hk); (try clear hi)) | (go_at_call 17; (with_reducible refine (billetlaw15_lists.calls k _ _ l1 t327 t328 _ ?side1 ?side2 A4.out).mono ?_); (case side1 => repeat (first | exact (Kd.C_below HR1.out HB.out) | (with_reducible refine Kd.C_alloc ?_ _) | (with_reducible refine Kd.C_drewN ?_ _) | (with_reducible refine Kd.C_drew ?_))); (case side2 => exact HC1.out); rintro e w9 ⟨v329, v331, rfl, ho0, ho1, hb⟩; have n0_ := Aside0.mk (Kd.R_lower ho0 (below_size (by repeat (first | (with_reducible first | exact HB.out | apply below_alloc | apply pw_below_drewN | apply below_drew1) | exact HB.out)))); have n1_ := Aside0.mk (Kd.R_lower ho1 (below_size (by repeat (first | (with_reducible first | exact HB.out | apply below_alloc | apply pw_below_drewN | apply below_drew1) | exact HB.out)))); have n2_ := Aside0.mk (below_step (by repeat (first | (with_reducible first | exact HB.out | apply below_alloc | apply pw_below_drewN | apply below_drew1) | exact HB.out)) hb); clear HB; have HO330 := n0_; have HO332 := n1_; have HB := n2_; clear n0_ n1_ n2_; (try clear hb); (try clear hb2); (try clear hk); (try clear hi); (try clear ho0); (try clear ho1)) | (go_at_call 18; (with_reducible refine (billetlaw15_pick.calls a0 20 t333 _ A5.out).mono ?_); rintro e w' ⟨rfl, ⟨nd, rfl⟩⟩; (try first | exact ⟨rfl, _, World.drewN_drewN _ _ _⟩ | exact ⟨rfl, _, Eq.trans (World.drewN_drewN _ _ _) (congrArg (World.drewN _) (Nat.add_assoc _ _ _))⟩); obtain ⟨Ao10, co10, eo10⟩ := Kd.R_slice HO330.out; subst eo10; obtain ⟨Ao11, co11, eo11⟩ := Kd.R_slice HO332.out; subst eo11) | (go_at_call 11; (with_reducible refine (share_Share.calls k t333 _ _ t327 _ _ t328 t334 _ ?side1 ?side2 ?side3 ?side4 A6.out).mono ?_); (case side1 => repeat (first | exact (Kd.R_reads' HO330.out).2.2 | (with_reducible refine Kd.C_alloc ?_ _) | (with_reducible refine Kd.C_drewN ?_ _) | (with_reducible refine Kd.C_drew ?_))); (case side2 => exact (Kd.R_reads' HO330.out).2.1); (case side3 => repeat (first | exact (Kd.R_reads' HO332.out).2.2 | (with_reducible refine Kd.C_alloc ?_ _) | (with_reducible refine Kd.C_drewN ?_ _) | (with_reducible refine Kd.C_drew ?_))); (case side4 => exact (Kd.R_reads' HO332.out).2.1); rintro e w12 ⟨v335, rfl, ho0, hb⟩; have n0_ := Aside0.mk (Kd.R_elder' (by (with_reducible repeat (first | apply Kd.R_alloc | apply Kd.R_drewN | apply Kd.R_drew)); exact HO330.out) (Kd.R_base ho0) hb); have n1_ := Aside0.mk (Kd.R_elder' (by (with_reducible repeat (first | apply Kd.R_alloc | apply Kd.R_drewN | apply Kd.R_drew)); exact HO332.out) (Kd.R_base ho0) hb); have n2_ := Aside0.mk (Kd.R_lower (Kd.R_new' (Kd.R_new' ho0 (Kd.R_lt (by (with_reducible repeat (first | apply Kd.R_alloc | apply Kd.R_drewN | apply Kd.R_drew)); exact HO330.out))) (Kd.R_lt (by (with_reducible repeat (first | apply Kd.R_alloc | apply Kd.R_drewN | apply Kd.R_drew)); exact HO332.out))) (below_size (by repeat (first | (with_reducible first | exact HB.out | apply below_alloc | apply pw_below_drewN | apply below_drew1) | exact HB.out)))); have n3_ := Aside0.mk (below_step (by repeat (first | (with_reducible first | exact HB.out | apply below_alloc | apply pw_below_drewN | apply below_drew1) | exact HB.out)) hb); clear HO330; clear HO332; clear HB; have HO330 := n0_; have HO332 := n1_; have HO336 := n2_; have HB := n3_; clear n0_ n1_ n2_ n3_; (try clear hb); (try clear hb2); (try clear hk); (try clear hi); (try clear ho0))); go_upto_region 5 with (first | (go_at_call 10; (with_reducible refine (billetlaw15_awake.calls k  t326 _ A3.out).mono ?_); rintro e w8 ⟨rfl, hb⟩; have n0_ := Aside0.mk (below_step (by repeat (first | (with_reducible first | exact HB.out | apply below_alloc | apply pw_below_drewN | apply below_drew1) | exact HB.out)) hb); clear HB; have HB := n0_; clear n0_; (try clear hb); (try clear hb2); (try clear hk); (try clear hi)) | (go_at_call 17; (with_reducible refine (billetlaw15_lists.calls k _ _ l1 t327 t328 _ ?side1 ?side2 A4.out).mono ?_); (case side1 => repeat (first | exact (Kd.C_below HR1.out HB.out) | (with_reducible refine Kd.C_alloc ?_ _) | (with_reducible refine Kd.C_drewN ?_ _) | (with_reducible refine Kd.C_drew ?_))); (case side2 => exact HC1.out); rintro e w9 ⟨v329, v331, rfl, ho0, ho1, hb⟩; have n0_ := Aside0.mk (Kd.R_lower ho0 (below_size (by repeat (first | (with_reducible first | exact HB.out | apply below_alloc | apply pw_below_drewN | apply below_drew1) | exact HB.out)))); have n1_ := Aside0.mk (Kd.R_lower ho1 (below_size (by repeat (first | (with_reducible first | exact HB.out | apply below_alloc | apply pw_below_drewN | apply below_drew1) | exact HB.out)))); have n2_ := Aside0.mk (below_step (by repeat (first | (with_reducible first | exact HB.out | apply below_alloc | apply pw_below_drewN | apply below_drew1) | exact HB.out)) hb); clear HB; have HO330 := n0_; have HO332 := n1_; have HB := n2_; clear n0_ n1_ n2_; (try clear hb); (try clear hb2); (try clear hk); (try clear hi); (try clear ho0); (try clear ho1)) | (go_at_call 18; (with_reducible refine (billetlaw15_pick.calls a0 20 t333 _ A5.out).mono ?_); rintro e w' ⟨rfl, ⟨nd, rfl⟩⟩; (try first | exact ⟨rfl, _, World.drewN_drewN _ _ _⟩ | exact ⟨rfl, _, Eq.trans (World.drewN_drewN _ _ _) (congrArg (World.drewN _) (Nat.add_assoc _ _ _))⟩); obtain ⟨Ao10, co10, eo10⟩ := Kd.R_slice HO330.out; subst eo10; obtain ⟨Ao11, co11, eo11⟩ := Kd.R_slice HO332.out; subst eo11) | (go_at_call 11; (with_reducible refine (share_Share.calls k t333 _ _ t327 _ _ t328 t334 _ ?side1 ?side2 ?side3 ?side4 A6.out).mono ?_); (case side1 => repeat (first | exact (Kd.R_reads' HO330.out).2.2 | (with_reducible refine Kd.C_alloc ?_ _) | (with_reducible refine Kd.C_drewN ?_ _) | (with_reducible refine Kd.C_drew ?_))); (case side2 => exact (Kd.R_reads' HO330.out).2.1); (case side3 => repeat (first | exact (Kd.R_reads' HO332.out).2.2 | (with_reducible refine Kd.C_alloc ?_ _) | (with_reducible refine Kd.C_drewN ?_ _) | (with_reducible refine Kd.C_drew ?_))); (case side4 => exact (Kd.R_reads' HO332.out).2.1); rintro e w12 ⟨v335, rfl, ho0, hb⟩; have n0_ := Aside0.mk (Kd.R_elder' (by (with_reducible repeat (first | apply Kd.R_alloc | apply Kd.R_drewN | apply Kd.R_drew)); exact HO330.out) (Kd.R_base ho0) hb); have n1_ := Aside0.mk (Kd.R_elder' (by (with_reducible repeat (first | apply Kd.R_alloc | apply Kd.R_drewN | apply Kd.R_drew)); exact HO332.out) (Kd.R_base ho0) hb); have n2_ := Aside0.mk (Kd.R_lower (Kd.R_new' (Kd.R_new' ho0 (Kd.R_lt (by (with_reducible repeat (first | apply Kd.R_alloc | apply Kd.R_drewN | apply Kd.R_drew)); exact HO330.out))) (Kd.R_lt (by (with_reducible repeat (first | apply Kd.R_alloc | apply Kd.R_drewN | apply Kd.R_drew)); exact HO332.out))) (below_size (by repeat (first | (with_reducible first | exact HB.out | apply below_alloc | apply pw_below_drewN | apply below_drew1) | exact HB.out)))); have n3_ := Aside0.mk (below_step (by repeat (first | (with_reducible first | exact HB.out | apply below_alloc | apply pw_below_drewN | apply below_drew1) | exact HB.out)) hb); clear HO330; clear HO332; clear HB; have HO330 := n0_; have HO332 := n1_; have HO336 := n2_; have HB := n3_; clear n0_ n1_ n2_ n3_; (try clear hb); (try clear hb2); (try clear hk); (try clear hi); (try clear ho0))))
  (try simp only [Act.put, List.setIfInBounds_toArray, List.set_cons_zero, List.set_cons_succ])
  go_cut [31] (fun v31 wc => ∃ (kq : Nat) (x31_6 : Bool), v31 = .bool x31_6 ∧ Aside0 (billetlaw15_ShareSafe.j0 kq t333 t327 t328 t334 x31_6 = some r) ∧ Aside0 (kq ≤ k) ∧ Aside0 (Kd.R (Kd.int .i64) 3 wc w.heap.size (fun k_ => some k_ ≠ ((.slice Ao11 t328.length co11) : Value).ownBlock ∧ some k_ ≠ (v335 : Value).ownBlock) (.slice Ao10 t327.length co10) t327) ∧ Aside0 (Kd.R (Kd.int .i64) 3 wc w.heap.size (fun k_ => some k_ ≠ ((.slice Ao10 t327.length co10) : Value).ownBlock ∧ some k_ ≠ (v335 : Value).ownBlock) (.slice Ao11 t328.length co11) t328) ∧ Aside0 (Kd.R (Kd.int .i64) 3 wc w.heap.size (fun k_ => some k_ ≠ ((.slice Ao10 t327.length co10) : Value).ownBlock ∧ some k_ ≠ ((.slice Ao11 t328.length co11) : Value).ownBlock) v335 t334) ∧ Aside0 (Below w.heap.size w wc))
  case first =>
    have H := HC7.out
    clear HC7
    by_cases c13 : t326 = true
    · subst c13
      have H1 : (billetlaw15_ShareSafe.j0 k t333 t327 t328 t334 ((t334.length : Int) != 3)) = some r := by rw [if_pos rfl] at H; exact H
      clear H
      have H := H1
      clear H1
      have H' := Aside0.mk H
      clear H
      obtain ⟨Ao14, co14, eo14⟩ := Kd.R_slice HO336.out
      subst eo14
      go_wp2
      repeat (go_quiet (fail); try go_wp2)
      go_meet
      case rel => exact ⟨_, (((t334.length : Int) != 3)), (by first | rfl | (simp; done) | (simp [*]; done)), H', ⟨by first | omega | exact Nat.le_refl _⟩, ⟨by (with_reducible repeat (first | apply Kd.R_alloc | apply Kd.R_drewN | apply Kd.R_drew)); exact HO330.out⟩, ⟨by (with_reducible repeat (first | apply Kd.R_alloc | apply Kd.R_drewN | apply Kd.R_drew)); exact HO332.out⟩, ⟨by (with_reducible repeat (first | apply Kd.R_alloc | apply Kd.R_drewN | apply Kd.R_drew)); exact Kd.R_mono HO336.out (fun _ hk => ⟨hk.1.2, hk.2⟩)⟩, ⟨by repeat (first | (with_reducible first | exact HB.out | apply below_alloc | apply pw_below_drewN | apply below_drew1) | exact HB.out)⟩⟩
    · replace c13 := Bool.eq_false_iff.mpr c13
      subst c13
      have H1 : (billetlaw15_ShareSafe.j0 k t333 t327 t328 t334 true) = some r := by rw [if_neg (show ¬ (false = true) by decide)] at H; exact H
      clear H
      have H := H1
      clear H1
      have H' := Aside0.mk H
      clear H
      go_wp2
      repeat (go_quiet (fail); try go_wp2)
      go_meet
      case rel => exact ⟨_, (true), (by first | rfl | (simp; done) | (simp [*]; done)), H', ⟨by first | omega | exact Nat.le_refl _⟩, ⟨by (with_reducible repeat (first | apply Kd.R_alloc | apply Kd.R_drewN | apply Kd.R_drew)); exact HO330.out⟩, ⟨by (with_reducible repeat (first | apply Kd.R_alloc | apply Kd.R_drewN | apply Kd.R_drew)); exact HO332.out⟩, ⟨by (with_reducible repeat (first | apply Kd.R_alloc | apply Kd.R_drewN | apply Kd.R_drew)); exact Kd.R_mono HO336.out (fun _ hk => ⟨hk.1.2, hk.2⟩)⟩, ⟨by repeat (first | (with_reducible first | exact HB.out | apply below_alloc | apply pw_below_drewN | apply below_drew1) | exact HB.out)⟩⟩
  case rest =>
    clear HC7
    try clear c1
    try clear p2
    try clear c4
    try clear c13
    obtain ⟨kq, x31_6, rfl, HA, HJ6, HO_6, HO_7, HO_8, HB⟩ := hcut
    cases kq with
    | zero => exact absurd HA.out (by simp [billetlaw15_ShareSafe.j0])
    | succ kj6 =>
      have H := HA.out
      clear HA
      simp only [billetlaw15_ShareSafe.j0] at H
      by_cases c15 : x31_6 = true
      · subst c15
        have H1 : (some false) = some r := by rw [if_pos rfl] at H; exact H
        clear H
        have H := H1
        clear H1
        obtain rfl := Option.some.inj H
        go_wp2
        repeat (go_quiet (fail); try go_wp2)
        go_ret
        exact ⟨by first | rfl | (simp [errW_none, errW_some] <;> rfl) | (simp [*, errW_none, errW_some] <;> rfl), by repeat (first | (with_reducible first | exact HB.out | apply below_alloc | apply pw_below_drewN | apply below_drew1) | exact HB.out)⟩
      · replace c15 := Bool.eq_false_iff.mpr c15
        subst c15
        have H1 : (billetlaw15_ShareSafe.l0 kj6 t333 t327 t328 t334 0 0 false 0) = some r := by rw [if_neg (show ¬ (false = true) by decide)] at H; exact H
        clear H
        have H := H1
        clear H1
        have H' := Aside0.mk H
        clear H
        go_wp2
        repeat (go_quiet (fail); try go_wp2)
        go_loopg [9, 10, 11, 12] kj6 (fun kq v9 v10 v11 v12 w' => ∃ (x9_2 : Int) (x10_2 : Int) (x11_2 : Bool) (x12_2 : Int), v9 = .int .i64 x9_2 ∧ v10 = .int .i64 x10_2 ∧ v11 = .bool x11_2 ∧ v12 = .int .i64 x12_2 ∧ Aside0 (billetlaw15_ShareSafe.l0 kq t333 t327 t328 t334 x9_2 x10_2 x11_2 x12_2 = some r) ∧ Aside0 (kq ≤ kj6) ∧ Aside0 (Kd.R (Kd.int .i64) 3 w' w.heap.size (fun k_ => some k_ ≠ ((.slice Ao11 t328.length co11) : Value).ownBlock ∧ some k_ ≠ (v335 : Value).ownBlock) (.slice Ao10 t327.length co10) t327) ∧ Aside0 (Kd.R (Kd.int .i64) 3 w' w.heap.size (fun k_ => some k_ ≠ ((.slice Ao10 t327.length co10) : Value).ownBlock ∧ some k_ ≠ (v335 : Value).ownBlock) (.slice Ao11 t328.length co11) t328) ∧ Aside0 (Kd.R (Kd.int .i64) 3 w' w.heap.size (fun k_ => some k_ ≠ ((.slice Ao10 t327.length co10) : Value).ownBlock ∧ some k_ ≠ ((.slice Ao11 t328.length co11) : Value).ownBlock) v335 t334) ∧ Aside0 (Below w.heap.size w w'))
        case atStart => exact ⟨(0), (0), (false), (0), (by first | rfl | (simp; done) | (simp [*]; done)), (by first | rfl | (simp; done) | (simp [*]; done)), (by first | rfl | (simp; done) | (simp [*]; done)), (by first | rfl | (simp; done) | (simp [*]; done)), H', ⟨Nat.le_refl _⟩, ⟨by (with_reducible repeat (first | apply Kd.R_alloc | apply Kd.R_drewN | apply Kd.R_drew)); exact HO_6.out⟩, ⟨by (with_reducible repeat (first | apply Kd.R_alloc | apply Kd.R_drewN | apply Kd.R_drew)); exact HO_7.out⟩, ⟨by (with_reducible repeat (first | apply Kd.R_alloc | apply Kd.R_drewN | apply Kd.R_drew)); exact HO_8.out⟩, ⟨by repeat (first | (with_reducible first | exact HB.out | apply below_alloc | apply pw_below_drewN | apply below_drew1) | exact HB.out)⟩⟩
        case round =>
          clear H'
          try clear c1
          try clear p2
          try clear c4
          try clear c13
          try clear c15
          try clear p2
          obtain ⟨x9_2, x10_2, x11_2, x12_2, rfl, rfl, rfl, rfl, HA, HK2, HO_6, HO_7, HO_8, HB⟩ := hrel
          cases gk with
          | zero => exact absurd HA.out (by simp [billetlaw15_ShareSafe.l0])
          | succ k2 =>
            have H := HA.out
            clear HA
            simp only [billetlaw15_ShareSafe.l0] at H
            by_cases c16 : x12_2 < 3
            · rw [if_pos c16] at H
              have c16b0 : decide (x12_2 < 3) = true := decide_eq_true c16
              clear c16
              by_cases c17 : x11_2 = true
              · subst c17
                have H1 : (if 0 ≤ x12_2 then (if x12_2 < (t334.length : Int) then (if (rd t334 x12_2) < 0 then (some false) else (if x12_2 < (t328.length : Int) then (if (rd t334 x12_2) > (rd t328 x12_2) then (some false) else (if x12_2 < (t327.length : Int) then (if (rd t327 x12_2) < 0 then (if (rd t334 x12_2) = 0 then (billetlaw15_ShareSafe.l0 k2 t333 t327 t328 t334 (wrap64 (x9_2 + (mx (mx (rd t327 x12_2) 0) (rd t334 x12_2)))) (wrap64 (x10_2 + (mx (rd t327 x12_2) 0))) true (wrap64 (x12_2 + 1))) else (some false)) else (billetlaw15_ShareSafe.l0 k2 t333 t327 t328 t334 (wrap64 (x9_2 + (mx (mx (rd t327 x12_2) 0) (rd t334 x12_2)))) (wrap64 (x10_2 + (mx (rd t327 x12_2) 0))) true (wrap64 (x12_2 + 1)))) else (none))) else (none))) else (none)) else (none)) = some r := by rw [if_pos rfl] at H; exact H
                clear H
                have H := H1
                clear H1
                by_cases c18 : 0 ≤ x12_2
                · rw [if_pos c18] at H
                  have c18b0 : decide (0 ≤ x12_2) = true := decide_eq_true c18
                  clear c18
                  by_cases c19 : x12_2 < (t334.length : Int)
                  · rw [if_pos c19] at H
                    have c19b0 : decide (x12_2 < (t334.length : Int)) = true := decide_eq_true c19
                    clear c19
                    by_cases c20 : (rd t334 x12_2) < 0
                    · rw [if_pos c20] at H
                      have c20b0 : decide ((rd t334 x12_2) < 0) = true := decide_eq_true c20
                      clear c20
                      obtain rfl := Option.some.inj H
                      obtain ⟨Ao21, co21, eo21⟩ := Kd.R_slice HO_8.out
                      subst eo21
                      have p337 : 0 ≤ (x12_2 : Int) := of_decide_eq_true (by first | (with_reducible assumption) | assumption)
                      have q337 : x12_2 < (t334.length : Int) := of_decide_eq_true (by first | (with_reducible assumption) | assumption)
                      obtain ⟨ad337, e337, hx337_0⟩ := Kd.at_int (Kd.R_reads' HO_8.out).2.2 x12_2 p337 q337
                      cases e337
                      replace p337 := eq_true p337
                      replace q337 := eq_true q337
                      go_wp2
                      repeat (go_quiet (fail); try go_wp2)
                      go_ret
                      exact ⟨by first | rfl | (simp [errW_none, errW_some] <;> rfl) | (simp [*, errW_none, errW_some] <;> rfl), by repeat (first | (with_reducible first | exact HB.out | apply below_alloc | apply pw_below_drewN | apply below_drew1) | exact HB.out)⟩
                    · rw [if_neg c20] at H
                      have c20b0 : decide ((rd t334 x12_2) < 0) = false := decide_eq_false c20
                      clear c20
                      by_cases c22 : x12_2 < (t328.length : Int)
                      · rw [if_pos c22] at H
                        have c22b0 : decide (x12_2 < (t328.length : Int)) = true := decide_eq_true c22
                        clear c22
                        by_cases c23 : (rd t334 x12_2) > (rd t328 x12_2)
                        · rw [if_pos c23] at H
                          have c23b0 : decide ((rd t328 x12_2) < (rd t334 x12_2)) = true := decide_eq_true c23
                          clear c23
                          obtain rfl := Option.some.inj H
                          obtain ⟨Ao24, co24, eo24⟩ := Kd.R_slice HO_8.out
                          subst eo24
                          have p337 : 0 ≤ (x12_2 : Int) := of_decide_eq_true (by first | (with_reducible assumption) | assumption)
                          have q337 : x12_2 < (t334.length : Int) := of_decide_eq_true (by first | (with_reducible assumption) | assumption)
                          obtain ⟨ad337, e337, hx337_0⟩ := Kd.at_int (Kd.R_reads' HO_8.out).2.2 x12_2 p337 q337
                          cases e337
                          replace p337 := eq_true p337
                          replace q337 := eq_true q337
                          have p338 : 0 ≤ (x12_2 : Int) := of_decide_eq_true (by first | (with_reducible assumption) | assumption)
                          have q338 : x12_2 < (t334.length : Int) := of_decide_eq_true (by first | (with_reducible assumption) | assumption)
                          obtain ⟨ad338, e338, hx338_0⟩ := Kd.at_int (Kd.R_reads' HO_8.out).2.2 x12_2 p338 q338
                          obtain rfl : ad337 = ad338 := (by injection e338)
                          replace p338 := eq_true p338
                          replace q338 := eq_true q338
                          have p339 : 0 ≤ (x12_2 : Int) := of_decide_eq_true (by first | (with_reducible assumption) | assumption)
                          have q339 : x12_2 < (t328.length : Int) := of_decide_eq_true (by first | (with_reducible assumption) | assumption)
                          obtain ⟨ad339, e339, hx339_0⟩ := Kd.at_int (Kd.R_reads' HO_7.out).2.2 x12_2 p339 q339
                          cases e339
                          replace p339 := eq_true p339
                          replace q339 := eq_true q339
                          go_wp2
                          repeat (go_quiet (fail); try go_wp2)
                          go_ret
                          exact ⟨by first | rfl | (simp [errW_none, errW_some] <;> rfl) | (simp [*, errW_none, errW_some] <;> rfl), by repeat (first | (with_reducible first | exact HB.out | apply below_alloc | apply pw_below_drewN | apply below_drew1) | exact HB.out)⟩
                        · rw [if_neg c23] at H
                          have c23b0 : decide ((rd t328 x12_2) < (rd t334 x12_2)) = false := decide_eq_false c23
                          clear c23
                          by_cases c25 : x12_2 < (t327.length : Int)
                          · rw [if_pos c25] at H
                            have c25b0 : decide (x12_2 < (t327.length : Int)) = true := decide_eq_true c25
                            clear c25
                            by_cases c26 : (rd t327 x12_2) < 0
                            · rw [if_pos c26] at H
                              have c26b0 : decide ((rd t327 x12_2) < 0) = true := decide_eq_true c26
                              clear c26
                              by_cases c27 : (rd t334 x12_2) = 0
                              · rw [if_pos c27] at H
                                have c27b0 : ((rd t334 x12_2) == 0) = true := beq_iff_eq.mpr c27
                                have c27b1 : ((rd t334 x12_2) != 0) = false := bne_eq_false_iff_eq.mpr c27
                                clear c27
                                obtain ⟨ji28, hji28⟩ : ∃ j_ : Int, (mx (rd t327 x12_2) 0) = j_ := ⟨_, rfl⟩
                                replace H : (billetlaw15_ShareSafe.l0 k2 t333 t327 t328 t334 (wrap64 (x9_2 + (mx (ji28) (rd t334 x12_2)))) (wrap64 (x10_2 + (ji28))) true (wrap64 (x12_2 + 1))) = some r := by first | (rw [hji28] at H; exact H) | (simp only [hji28] at H ⊢; exact H)
                                have hji28_ : (if (rd t327 x12_2) < 0 then 0 else (rd t327 x12_2)) = ji28 := hji28
                                obtain ⟨ji29, hji29⟩ : ∃ j_ : Int, (mx (ji28) (rd t334 x12_2)) = j_ := ⟨_, rfl⟩
                                replace H : (billetlaw15_ShareSafe.l0 k2 t333 t327 t328 t334 (wrap64 (x9_2 + (ji29))) (wrap64 (x10_2 + (ji28))) true (wrap64 (x12_2 + 1))) = some r := by first | (rw [hji29] at H; exact H) | (simp only [hji29] at H ⊢; exact H)
                                have hji29_ : (if (ji28) < (rd t334 x12_2) then (rd t334 x12_2) else (ji28)) = ji29 := hji29
                                have H' := Aside0.mk H
                                clear H
                                obtain ⟨Ao31, co31, eo31⟩ := Kd.R_slice HO_8.out
                                subst eo31
                                have p337 : 0 ≤ (x12_2 : Int) := of_decide_eq_true (by first | (with_reducible assumption) | assumption)
                                have q337 : x12_2 < (t334.length : Int) := of_decide_eq_true (by first | (with_reducible assumption) | assumption)
                                obtain ⟨ad337, e337, hx337_0⟩ := Kd.at_int (Kd.R_reads' HO_8.out).2.2 x12_2 p337 q337
                                cases e337
                                replace p337 := eq_true p337
                                replace q337 := eq_true q337
                                have p338 : 0 ≤ (x12_2 : Int) := of_decide_eq_true (by first | (with_reducible assumption) | assumption)
                                have q338 : x12_2 < (t334.length : Int) := of_decide_eq_true (by first | (with_reducible assumption) | assumption)
                                obtain ⟨ad338, e338, hx338_0⟩ := Kd.at_int (Kd.R_reads' HO_8.out).2.2 x12_2 p338 q338
                                obtain rfl : ad337 = ad338 := (by injection e338)
                                replace p338 := eq_true p338
                                replace q338 := eq_true q338
                                have p339 : 0 ≤ (x12_2 : Int) := of_decide_eq_true (by first | (with_reducible assumption) | assumption)
                                have q339 : x12_2 < (t328.length : Int) := of_decide_eq_true (by first | (with_reducible assumption) | assumption)
                                obtain ⟨ad339, e339, hx339_0⟩ := Kd.at_int (Kd.R_reads' HO_7.out).2.2 x12_2 p339 q339
                                cases e339
                                replace p339 := eq_true p339
                                replace q339 := eq_true q339
                                have p340 : 0 ≤ (x12_2 : Int) := of_decide_eq_true (by first | (with_reducible assumption) | assumption)
                                have q340 : x12_2 < (t327.length : Int) := of_decide_eq_true (by first | (with_reducible assumption) | assumption)
                                obtain ⟨ad340, e340, hx340_0⟩ := Kd.at_int (Kd.R_reads' HO_6.out).2.2 x12_2 p340 q340
                                cases e340
                                replace p340 := eq_true p340
                                replace q340 := eq_true q340
                                have p341 : 0 ≤ (x12_2 : Int) := of_decide_eq_true (by first | (with_reducible assumption) | assumption)
                                have q341 : x12_2 < (t334.length : Int) := of_decide_eq_true (by first | (with_reducible assumption) | assumption)
                                obtain ⟨ad341, e341, hx341_0⟩ := Kd.at_int (Kd.R_reads' HO_8.out).2.2 x12_2 p341 q341
                                obtain rfl : ad337 = ad341 := (by injection e341)
                                replace p341 := eq_true p341
                                replace q341 := eq_true q341
                                have p342 : 0 ≤ (x12_2 : Int) := of_decide_eq_true (by first | (with_reducible assumption) | assumption)
                                have q342 : x12_2 < (t327.length : Int) := of_decide_eq_true (by first | (with_reducible assumption) | assumption)
                                obtain ⟨ad342, e342, hx342_0⟩ := Kd.at_int (Kd.R_reads' HO_6.out).2.2 x12_2 p342 q342
                                obtain rfl : ad340 = ad342 := (by injection e342)
                                replace p342 := eq_true p342
                                replace q342 := eq_true q342
                                have p343 : 0 ≤ (x12_2 : Int) := of_decide_eq_true (by first | (with_reducible assumption) | assumption)
                                have q343 : x12_2 < (t334.length : Int) := of_decide_eq_true (by first | (with_reducible assumption) | assumption)
                                obtain ⟨ad343, e343, hx343_0⟩ := Kd.at_int (Kd.R_reads' HO_8.out).2.2 x12_2 p343 q343
                                obtain rfl : ad337 = ad343 := (by injection e343)
                                replace p343 := eq_true p343
                                replace q343 := eq_true q343
                                have p344 : 0 ≤ (x12_2 : Int) := of_decide_eq_true (by first | (with_reducible assumption) | assumption)
                                have q344 : x12_2 < (t327.length : Int) := of_decide_eq_true (by first | (with_reducible assumption) | assumption)
                                obtain ⟨ad344, e344, hx344_0⟩ := Kd.at_int (Kd.R_reads' HO_6.out).2.2 x12_2 p344 q344
                                obtain rfl : ad340 = ad344 := (by injection e344)
                                replace p344 := eq_true p344
                                replace q344 := eq_true q344
                                go_wp2
                                repeat (go_quiet (fail); try go_wp2)
                                go_roundg k2
                                case measure => have := HJ6.out; have := HK2.out; omega
                                case rel => exact ⟨(wrap64 (x9_2 + (ji29))), (wrap64 (x10_2 + (ji28))), (true), (wrap64 (x12_2 + 1)), (by first | rfl | (simp; done) | (simp only [← hji29] <;> (first | rfl | simp)) | (simp [*]; done)), (by first | rfl | (simp; done) | (simp only [← hji28] <;> (first | rfl | simp)) | (simp [*]; done)), (by first | rfl | (simp; done) | (simp [*]; done)), (by first | rfl | (simp; done) | (simp [*]; done)), H', ⟨by have := HJ6.out; have := HK2.out; omega⟩, ⟨by (with_reducible repeat (first | apply Kd.R_alloc | apply Kd.R_drewN | apply Kd.R_drew)); exact HO_6.out⟩, ⟨by (with_reducible repeat (first | apply Kd.R_alloc | apply Kd.R_drewN | apply Kd.R_drew)); exact HO_7.out⟩, ⟨by (with_reducible repeat (first | apply Kd.R_alloc | apply Kd.R_drewN | apply Kd.R_drew)); exact HO_8.out⟩, ⟨by repeat (first | (with_reducible first | exact HB.out | apply below_alloc | apply pw_below_drewN | apply below_drew1) | exact HB.out)⟩⟩
                              · rw [if_neg c27] at H
                                have c27b0 : ((rd t334 x12_2) == 0) = false := beq_eq_false_iff_ne.mpr c27
                                have c27b1 : ((rd t334 x12_2) != 0) = true := bne_iff_ne.mpr c27
                                obtain rfl := Option.some.inj H
                                obtain ⟨Ao32, co32, eo32⟩ := Kd.R_slice HO_8.out
                                subst eo32
                                have p337 : 0 ≤ (x12_2 : Int) := of_decide_eq_true (by first | (with_reducible assumption) | assumption)
                                have q337 : x12_2 < (t334.length : Int) := of_decide_eq_true (by first | (with_reducible assumption) | assumption)
                                obtain ⟨ad337, e337, hx337_0⟩ := Kd.at_int (Kd.R_reads' HO_8.out).2.2 x12_2 p337 q337
                                cases e337
                                replace p337 := eq_true p337
                                replace q337 := eq_true q337
                                have p338 : 0 ≤ (x12_2 : Int) := of_decide_eq_true (by first | (with_reducible assumption) | assumption)
                                have q338 : x12_2 < (t334.length : Int) := of_decide_eq_true (by first | (with_reducible assumption) | assumption)
                                obtain ⟨ad338, e338, hx338_0⟩ := Kd.at_int (Kd.R_reads' HO_8.out).2.2 x12_2 p338 q338
                                obtain rfl : ad337 = ad338 := (by injection e338)
                                replace p338 := eq_true p338
                                replace q338 := eq_true q338
                                have p339 : 0 ≤ (x12_2 : Int) := of_decide_eq_true (by first | (with_reducible assumption) | assumption)
                                have q339 : x12_2 < (t328.length : Int) := of_decide_eq_true (by first | (with_reducible assumption) | assumption)
                                obtain ⟨ad339, e339, hx339_0⟩ := Kd.at_int (Kd.R_reads' HO_7.out).2.2 x12_2 p339 q339
                                cases e339
                                replace p339 := eq_true p339
                                replace q339 := eq_true q339
                                have p340 : 0 ≤ (x12_2 : Int) := of_decide_eq_true (by first | (with_reducible assumption) | assumption)
                                have q340 : x12_2 < (t327.length : Int) := of_decide_eq_true (by first | (with_reducible assumption) | assumption)
                                obtain ⟨ad340, e340, hx340_0⟩ := Kd.at_int (Kd.R_reads' HO_6.out).2.2 x12_2 p340 q340
                                cases e340
                                replace p340 := eq_true p340
                                replace q340 := eq_true q340
                                have p341 : 0 ≤ (x12_2 : Int) := of_decide_eq_true (by first | (with_reducible assumption) | assumption)
                                have q341 : x12_2 < (t334.length : Int) := of_decide_eq_true (by first | (with_reducible assumption) | assumption)
                                obtain ⟨ad341, e341, hx341_0⟩ := Kd.at_int (Kd.R_reads' HO_8.out).2.2 x12_2 p341 q341
                                obtain rfl : ad337 = ad341 := (by injection e341)
                                replace p341 := eq_true p341
                                replace q341 := eq_true q341
                                go_wp2
                                repeat (go_quiet (fail); try go_wp2)
                                go_ret
                                exact ⟨by first | rfl | (simp [errW_none, errW_some] <;> rfl) | (simp [*, errW_none, errW_some] <;> rfl), by repeat (first | (with_reducible first | exact HB.out | apply below_alloc | apply pw_below_drewN | apply below_drew1) | exact HB.out)⟩
                            · rw [if_neg c26] at H
                              have c26b0 : decide ((rd t327 x12_2) < 0) = false := decide_eq_false c26
                              clear c26
                              obtain ⟨ji33, hji33⟩ : ∃ j_ : Int, (mx (rd t327 x12_2) 0) = j_ := ⟨_, rfl⟩
                              replace H : (billetlaw15_ShareSafe.l0 k2 t333 t327 t328 t334 (wrap64 (x9_2 + (mx (ji33) (rd t334 x12_2)))) (wrap64 (x10_2 + (ji33))) true (wrap64 (x12_2 + 1))) = some r := by first | (rw [hji33] at H; exact H) | (simp only [hji33] at H ⊢; exact H)
                              have hji33_ : (if (rd t327 x12_2) < 0 then 0 else (rd t327 x12_2)) = ji33 := hji33
                              obtain ⟨ji34, hji34⟩ : ∃ j_ : Int, (mx (ji33) (rd t334 x12_2)) = j_ := ⟨_, rfl⟩
                              replace H : (billetlaw15_ShareSafe.l0 k2 t333 t327 t328 t334 (wrap64 (x9_2 + (ji34))) (wrap64 (x10_2 + (ji33))) true (wrap64 (x12_2 + 1))) = some r := by first | (rw [hji34] at H; exact H) | (simp only [hji34] at H ⊢; exact H)
                              have hji34_ : (if (ji33) < (rd t334 x12_2) then (rd t334 x12_2) else (ji33)) = ji34 := hji34
                              have H' := Aside0.mk H
                              clear H
                              obtain ⟨Ao36, co36, eo36⟩ := Kd.R_slice HO_8.out
                              subst eo36
                              have p337 : 0 ≤ (x12_2 : Int) := of_decide_eq_true (by first | (with_reducible assumption) | assumption)
                              have q337 : x12_2 < (t334.length : Int) := of_decide_eq_true (by first | (with_reducible assumption) | assumption)
                              obtain ⟨ad337, e337, hx337_0⟩ := Kd.at_int (Kd.R_reads' HO_8.out).2.2 x12_2 p337 q337
                              cases e337
                              replace p337 := eq_true p337
                              replace q337 := eq_true q337
                              have p338 : 0 ≤ (x12_2 : Int) := of_decide_eq_true (by first | (with_reducible assumption) | assumption)
                              have q338 : x12_2 < (t334.length : Int) := of_decide_eq_true (by first | (with_reducible assumption) | assumption)
                              obtain ⟨ad338, e338, hx338_0⟩ := Kd.at_int (Kd.R_reads' HO_8.out).2.2 x12_2 p338 q338
                              obtain rfl : ad337 = ad338 := (by injection e338)
                              replace p338 := eq_true p338
                              replace q338 := eq_true q338
                              have p339 : 0 ≤ (x12_2 : Int) := of_decide_eq_true (by first | (with_reducible assumption) | assumption)
                              have q339 : x12_2 < (t328.length : Int) := of_decide_eq_true (by first | (with_reducible assumption) | assumption)
                              obtain ⟨ad339, e339, hx339_0⟩ := Kd.at_int (Kd.R_reads' HO_7.out).2.2 x12_2 p339 q339
                              cases e339
                              replace p339 := eq_true p339
                              replace q339 := eq_true q339
                              have p340 : 0 ≤ (x12_2 : Int) := of_decide_eq_true (by first | (with_reducible assumption) | assumption)
                              have q340 : x12_2 < (t327.length : Int) := of_decide_eq_true (by first | (with_reducible assumption) | assumption)
                              obtain ⟨ad340, e340, hx340_0⟩ := Kd.at_int (Kd.R_reads' HO_6.out).2.2 x12_2 p340 q340
                              cases e340
                              replace p340 := eq_true p340
                              replace q340 := eq_true q340
                              have p345 : 0 ≤ (x12_2 : Int) := of_decide_eq_true (by first | (with_reducible assumption) | assumption)
                              have q345 : x12_2 < (t327.length : Int) := of_decide_eq_true (by first | (with_reducible assumption) | assumption)
                              obtain ⟨ad345, e345, hx345_0⟩ := Kd.at_int (Kd.R_reads' HO_6.out).2.2 x12_2 p345 q345
                              obtain rfl : ad340 = ad345 := (by injection e345)
                              replace p345 := eq_true p345
                              replace q345 := eq_true q345
                              have p346 : 0 ≤ (x12_2 : Int) := of_decide_eq_true (by first | (with_reducible assumption) | assumption)
                              have q346 : x12_2 < (t334.length : Int) := of_decide_eq_true (by first | (with_reducible assumption) | assumption)
                              obtain ⟨ad346, e346, hx346_0⟩ := Kd.at_int (Kd.R_reads' HO_8.out).2.2 x12_2 p346 q346
                              obtain rfl : ad337 = ad346 := (by injection e346)
                              replace p346 := eq_true p346
                              replace q346 := eq_true q346
                              have p347 : 0 ≤ (x12_2 : Int) := of_decide_eq_true (by first | (with_reducible assumption) | assumption)
                              have q347 : x12_2 < (t327.length : Int) := of_decide_eq_true (by first | (with_reducible assumption) | assumption)
                              obtain ⟨ad347, e347, hx347_0⟩ := Kd.at_int (Kd.R_reads' HO_6.out).2.2 x12_2 p347 q347
                              obtain rfl : ad340 = ad347 := (by injection e347)
                              replace p347 := eq_true p347
                              replace q347 := eq_true q347
                              go_wp2
                              repeat (go_quiet (fail); try go_wp2)
                              go_roundg k2
                              case measure => have := HJ6.out; have := HK2.out; omega
                              case rel => exact ⟨(wrap64 (x9_2 + (ji34))), (wrap64 (x10_2 + (ji33))), (true), (wrap64 (x12_2 + 1)), (by first | rfl | (simp; done) | (simp only [← hji34] <;> (first | rfl | simp)) | (simp [*]; done)), (by first | rfl | (simp; done) | (simp only [← hji33] <;> (first | rfl | simp)) | (simp [*]; done)), (by first | rfl | (simp; done) | (simp [*]; done)), (by first | rfl | (simp; done) | (simp [*]; done)), H', ⟨by have := HJ6.out; have := HK2.out; omega⟩, ⟨by (with_reducible repeat (first | apply Kd.R_alloc | apply Kd.R_drewN | apply Kd.R_drew)); exact HO_6.out⟩, ⟨by (with_reducible repeat (first | apply Kd.R_alloc | apply Kd.R_drewN | apply Kd.R_drew)); exact HO_7.out⟩, ⟨by (with_reducible repeat (first | apply Kd.R_alloc | apply Kd.R_drewN | apply Kd.R_drew)); exact HO_8.out⟩, ⟨by repeat (first | (with_reducible first | exact HB.out | apply below_alloc | apply pw_below_drewN | apply below_drew1) | exact HB.out)⟩⟩
                          · rw [if_neg c25] at H
                            exact absurd H (by simp)
                      · rw [if_neg c22] at H
                        exact absurd H (by simp)
                  · rw [if_neg c19] at H
                    exact absurd H (by simp)
                · rw [if_neg c18] at H
                  exact absurd H (by simp)
              · replace c17 := Bool.eq_false_iff.mpr c17
                subst c17
                have H1 : (if 0 ≤ x12_2 then (if x12_2 < (t327.length : Int) then (if x12_2 < (t334.length : Int) then (if (rd t334 x12_2) < 0 then (some false) else (if x12_2 < (t328.length : Int) then (if (rd t334 x12_2) > (rd t328 x12_2) then (some false) else (if (rd t327 x12_2) < 0 then (if (rd t334 x12_2) = 0 then (billetlaw15_ShareSafe.l0 k2 t333 t327 t328 t334 (wrap64 (x9_2 + (mx (mx (rd t327 x12_2) 0) (rd t334 x12_2)))) (wrap64 (x10_2 + (mx (rd t327 x12_2) 0))) (decide ((rd t327 x12_2) < 0)) (wrap64 (x12_2 + 1))) else (some false)) else (billetlaw15_ShareSafe.l0 k2 t333 t327 t328 t334 (wrap64 (x9_2 + (mx (mx (rd t327 x12_2) 0) (rd t334 x12_2)))) (wrap64 (x10_2 + (mx (rd t327 x12_2) 0))) (decide ((rd t327 x12_2) < 0)) (wrap64 (x12_2 + 1))))) else (none))) else (none)) else (none)) else (none)) = some r := by rw [if_neg (show ¬ (false = true) by decide)] at H; exact H
                clear H
                have H := H1
                clear H1
                by_cases c37 : 0 ≤ x12_2
                · rw [if_pos c37] at H
                  have c37b0 : decide (0 ≤ x12_2) = true := decide_eq_true c37
                  clear c37
                  by_cases c38 : x12_2 < (t327.length : Int)
                  · rw [if_pos c38] at H
                    have c38b0 : decide (x12_2 < (t327.length : Int)) = true := decide_eq_true c38
                    clear c38
                    by_cases c39 : x12_2 < (t334.length : Int)
                    · rw [if_pos c39] at H
                      have c39b0 : decide (x12_2 < (t334.length : Int)) = true := decide_eq_true c39
                      clear c39
                      by_cases c40 : (rd t334 x12_2) < 0
                      · rw [if_pos c40] at H
                        have c40b0 : decide ((rd t334 x12_2) < 0) = true := decide_eq_true c40
                        clear c40
                        obtain rfl := Option.some.inj H
                        have p348 : 0 ≤ (x12_2 : Int) := of_decide_eq_true (by first | (with_reducible assumption) | assumption)
                        have q348 : x12_2 < (t327.length : Int) := of_decide_eq_true (by first | (with_reducible assumption) | assumption)
                        obtain ⟨ad348, e348, hx348_0⟩ := Kd.at_int (Kd.R_reads' HO_6.out).2.2 x12_2 p348 q348
                        cases e348
                        replace p348 := eq_true p348
                        replace q348 := eq_true q348
                        obtain ⟨Ao41, co41, eo41⟩ := Kd.R_slice HO_8.out
                        subst eo41
                        have p349 : 0 ≤ (x12_2 : Int) := of_decide_eq_true (by first | (with_reducible assumption) | assumption)
                        have q349 : x12_2 < (t334.length : Int) := of_decide_eq_true (by first | (with_reducible assumption) | assumption)
                        obtain ⟨ad349, e349, hx349_0⟩ := Kd.at_int (Kd.R_reads' HO_8.out).2.2 x12_2 p349 q349
                        cases e349
                        replace p349 := eq_true p349
                        replace q349 := eq_true q349
                        go_wp2
                        repeat (go_quiet (fail); try go_wp2)
                        go_ret
                        exact ⟨by first | rfl | (simp [errW_none, errW_some] <;> rfl) | (simp [*, errW_none, errW_some] <;> rfl), by repeat (first | (with_reducible first | exact HB.out | apply below_alloc | apply pw_below_drewN | apply below_drew1) | exact HB.out)⟩
                      · rw [if_neg c40] at H
                        have c40b0 : decide ((rd t334 x12_2) < 0) = false := decide_eq_false c40
                        clear c40
                        by_cases c42 : x12_2 < (t328.length : Int)
                        · rw [if_pos c42] at H
                          have c42b0 : decide (x12_2 < (t328.length : Int)) = true := decide_eq_true c42
                          clear c42
                          by_cases c43 : (rd t334 x12_2) > (rd t328 x12_2)
                          · rw [if_pos c43] at H
                            have c43b0 : decide ((rd t328 x12_2) < (rd t334 x12_2)) = true := decide_eq_true c43
                            clear c43
                            obtain rfl := Option.some.inj H
                            have p348 : 0 ≤ (x12_2 : Int) := of_decide_eq_true (by first | (with_reducible assumption) | assumption)
                            have q348 : x12_2 < (t327.length : Int) := of_decide_eq_true (by first | (with_reducible assumption) | assumption)
                            obtain ⟨ad348, e348, hx348_0⟩ := Kd.at_int (Kd.R_reads' HO_6.out).2.2 x12_2 p348 q348
                            cases e348
                            replace p348 := eq_true p348
                            replace q348 := eq_true q348
                            obtain ⟨Ao44, co44, eo44⟩ := Kd.R_slice HO_8.out
                            subst eo44
                            have p349 : 0 ≤ (x12_2 : Int) := of_decide_eq_true (by first | (with_reducible assumption) | assumption)
                            have q349 : x12_2 < (t334.length : Int) := of_decide_eq_true (by first | (with_reducible assumption) | assumption)
                            obtain ⟨ad349, e349, hx349_0⟩ := Kd.at_int (Kd.R_reads' HO_8.out).2.2 x12_2 p349 q349
                            cases e349
                            replace p349 := eq_true p349
                            replace q349 := eq_true q349
                            have p350 : 0 ≤ (x12_2 : Int) := of_decide_eq_true (by first | (with_reducible assumption) | assumption)
                            have q350 : x12_2 < (t334.length : Int) := of_decide_eq_true (by first | (with_reducible assumption) | assumption)
                            obtain ⟨ad350, e350, hx350_0⟩ := Kd.at_int (Kd.R_reads' HO_8.out).2.2 x12_2 p350 q350
                            obtain rfl : ad349 = ad350 := (by injection e350)
                            replace p350 := eq_true p350
                            replace q350 := eq_true q350
                            have p351 : 0 ≤ (x12_2 : Int) := of_decide_eq_true (by first | (with_reducible assumption) | assumption)
                            have q351 : x12_2 < (t328.length : Int) := of_decide_eq_true (by first | (with_reducible assumption) | assumption)
                            obtain ⟨ad351, e351, hx351_0⟩ := Kd.at_int (Kd.R_reads' HO_7.out).2.2 x12_2 p351 q351
                            cases e351
                            replace p351 := eq_true p351
                            replace q351 := eq_true q351
                            go_wp2
                            repeat (go_quiet (fail); try go_wp2)
                            go_ret
                            exact ⟨by first | rfl | (simp [errW_none, errW_some] <;> rfl) | (simp [*, errW_none, errW_some] <;> rfl), by repeat (first | (with_reducible first | exact HB.out | apply below_alloc | apply pw_below_drewN | apply below_drew1) | exact HB.out)⟩
                          · rw [if_neg c43] at H
                            have c43b0 : decide ((rd t328 x12_2) < (rd t334 x12_2)) = false := decide_eq_false c43
                            clear c43
                            by_cases c45 : (rd t327 x12_2) < 0
                            · rw [if_pos c45] at H
                              have c45b0 : decide ((rd t327 x12_2) < 0) = true := decide_eq_true c45
                              clear c45
                              by_cases c46 : (rd t334 x12_2) = 0
                              · rw [if_pos c46] at H
                                have c46b0 : ((rd t334 x12_2) == 0) = true := beq_iff_eq.mpr c46
                                have c46b1 : ((rd t334 x12_2) != 0) = false := bne_eq_false_iff_eq.mpr c46
                                clear c46
                                obtain ⟨ji47, hji47⟩ : ∃ j_ : Int, (mx (rd t327 x12_2) 0) = j_ := ⟨_, rfl⟩
                                replace H : (billetlaw15_ShareSafe.l0 k2 t333 t327 t328 t334 (wrap64 (x9_2 + (mx (ji47) (rd t334 x12_2)))) (wrap64 (x10_2 + (ji47))) (decide ((rd t327 x12_2) < 0)) (wrap64 (x12_2 + 1))) = some r := by first | (rw [hji47] at H; exact H) | (simp only [hji47] at H ⊢; exact H)
                                have hji47_ : (if (rd t327 x12_2) < 0 then 0 else (rd t327 x12_2)) = ji47 := hji47
                                obtain ⟨ji48, hji48⟩ : ∃ j_ : Int, (mx (ji47) (rd t334 x12_2)) = j_ := ⟨_, rfl⟩
                                replace H : (billetlaw15_ShareSafe.l0 k2 t333 t327 t328 t334 (wrap64 (x9_2 + (ji48))) (wrap64 (x10_2 + (ji47))) (decide ((rd t327 x12_2) < 0)) (wrap64 (x12_2 + 1))) = some r := by first | (rw [hji48] at H; exact H) | (simp only [hji48] at H ⊢; exact H)
                                have hji48_ : (if (ji47) < (rd t334 x12_2) then (rd t334 x12_2) else (ji47)) = ji48 := hji48
                                have H' := Aside0.mk H
                                clear H
                                have p348 : 0 ≤ (x12_2 : Int) := of_decide_eq_true (by first | (with_reducible assumption) | assumption)
                                have q348 : x12_2 < (t327.length : Int) := of_decide_eq_true (by first | (with_reducible assumption) | assumption)
                                obtain ⟨ad348, e348, hx348_0⟩ := Kd.at_int (Kd.R_reads' HO_6.out).2.2 x12_2 p348 q348
                                cases e348
                                replace p348 := eq_true p348
                                replace q348 := eq_true q348
                                obtain ⟨Ao50, co50, eo50⟩ := Kd.R_slice HO_8.out
                                subst eo50
                                have p349 : 0 ≤ (x12_2 : Int) := of_decide_eq_true (by first | (with_reducible assumption) | assumption)
                                have q349 : x12_2 < (t334.length : Int) := of_decide_eq_true (by first | (with_reducible assumption) | assumption)
                                obtain ⟨ad349, e349, hx349_0⟩ := Kd.at_int (Kd.R_reads' HO_8.out).2.2 x12_2 p349 q349
                                cases e349
                                replace p349 := eq_true p349
                                replace q349 := eq_true q349
                                have p350 : 0 ≤ (x12_2 : Int) := of_decide_eq_true (by first | (with_reducible assumption) | assumption)
                                have q350 : x12_2 < (t334.length : Int) := of_decide_eq_true (by first | (with_reducible assumption) | assumption)
                                obtain ⟨ad350, e350, hx350_0⟩ := Kd.at_int (Kd.R_reads' HO_8.out).2.2 x12_2 p350 q350
                                obtain rfl : ad349 = ad350 := (by injection e350)
                                replace p350 := eq_true p350
                                replace q350 := eq_true q350
                                have p351 : 0 ≤ (x12_2 : Int) := of_decide_eq_true (by first | (with_reducible assumption) | assumption)
                                have q351 : x12_2 < (t328.length : Int) := of_decide_eq_true (by first | (with_reducible assumption) | assumption)
                                obtain ⟨ad351, e351, hx351_0⟩ := Kd.at_int (Kd.R_reads' HO_7.out).2.2 x12_2 p351 q351
                                cases e351
                                replace p351 := eq_true p351
                                replace q351 := eq_true q351
                                have p352 : 0 ≤ (x12_2 : Int) := of_decide_eq_true (by first | (with_reducible assumption) | assumption)
                                have q352 : x12_2 < (t327.length : Int) := of_decide_eq_true (by first | (with_reducible assumption) | assumption)
                                obtain ⟨ad352, e352, hx352_0⟩ := Kd.at_int (Kd.R_reads' HO_6.out).2.2 x12_2 p352 q352
                                obtain rfl : ad348 = ad352 := (by injection e352)
                                replace p352 := eq_true p352
                                replace q352 := eq_true q352
                                have p353 : 0 ≤ (x12_2 : Int) := of_decide_eq_true (by first | (with_reducible assumption) | assumption)
                                have q353 : x12_2 < (t334.length : Int) := of_decide_eq_true (by first | (with_reducible assumption) | assumption)
                                obtain ⟨ad353, e353, hx353_0⟩ := Kd.at_int (Kd.R_reads' HO_8.out).2.2 x12_2 p353 q353
                                obtain rfl : ad349 = ad353 := (by injection e353)
                                replace p353 := eq_true p353
                                replace q353 := eq_true q353
                                have p354 : 0 ≤ (x12_2 : Int) := of_decide_eq_true (by first | (with_reducible assumption) | assumption)
                                have q354 : x12_2 < (t327.length : Int) := of_decide_eq_true (by first | (with_reducible assumption) | assumption)
                                obtain ⟨ad354, e354, hx354_0⟩ := Kd.at_int (Kd.R_reads' HO_6.out).2.2 x12_2 p354 q354
                                obtain rfl : ad348 = ad354 := (by injection e354)
                                replace p354 := eq_true p354
                                replace q354 := eq_true q354
                                have p355 : 0 ≤ (x12_2 : Int) := of_decide_eq_true (by first | (with_reducible assumption) | assumption)
                                have q355 : x12_2 < (t334.length : Int) := of_decide_eq_true (by first | (with_reducible assumption) | assumption)
                                obtain ⟨ad355, e355, hx355_0⟩ := Kd.at_int (Kd.R_reads' HO_8.out).2.2 x12_2 p355 q355
                                obtain rfl : ad349 = ad355 := (by injection e355)
                                replace p355 := eq_true p355
                                replace q355 := eq_true q355
                                have p356 : 0 ≤ (x12_2 : Int) := of_decide_eq_true (by first | (with_reducible assumption) | assumption)
                                have q356 : x12_2 < (t327.length : Int) := of_decide_eq_true (by first | (with_reducible assumption) | assumption)
                                obtain ⟨ad356, e356, hx356_0⟩ := Kd.at_int (Kd.R_reads' HO_6.out).2.2 x12_2 p356 q356
                                obtain rfl : ad348 = ad356 := (by injection e356)
                                replace p356 := eq_true p356
                                replace q356 := eq_true q356
                                go_wp2
                                repeat (go_quiet (fail); try go_wp2)
                                go_roundg k2
                                case measure => have := HJ6.out; have := HK2.out; omega
                                case rel => exact ⟨(wrap64 (x9_2 + (ji48))), (wrap64 (x10_2 + (ji47))), (decide ((rd t327 x12_2) < 0)), (wrap64 (x12_2 + 1)), (by first | rfl | (simp; done) | (simp only [← hji48] <;> (first | rfl | simp)) | (simp [*]; done)), (by first | rfl | (simp; done) | (simp only [← hji47] <;> (first | rfl | simp)) | (simp [*]; done)), (by first | rfl | (simp; done) | (simp [*]; done)), (by first | rfl | (simp; done) | (simp [*]; done)), H', ⟨by have := HJ6.out; have := HK2.out; omega⟩, ⟨by (with_reducible repeat (first | apply Kd.R_alloc | apply Kd.R_drewN | apply Kd.R_drew)); exact HO_6.out⟩, ⟨by (with_reducible repeat (first | apply Kd.R_alloc | apply Kd.R_drewN | apply Kd.R_drew)); exact HO_7.out⟩, ⟨by (with_reducible repeat (first | apply Kd.R_alloc | apply Kd.R_drewN | apply Kd.R_drew)); exact HO_8.out⟩, ⟨by repeat (first | (with_reducible first | exact HB.out | apply below_alloc | apply pw_below_drewN | apply below_drew1) | exact HB.out)⟩⟩
                              · rw [if_neg c46] at H
                                have c46b0 : ((rd t334 x12_2) == 0) = false := beq_eq_false_iff_ne.mpr c46
                                have c46b1 : ((rd t334 x12_2) != 0) = true := bne_iff_ne.mpr c46
                                obtain rfl := Option.some.inj H
                                have p348 : 0 ≤ (x12_2 : Int) := of_decide_eq_true (by first | (with_reducible assumption) | assumption)
                                have q348 : x12_2 < (t327.length : Int) := of_decide_eq_true (by first | (with_reducible assumption) | assumption)
                                obtain ⟨ad348, e348, hx348_0⟩ := Kd.at_int (Kd.R_reads' HO_6.out).2.2 x12_2 p348 q348
                                cases e348
                                replace p348 := eq_true p348
                                replace q348 := eq_true q348
                                obtain ⟨Ao51, co51, eo51⟩ := Kd.R_slice HO_8.out
                                subst eo51
                                have p349 : 0 ≤ (x12_2 : Int) := of_decide_eq_true (by first | (with_reducible assumption) | assumption)
                                have q349 : x12_2 < (t334.length : Int) := of_decide_eq_true (by first | (with_reducible assumption) | assumption)
                                obtain ⟨ad349, e349, hx349_0⟩ := Kd.at_int (Kd.R_reads' HO_8.out).2.2 x12_2 p349 q349
                                cases e349
                                replace p349 := eq_true p349
                                replace q349 := eq_true q349
                                have p350 : 0 ≤ (x12_2 : Int) := of_decide_eq_true (by first | (with_reducible assumption) | assumption)
                                have q350 : x12_2 < (t334.length : Int) := of_decide_eq_true (by first | (with_reducible assumption) | assumption)
                                obtain ⟨ad350, e350, hx350_0⟩ := Kd.at_int (Kd.R_reads' HO_8.out).2.2 x12_2 p350 q350
                                obtain rfl : ad349 = ad350 := (by injection e350)
                                replace p350 := eq_true p350
                                replace q350 := eq_true q350
                                have p351 : 0 ≤ (x12_2 : Int) := of_decide_eq_true (by first | (with_reducible assumption) | assumption)
                                have q351 : x12_2 < (t328.length : Int) := of_decide_eq_true (by first | (with_reducible assumption) | assumption)
                                obtain ⟨ad351, e351, hx351_0⟩ := Kd.at_int (Kd.R_reads' HO_7.out).2.2 x12_2 p351 q351
                                cases e351
                                replace p351 := eq_true p351
                                replace q351 := eq_true q351
                                have p352 : 0 ≤ (x12_2 : Int) := of_decide_eq_true (by first | (with_reducible assumption) | assumption)
                                have q352 : x12_2 < (t327.length : Int) := of_decide_eq_true (by first | (with_reducible assumption) | assumption)
                                obtain ⟨ad352, e352, hx352_0⟩ := Kd.at_int (Kd.R_reads' HO_6.out).2.2 x12_2 p352 q352
                                obtain rfl : ad348 = ad352 := (by injection e352)
                                replace p352 := eq_true p352
                                replace q352 := eq_true q352
                                have p353 : 0 ≤ (x12_2 : Int) := of_decide_eq_true (by first | (with_reducible assumption) | assumption)
                                have q353 : x12_2 < (t334.length : Int) := of_decide_eq_true (by first | (with_reducible assumption) | assumption)
                                obtain ⟨ad353, e353, hx353_0⟩ := Kd.at_int (Kd.R_reads' HO_8.out).2.2 x12_2 p353 q353
                                obtain rfl : ad349 = ad353 := (by injection e353)
                                replace p353 := eq_true p353
                                replace q353 := eq_true q353
                                go_wp2
                                repeat (go_quiet (fail); try go_wp2)
                                go_ret
                                exact ⟨by first | rfl | (simp [errW_none, errW_some] <;> rfl) | (simp [*, errW_none, errW_some] <;> rfl), by repeat (first | (with_reducible first | exact HB.out | apply below_alloc | apply pw_below_drewN | apply below_drew1) | exact HB.out)⟩
                            · rw [if_neg c45] at H
                              have c45b0 : decide ((rd t327 x12_2) < 0) = false := decide_eq_false c45
                              clear c45
                              obtain ⟨ji52, hji52⟩ : ∃ j_ : Int, (mx (rd t327 x12_2) 0) = j_ := ⟨_, rfl⟩
                              replace H : (billetlaw15_ShareSafe.l0 k2 t333 t327 t328 t334 (wrap64 (x9_2 + (mx (ji52) (rd t334 x12_2)))) (wrap64 (x10_2 + (ji52))) (decide ((rd t327 x12_2) < 0)) (wrap64 (x12_2 + 1))) = some r := by first | (rw [hji52] at H; exact H) | (simp only [hji52] at H ⊢; exact H)
                              have hji52_ : (if (rd t327 x12_2) < 0 then 0 else (rd t327 x12_2)) = ji52 := hji52
                              obtain ⟨ji53, hji53⟩ : ∃ j_ : Int, (mx (ji52) (rd t334 x12_2)) = j_ := ⟨_, rfl⟩
                              replace H : (billetlaw15_ShareSafe.l0 k2 t333 t327 t328 t334 (wrap64 (x9_2 + (ji53))) (wrap64 (x10_2 + (ji52))) (decide ((rd t327 x12_2) < 0)) (wrap64 (x12_2 + 1))) = some r := by first | (rw [hji53] at H; exact H) | (simp only [hji53] at H ⊢; exact H)
                              have hji53_ : (if (ji52) < (rd t334 x12_2) then (rd t334 x12_2) else (ji52)) = ji53 := hji53
                              have H' := Aside0.mk H
                              clear H
                              have p348 : 0 ≤ (x12_2 : Int) := of_decide_eq_true (by first | (with_reducible assumption) | assumption)
                              have q348 : x12_2 < (t327.length : Int) := of_decide_eq_true (by first | (with_reducible assumption) | assumption)
                              obtain ⟨ad348, e348, hx348_0⟩ := Kd.at_int (Kd.R_reads' HO_6.out).2.2 x12_2 p348 q348
                              cases e348
                              replace p348 := eq_true p348
                              replace q348 := eq_true q348
                              obtain ⟨Ao55, co55, eo55⟩ := Kd.R_slice HO_8.out
                              subst eo55
                              have p349 : 0 ≤ (x12_2 : Int) := of_decide_eq_true (by first | (with_reducible assumption) | assumption)
                              have q349 : x12_2 < (t334.length : Int) := of_decide_eq_true (by first | (with_reducible assumption) | assumption)
                              obtain ⟨ad349, e349, hx349_0⟩ := Kd.at_int (Kd.R_reads' HO_8.out).2.2 x12_2 p349 q349
                              cases e349
                              replace p349 := eq_true p349
                              replace q349 := eq_true q349
                              have p350 : 0 ≤ (x12_2 : Int) := of_decide_eq_true (by first | (with_reducible assumption) | assumption)
                              have q350 : x12_2 < (t334.length : Int) := of_decide_eq_true (by first | (with_reducible assumption) | assumption)
                              obtain ⟨ad350, e350, hx350_0⟩ := Kd.at_int (Kd.R_reads' HO_8.out).2.2 x12_2 p350 q350
                              obtain rfl : ad349 = ad350 := (by injection e350)
                              replace p350 := eq_true p350
                              replace q350 := eq_true q350
                              have p351 : 0 ≤ (x12_2 : Int) := of_decide_eq_true (by first | (with_reducible assumption) | assumption)
                              have q351 : x12_2 < (t328.length : Int) := of_decide_eq_true (by first | (with_reducible assumption) | assumption)
                              obtain ⟨ad351, e351, hx351_0⟩ := Kd.at_int (Kd.R_reads' HO_7.out).2.2 x12_2 p351 q351
                              cases e351
                              replace p351 := eq_true p351
                              replace q351 := eq_true q351
                              have p352 : 0 ≤ (x12_2 : Int) := of_decide_eq_true (by first | (with_reducible assumption) | assumption)
                              have q352 : x12_2 < (t327.length : Int) := of_decide_eq_true (by first | (with_reducible assumption) | assumption)
                              obtain ⟨ad352, e352, hx352_0⟩ := Kd.at_int (Kd.R_reads' HO_6.out).2.2 x12_2 p352 q352
                              obtain rfl : ad348 = ad352 := (by injection e352)
                              replace p352 := eq_true p352
                              replace q352 := eq_true q352
                              have p357 : 0 ≤ (x12_2 : Int) := of_decide_eq_true (by first | (with_reducible assumption) | assumption)
                              have q357 : x12_2 < (t327.length : Int) := of_decide_eq_true (by first | (with_reducible assumption) | assumption)
                              obtain ⟨ad357, e357, hx357_0⟩ := Kd.at_int (Kd.R_reads' HO_6.out).2.2 x12_2 p357 q357
                              obtain rfl : ad348 = ad357 := (by injection e357)
                              replace p357 := eq_true p357
                              replace q357 := eq_true q357
                              have p358 : 0 ≤ (x12_2 : Int) := of_decide_eq_true (by first | (with_reducible assumption) | assumption)
                              have q358 : x12_2 < (t334.length : Int) := of_decide_eq_true (by first | (with_reducible assumption) | assumption)
                              obtain ⟨ad358, e358, hx358_0⟩ := Kd.at_int (Kd.R_reads' HO_8.out).2.2 x12_2 p358 q358
                              obtain rfl : ad349 = ad358 := (by injection e358)
                              replace p358 := eq_true p358
                              replace q358 := eq_true q358
                              have p359 : 0 ≤ (x12_2 : Int) := of_decide_eq_true (by first | (with_reducible assumption) | assumption)
                              have q359 : x12_2 < (t327.length : Int) := of_decide_eq_true (by first | (with_reducible assumption) | assumption)
                              obtain ⟨ad359, e359, hx359_0⟩ := Kd.at_int (Kd.R_reads' HO_6.out).2.2 x12_2 p359 q359
                              obtain rfl : ad348 = ad359 := (by injection e359)
                              replace p359 := eq_true p359
                              replace q359 := eq_true q359
                              go_wp2
                              repeat (go_quiet (fail); try go_wp2)
                              go_roundg k2
                              case measure => have := HJ6.out; have := HK2.out; omega
                              case rel => exact ⟨(wrap64 (x9_2 + (ji53))), (wrap64 (x10_2 + (ji52))), (decide ((rd t327 x12_2) < 0)), (wrap64 (x12_2 + 1)), (by first | rfl | (simp; done) | (simp only [← hji53] <;> (first | rfl | simp)) | (simp [*]; done)), (by first | rfl | (simp; done) | (simp only [← hji52] <;> (first | rfl | simp)) | (simp [*]; done)), (by first | rfl | (simp; done) | (simp [*]; done)), (by first | rfl | (simp; done) | (simp [*]; done)), H', ⟨by have := HJ6.out; have := HK2.out; omega⟩, ⟨by (with_reducible repeat (first | apply Kd.R_alloc | apply Kd.R_drewN | apply Kd.R_drew)); exact HO_6.out⟩, ⟨by (with_reducible repeat (first | apply Kd.R_alloc | apply Kd.R_drewN | apply Kd.R_drew)); exact HO_7.out⟩, ⟨by (with_reducible repeat (first | apply Kd.R_alloc | apply Kd.R_drewN | apply Kd.R_drew)); exact HO_8.out⟩, ⟨by repeat (first | (with_reducible first | exact HB.out | apply below_alloc | apply pw_below_drewN | apply below_drew1) | exact HB.out)⟩⟩
                        · rw [if_neg c42] at H
                          exact absurd H (by simp)
                    · rw [if_neg c39] at H
                      exact absurd H (by simp)
                  · rw [if_neg c38] at H
                    exact absurd H (by simp)
                · rw [if_neg c37] at H
                  exact absurd H (by simp)
            · rw [if_neg c16] at H
              have c16b0 : decide (x12_2 < 3) = false := decide_eq_false c16
              clear c16
              obtain ⟨ji56, hji56⟩ : ∃ j_ : Int, (mx t333 x10_2) = j_ := ⟨_, rfl⟩
              replace H : (if x9_2 ≤ (ji56) then (if x11_2 = true then (some (x9_2 == x10_2)) else (some true)) else (some false)) = some r := by first | (rw [hji56] at H; exact H) | (simp only [hji56] at H ⊢; exact H)
              have hji56_ : (if t333 < x10_2 then x10_2 else t333) = ji56 := hji56
              by_cases c57 : x9_2 ≤ (ji56)
              · rw [if_pos c57] at H
                have c57b0 : decide (x9_2 ≤ (ji56)) = true := decide_eq_true c57
                clear c57
                by_cases c58 : x11_2 = true
                · subst c58
                  have H1 : (some (x9_2 == x10_2)) = some r := by rw [if_pos rfl] at H; exact H
                  clear H
                  have H := H1
                  clear H1
                  obtain rfl := Option.some.inj H
                  go_wp2
                  repeat (go_quiet (fail); try go_wp2)
                  go_ret
                  exact ⟨by first | rfl | (simp [errW_none, errW_some] <;> rfl) | (simp only [← hji56]; first | rfl | (simp [errW_none, errW_some] <;> rfl)) | (simp [*, errW_none, errW_some] <;> rfl), by repeat (first | (with_reducible first | exact HB.out | apply below_alloc | apply pw_below_drewN | apply below_drew1) | exact HB.out)⟩
                · replace c58 := Bool.eq_false_iff.mpr c58
                  subst c58
                  have H1 : (some true) = some r := by rw [if_neg (show ¬ (false = true) by decide)] at H; exact H
                  clear H
                  have H := H1
                  clear H1
                  obtain rfl := Option.some.inj H
                  go_wp2
                  repeat (go_quiet (fail); try go_wp2)
                  go_ret
                  exact ⟨by first | rfl | (simp [errW_none, errW_some] <;> rfl) | (simp only [← hji56]; first | rfl | (simp [errW_none, errW_some] <;> rfl)) | (simp [*, errW_none, errW_some] <;> rfl), by repeat (first | (with_reducible first | exact HB.out | apply below_alloc | apply pw_below_drewN | apply below_drew1) | exact HB.out)⟩
              · rw [if_neg c57] at H
                have c57b0 : decide (x9_2 ≤ (ji56)) = false := decide_eq_false c57
                clear c57
                obtain rfl := Option.some.inj H
                go_wp2
                repeat (go_quiet (fail); try go_wp2)
                go_ret
                exact ⟨by first | rfl | (simp [errW_none, errW_some] <;> rfl) | (simp only [← hji56]; first | rfl | (simp [errW_none, errW_some] <;> rfl)) | (simp [*, errW_none, errW_some] <;> rfl), by repeat (first | (with_reducible first | exact HB.out | apply below_alloc | apply pw_below_drewN | apply below_drew1) | exact HB.out)⟩

/-- THE ONE PURE STATEMENT of billetlaw15_ShareSafe: yours. -/
def billetlaw15_ShareSafe.Pure : Prop := ∀ (a0 : Int) (l1 : List Int), (Lit.int .i64 a0).wf = true → l1.length ≤ maxLen → l1.length * 8 ≤ 140737488351232 → (∀ x ∈ l1, (Lit.int .i64 x).wf = true) → ∃ k, billetlaw15_ShareSafe.f k a0 l1 = some true
theorem billetlaw15_ShareSafe.walk (P : billetlaw15_ShareSafe.Pure) (a0 : Int) (a1 : Option Addr) (len1 cap1 : Nat) (z1 : List Int) (w : World) (w0 : (Lit.int .i64 a0).wf = true) (w1 : (a1 = none ∧ len1 = 0 ∧ cap1 = 0 ∧ z1 = []) ∨ ∃ x, a1 = some x ∧ len1 ≤ cap1 ∧ cap1 ≤ maxLen ∧ z1.length = cap1 ∧ (∀ i, i < z1.length → w.cell? (x.add i) = some (.int .i64 (z1.getD i 0))) ∧ ∀ n ∈ z1, (Lit.int .i64 n).wf = true) (y1 : len1 * 8 ≤ 140737488351232) :
    Calls Try.prog 4 #[.int .i64 a0, .slice a1 len1 cap1] w fun e w' => e = .returned (.bool true) ∧ Below w.heap.size w w' := by
  obtain ⟨l1, rfl, hr1, hm1, hw1, hc1⟩ := ReadsInt.ofRowC w1
  obtain ⟨k, h⟩ := P a0 l1 w0 hm1 y1 hw1
  refine (billetlaw15_ShareSafe.calls k a0 _ _ l1 true w (Kd.C_of_reads (d := (0 : Int)) (h1 := fun _ => rfl) hr1) hc1 h).mono ?_
  rintro e w' ⟨rfl, hd⟩
  exact ⟨rfl, hd⟩

end Go.Proofs.Ytpdgdogcfmfakaa.P
