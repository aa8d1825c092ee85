-- Laid by a program of this session (wip/tools/genx.py) out of the kit's print of the translation.
import Derived.Test.YtfmfojogcghkkaaPx0
import Derived.Test.YtfmfojogcghkkaaPx16
import Derived.Test.YtfmfojogcghkkaaPx21
import Derived.Test.YtfmfojogcghkkaaPx22
import Derived.Test.YtfmfojogcghkkaaPx38
import Derived.Test.YtfmfojogcghkkaaPx39
namespace Go.Proofs.Ytfmfojogcghkkaa.P
open Go.RowKit Go.Proofs.YtfmfojogcghkkaaW.PrintWords Go.Proofs.YtfmfojogcghkkaaW.PrintLast Go.Proofs.YtfmfojogcghkkaaW.PrintMore
attribute [local go_sem] max2_int min2_int max_two min_two max_three min_three max_four min_four   -- for this text's walks alone
set_option linter.unusedVariables false
set_option linter.unusedSimpArgs false

/-! ### billetlaw06_FlowPushes: function 11 -/
def billetlaw06_FlowPushes.f (k : Nat) (a0_0 : Int) (l0_1 : List (S41)) (l1 : List Int) (a2 : Int) : Option (Bool) := (billetlaw05_Fit.f k a0_0 l0_1).bind fun bt664 => ((billetlaw05_Flow.f k bt664.1 bt664.2 l1).bind fun t669 => ((billetref05_Good.f k bt664.1 bt664.2 t669 0 1).bind fun t672 => (if t672 = true then ((billetlaw06_pick.f a2 40).bind fun t673 => ((billetlaw06_FlowTells.f k bt664.1 bt664.2 t669 0 1 t673).bind fun t674 => (some t674))) else (some false))))
theorem billetlaw06_FlowPushes.mono : ∀ a0 a1 a2 a3 k, LeO (billetlaw06_FlowPushes.f k a0 a1 a2 a3) (billetlaw06_FlowPushes.f (k + 1) a0 a1 a2 a3) := by
 intro a0 a1 a2 a3 k
 unfold billetlaw06_FlowPushes.f
 repeat' first
   | (with_reducible exact billetlaw05_Fit.mono _ _ _)
   | (with_reducible exact billetlaw05_Flow.mono _ _ _ _)
   | (with_reducible exact billetlaw06_FlowTells.mono _ _ _ _ _ _ _)
   | (with_reducible exact billetref05_Good.mono _ _ _ _ _ _)
   | (with_reducible exact LeO.refl _)
   | (with_reducible exact LeO.none _)
   | (with_reducible refine LeO.ite ?_ ?_)
   | (with_reducible refine LeO.bind ?_ (fun _ => ?_))
   | exact billetlaw05_Fit.mono _ _ _
   | exact billetlaw05_Flow.mono _ _ _ _
   | exact billetlaw06_FlowTells.mono _ _ _ _ _ _ _
   | exact billetref05_Good.mono _ _ _ _ _ _
   | exact LeO.none _
   | refine LeO.ite ?_ ?_
   | refine LeO.bind ?_ (fun _ => ?_)
def billetlaw06_FlowPushes.T3 : Bool × List (List Nat × List Nat) := (true, [([], []), ([], []), ([0, 1], [0, 1]), ([2, 2], [2]), ([3], [3]), ([3], [3]), ([3], [3]), ([6, 3, 3], [3, 6]), ([4, 5, 7, 7, 3], [3, 4, 5, 7]), ([3, 8], [3, 8]), ([9, 8, 0, 1, 2, 3, 4, 5, 6, 7, 8, 9], [9])])
def billetlaw06_FlowPushes.B3 : List Nat := [0, 0, 3, 7, 15, 15, 15, 79, 255, 511, 1023]
theorem billetlaw06_FlowPushes.tab3 : rtab .any (opsOf Try.f11 3) = billetlaw06_FlowPushes.T3 := by kernel_rfl
theorem billetlaw06_FlowPushes.bits3 : waitsOk billetlaw06_FlowPushes.T3.2 billetlaw06_FlowPushes.B3 = true := by kernel_rfl
set_option maxHeartbeats 8000000 in
set_option maxRecDepth 100000 in
theorem billetlaw06_FlowPushes.calls (k : Nat) (a0_0 : Int) (A0_1 : Option Addr) (c0_1 : Nat) (l0_1 : List (S41)) (A1 : Option Addr) (c1 : Nat) (l1 : List Int) (a2 : Int) (r : Bool) (w : World) (hr0_1 : Kd.C k41 w A0_1 l0_1.length l0_1) (hc0_1 : l0_1.length ≤ c0_1) (hr1 : Kd.C (Kd.int .i64) w A1 l1.length l1) (hc1 : l1.length ≤ c1) (h : billetlaw06_FlowPushes.f k a0_0 l0_1 l1 a2 = some r) (hT_ : r = true) :
  Calls Try.prog 11 #[.agg #[.int .i64 a0_0, .slice A0_1 l0_1.length c0_1], .slice A1 l1.length c1, .int .i64 a2] w fun e w' => e = .returned (.bool r) ∧ Below w.heap.size w w' := by
 have HT_ := Aside0.mk hT_
 clear hT_
 have hu24 := Try.underlying24
 have HR0_1 := Aside0.mk hr0_1
 have HC0_1 := Aside0.mk hc0_1
 clear hr0_1 hc0_1
 have HR1 := Aside0.mk hr1
 have HC1 := Aside0.mk hc1
 clear hr1 hc1
 have HB := Aside0.mk (Below.refl w.heap.size w)
 have H : ((billetlaw05_Fit.f k a0_0 l0_1).bind fun bt664 => ((billetlaw05_Flow.f k bt664.1 bt664.2 l1).bind fun t669 => ((billetref05_Good.f k bt664.1 bt664.2 t669 0 1).bind fun t672 => (if t672 = true then ((billetlaw06_pick.f a2 40).bind fun t673 => ((billetlaw06_FlowTells.f k bt664.1 bt664.2 t669 0 1 t673).bind fun t674 => (some t674))) else (some false))))) = some r := h
 clear h
 replace H := Option.bind_eq_some_iff.mp H
 obtain ⟨⟨t664, t665⟩, A40, H⟩ := H
 replace H : ((billetlaw05_Flow.f k t664 t665 l1).bind fun t669 => ((billetref05_Good.f k t664 t665 t669 0 1).bind fun t672 => (if t672 = true then ((billetlaw06_pick.f a2 40).bind fun t673 => ((billetlaw06_FlowTells.f k t664 t665 t669 0 1 t673).bind fun t674 => (some t674))) else (some false)))) = some r := H
 have A4 := Aside0.mk A40
 clear A40
 replace H := Option.bind_eq_some_iff.mp H
 obtain ⟨t669, A50, H⟩ := H
 replace H : ((billetref05_Good.f k t664 t665 t669 0 1).bind fun t672 => (if t672 = true then ((billetlaw06_pick.f a2 40).bind fun t673 => ((billetlaw06_FlowTells.f k t664 t665 t669 0 1 t673).bind fun t674 => (some t674))) else (some false))) = some r := H
 have A5 := Aside0.mk A50
 clear A50
 replace H := Option.bind_eq_some_iff.mp H
 obtain ⟨t672, A60, H⟩ := H
 replace H : (if t672 = true then ((billetlaw06_pick.f a2 40).bind fun t673 => ((billetlaw06_FlowTells.f k t664 t665 t669 0 1 t673).bind fun t674 => (some t674))) else (some false)) = some r := H
 have A6 := Aside0.mk A60
 clear A60
 by_cases c7 : t672 = true
 ·subst c7
  have H1 : ((billetlaw06_pick.f a2 40).bind fun t673 => ((billetlaw06_FlowTells.f k t664 t665 t669 0 1 t673).bind fun t674 => (some t674))) = some r := by rw [if_pos rfl] at H; exact H
  clear H
  have H := H1
  clear H1
  replace H := Option.bind_eq_some_iff.mp H
  obtain ⟨t673, A80, H⟩ := H
  replace H : ((billetlaw06_FlowTells.f k t664 t665 t669 0 1 t673).bind fun t674 => (some t674)) = some r := H
  have A8 := Aside0.mk A80
  clear A80
  replace H := Option.bind_eq_some_iff.mp H
  obtain ⟨t674, A90, H⟩ := H
  replace H : (some t674) = some r := H
  have T674 := Aside0.mk ((Option.some.inj H).trans HT_.out)
  have A9 := Aside0.mk A90
  clear A90
  obtain rfl := Option.some.inj H
  go_enter Try.func11, Try.ntmps11
  try go_wp2_with (first | ((with_reducible refine gate_dst (N := 3) rfl ?_); refine box_event ?hg (N := 3) ?hd (cs := #[.int .i64 a0_0, .slice A0_1 l0_1.length c0_1]) (t := 24) ?hr ?_; (case hd => rfl); (case hg => rfl); (case hr => first | (go_simp; done) | (go_simp; rfl)); intro gb663 hg w10 hbox hb; have n0_ := Aside0.mk (below_step (by repeat (first | (with_reducible first | exact HB.out | apply below_alloc | apply pw_below_drewN | apply below_drew1) | exact HB.out)) hb); have n1_ := Aside0.mk (hbox); have n2_ := Aside0.mk ((by rw [hg]; exact (below_size (by repeat (first | (with_reducible first | exact HB.out | apply below_alloc | apply pw_below_drewN | apply below_drew1) | exact HB.out))) : w.heap.size ≤ gb663)); have n3_ := Aside0.mk ((by rw [hg]; exact (below_size (by repeat (first | (with_reducible first | exact HB.out | apply below_alloc | apply pw_below_drewN | apply below_drew1) | exact HB.out))) : w.heap.size ≤ gb663)); clear HB; have HB := n0_; have BK663 := n1_; have GW663 := n2_; have GE663 := n3_; clear n0_ n1_ n2_ n3_; clear hb hbox hg; have hcz11_0 : w10.cell? ⟨gb663, 0, none⟩ = some (.int .i64 a0_0) := (blk_cell BK663.out 0).trans rfl; have hcz11_1 : w10.cell? ⟨gb663, 1, none⟩ = some (.slice A0_1 l0_1.length c0_1) := (blk_cell BK663.out 1).trans rfl; have hfz11_0 := blk_frozen BK663.out 0; have hfz11_1 := blk_frozen BK663.out 1) | ((with_reducible refine gate_callee (f := 30) rfl ?_); refine goesL_ (some 10) rfl rfl Try.func30 (by kernel_rfl) rfl #[.agg #[.int .i64 a0_0, .slice A0_1 l0_1.length c0_1]] rfl (by (try simp only [List.map_toArray, List.map_cons, List.map_nil]); first | done | rfl | (simp only [List.length_drop, List.length_take]; rfl)) ?_; (with_reducible refine (billetlaw05_Fit.calls k a0_0 _ _ l0_1 t664 t665 _ ?side1 ?side2 A4.out).mono ?_); (case side1 => repeat (first | exact (Kd.C_below HR0_1.out HB.out) | (with_reducible refine Kd.C_alloc ?_ _) | (with_reducible refine Kd.C_drewN ?_ _) | (with_reducible refine Kd.C_drew ?_))); (case side2 => exact HC0_1.out); rintro e w12 ⟨v666, rfl, ho0, hb⟩; refine ⟨_, rfl, ?_⟩; have n0_ := Aside0.mk (Kd.R_lower ho0 (below_size (by repeat (first | (with_reducible first | exact HB.out | apply below_alloc | apply pw_below_drewN | apply below_drew1 | refine below_set ?_ GE663.out) | exact HB.out)))); have n1_ := Aside0.mk (blk_below (g := gb663) (o := .cells #[.int .i64 a0_0, .slice A0_1 l0_1.length c0_1] 24 (0, 0)) (by (with_reducible repeat (first | refine blk_drewN ?_ _ | refine blk_drew ?_ | refine blk_alloc ?_ _)); exact BK663.out) hb); have n2_ := Aside0.mk (below_step (by repeat (first | (with_reducible first | exact HB.out | apply below_alloc | apply pw_below_drewN | apply below_drew1 | refine below_set ?_ GE663.out) | exact HB.out)) hb); clear BK663; clear HB; have HO667 := n0_; have BK663 := n1_; have HB := n2_; clear n0_ n1_ n2_; (try clear hb); (try clear hb2); (try clear hk); (try clear hi); (try clear ho0)) | ((with_reducible refine gate_dst (N := 7) rfl ?_); refine box_event ?hg (N := 7) ?hd (cs := #[.int .i64 0, .slice none 0 0]) (t := 24) ?hr ?_; (case hd => rfl); (case hg => rfl); (case hr => first | (go_simp; done) | (go_simp; rfl)); intro gb668 hg w13 hbox hb; have n0_ := Aside0.mk (Kd.R_below (by (with_reducible repeat (first | apply Kd.R_alloc | apply Kd.R_drewN | apply Kd.R_drew)); exact HO667.out) hb); have n1_ := Aside0.mk (blk_below (g := gb663) (o := .cells #[.int .i64 a0_0, .slice A0_1 l0_1.length c0_1] 24 (0, 0)) (by (with_reducible repeat (first | refine blk_drewN ?_ _ | refine blk_drew ?_ | refine blk_alloc ?_ _)); exact BK663.out) hb); have n2_ := Aside0.mk (below_step (by repeat (first | (with_reducible first | exact HB.out | apply below_alloc | apply pw_below_drewN | apply below_drew1 | refine below_set ?_ GE663.out) | exact HB.out)) hb); have n3_ := Aside0.mk (hbox); have n4_ := Aside0.mk ((by rw [hg]; exact (below_size (by repeat (first | (with_reducible first | exact HB.out | apply below_alloc | apply pw_below_drewN | apply below_drew1 | refine below_set ?_ GE663.out) | exact HB.out))) : w.heap.size ≤ gb668)); have n5_ := Aside0.mk ((by rw [hg]; exact (below_size (by repeat (first | (with_reducible first | exact HB.out | apply below_alloc | apply pw_below_drewN | apply below_drew1 | refine below_set ?_ GE663.out) | exact HB.out))) : w.heap.size ≤ gb668)); have n6_ := Aside0.mk ((by rw [hg]; exact Nat.ne_of_lt (blk_lt (g := gb663) (o := .cells #[.int .i64 a0_0, .slice A0_1 l0_1.length c0_1] 24 (0, 0)) (by (with_reducible repeat (first | refine blk_drewN ?_ _ | refine blk_drew ?_ | refine blk_alloc ?_ _)); exact BK663.out)) : gb663 ≠ gb668)); have n7_ := Aside0.mk ((by rw [hg]; exact Nat.ne_of_gt (blk_lt (g := gb663) (o := .cells #[.int .i64 a0_0, .slice A0_1 l0_1.length c0_1] 24 (0, 0)) (by (with_reducible repeat (first | refine blk_drewN ?_ _ | refine blk_drew ?_ | refine blk_alloc ?_ _)); exact BK663.out)) : gb668 ≠ gb663)); clear HO667; clear BK663; clear HB; have HO667 := n0_; have BK663 := n1_; have HB := n2_; have BK668 := n3_; have GW668 := n4_; have GE668 := n5_; have NB663_668 := n6_; have NB668_663 := n7_; clear n0_ n1_ n2_ n3_ n4_ n5_ n6_ n7_; clear hb hbox hg; have hnb14 := NB668_663.out; have hnc14 := NB663_668.out; have hcz15_0 : w13.cell? ⟨gb668, 0, none⟩ = some (.int .i64 0) := (blk_cell BK668.out 0).trans rfl; have hcz15_1 : w13.cell? ⟨gb668, 1, none⟩ = some (.slice none 0 0) := (blk_cell BK668.out 1).trans rfl; have hfz15_0 := blk_frozen BK668.out 0; have hfz15_1 := blk_frozen BK668.out 1; obtain ⟨Ao16, co16, eo16⟩ := Kd.R_slice HO667.out; subst eo16) | ((with_reducible refine gate_callee (f := 31) rfl ?_); refine goesL_ (some 13) rfl rfl Try.func31 (by kernel_rfl) rfl #[.agg #[.int .i64 t664, .slice Ao16 t665.length co16], .slice A1 l1.length c1] rfl (by (try simp only [List.map_toArray, List.map_cons, List.map_nil]); first | done | rfl | (simp only [List.length_drop, List.length_take]; rfl)) ?_; (with_reducible refine (billetlaw05_Flow.calls k t664 _ _ t665 _ _ l1 t669 _ ?side1 ?side2 ?side3 ?side4 A5.out).mono ?_); (case side1 => refine (Kd.R_reads' (e := 41) (base := w.heap.size) (ok := fun k_ => True) (n := t665.length) (c := co16) ?_).2.2; exact (by (with_reducible repeat (first | apply Kd.R_alloc | apply Kd.R_drewN | apply Kd.R_drew)); exact (Kd.R_mono (Kd.R_far (p := ⟨gb668, 1, none⟩) (Kd.R_far (p := ⟨gb668, 0, none⟩) (Kd.R_types HO667.out BK668.out (by decide)) (fun _ hk => hk.2) (.int .i64 t664)) (fun _ hk => hk.2) (.slice Ao16 t665.length co16)) (fun _ h_ => h_.1)))); (case side2 => exact (Kd.R_reads' HO667.out).2.1); (case side3 => exact Kd.C_below HR1.out (by repeat (first | (with_reducible first | exact HB.out | apply below_alloc | apply pw_below_drewN | apply below_drew1 | refine below_set ?_ GE663.out | refine below_set ?_ GE668.out) | exact HB.out))); (case side4 => exact HC1.out); rintro e w17 ⟨v670, rfl, ho0, hb⟩; refine ⟨_, rfl, ?_⟩; have n0_ := Aside0.mk (Kd.R_below (by (with_reducible repeat (first | apply Kd.R_alloc | apply Kd.R_drewN | apply Kd.R_drew)); exact (Kd.R_mono (Kd.R_far (p := ⟨gb668, 1, none⟩) (Kd.R_far (p := ⟨gb668, 0, none⟩) (Kd.R_types HO667.out BK668.out (by decide)) (fun _ hk => hk.2) (.int .i64 t664)) (fun _ hk => hk.2) (.slice Ao16 t665.length co16)) (fun _ h_ => h_.1))) hb); have n1_ := Aside0.mk (Kd.R_lower ho0 (below_size (by repeat (first | (with_reducible first | exact HB.out | apply below_alloc | apply pw_below_drewN | apply below_drew1 | refine below_set ?_ GE663.out | refine below_set ?_ GE668.out) | exact HB.out)))); have n2_ := Aside0.mk (blk_below (g := gb663) (o := .cells #[.int .i64 a0_0, .slice A0_1 l0_1.length c0_1] 24 (0, 0)) (by (with_reducible repeat (first | refine blk_drewN ?_ _ | refine blk_drew ?_ | refine blk_alloc ?_ _)); refine blk_far ?_ NB663_668.out _; (with_reducible repeat (first | refine blk_drewN ?_ _ | refine blk_drew ?_ | refine blk_alloc ?_ _)); refine blk_far ?_ NB663_668.out _; (with_reducible repeat (first | refine blk_drewN ?_ _ | refine blk_drew ?_ | refine blk_alloc ?_ _)); exact BK663.out) hb); have n3_ := Aside0.mk (blk_below (g := gb668) (o := .cells #[.int .i64 t664, .slice Ao16 t665.length co16] 24 (0, 0)) (by (with_reducible repeat (first | refine blk_drewN ?_ _ | refine blk_drew ?_ | refine blk_alloc ?_ _)); refine blk_put (cs := #[.int .i64 t664, .slice none 0 0]) ?_ 1 _ rfl; (with_reducible repeat (first | refine blk_drewN ?_ _ | refine blk_drew ?_ | refine blk_alloc ?_ _)); refine blk_put (cs := #[.int .i64 0, .slice none 0 0]) ?_ 0 _ rfl; (with_reducible repeat (first | refine blk_drewN ?_ _ | refine blk_drew ?_ | refine blk_alloc ?_ _)); exact BK668.out) hb); have n4_ := Aside0.mk (below_step (by repeat (first | (with_reducible first | exact HB.out | apply below_alloc | apply pw_below_drewN | apply below_drew1 | refine below_set ?_ GE663.out | refine below_set ?_ GE668.out) | exact HB.out)) hb); clear HO667; clear BK663; clear BK668; clear HB; have HO667 := n0_; have HO671 := n1_; have BK663 := n2_; have BK668 := n3_; have HB := n4_; clear n0_ n1_ n2_ n3_ n4_; (try clear hb); (try clear hb2); (try clear hk); (try clear hi); (try clear ho0)))
  have n0_ := Aside0.mk (Kd.R_drew HO667.out)
  have n1_ := Aside0.mk (Kd.R_drew HO671.out)
  have n2_ := Aside0.mk (blk_drew BK663.out)
  have n3_ := Aside0.mk (blk_drew BK668.out)
  have n4_ := Aside0.mk (below_drew1 HB.out)
  clear HO667
  clear HO671
  clear BK663
  clear BK668
  clear HB
  have HO667 := n0_
  have HO671 := n1_
  have BK663 := n2_
  have BK668 := n3_
  have HB := n4_
  clear n0_ n1_ n2_ n3_ n4_
  obtain ⟨Ao19, co19, eo19⟩ := Kd.R_slice HO671.out
  (first | subst eo19 | (injection eo19 with f1_ f2_ f3_; have f4_ := f1_.symm; have f5_ := f3_.symm; clear f1_ f2_ f3_; subst f4_; subst f5_))
  refine start_ (n := 11) (S := fun w' => w'.cell? ⟨gb668, 0, none⟩ = some (.int .i64 t664) ∧ w'.cell? ⟨gb668, 1, none⟩ = some (.slice Ao16 t665.length co16)) (ds := []) #[false, false, false, false, false, false, false, false, false, false, false] (by kernel_rfl) rfl rfl ⟨(blk_cell BK668.out 0).trans rfl, (blk_cell BK668.out 1).trans rfl⟩ (fun hHeld => ?_); refine with_tabW billetlaw06_FlowPushes.tab3 billetlaw06_FlowPushes.bits3 (fun HT_ HW_ => ?_)
  generalize w17.drew = w18 at HO667 HO671 BK663 BK668 HB hHeld ⊢
  refine pure_ (i := 1) (N := some 15) (v := ?_) (a' := ?_) #[false, true, false, false, false, false, false, false, false, false, false] rfl rfl (any_of HT_.out (by kernel_rfl)) (fun _ _ _ h => h) (Or.inl ⟨by rfl, ?_⟩) ?_ ?_
  rotate_left
  ·intro w'
   go_simp
   with_reducible rfl
  rotate_left
  ·simp only [Act.put, List.setIfInBounds_toArray, List.set_cons_zero, List.set_cons_succ, i64_w, i32_w]
   rfl
  refine take_ (i := 0) (N := some 14) (v := ?_) (a' := ?_) #[true, true, false, false, false, false, false, false, false, false, false] rfl rfl (take_ofW HT_.out HW_.out (by kernel_rfl)) (fun _ _ _ h => h) (Or.inl ⟨by rfl, ?_⟩) hHeld ?_ ?_
  rotate_left
  ·rintro w' ⟨s0, s1⟩
   go_simp
   with_reducible rfl
  rotate_left
  ·simp only [Act.put, List.setIfInBounds_toArray, List.set_cons_zero, List.set_cons_succ, i64_w, i32_w]
   rfl
  refine one_ (i := 2) (N := some 16) #[true, true, true, false, false, false, false, false, false, false, false] rfl rfl (one_of HT_.out (by kernel_rfl)) (by decide) (fun K hK => ?_)
  refine goes_ Try.func24 (by kernel_rfl) rfl #[.agg #[.int .i64 t664, .slice Ao16 t665.length co16], .slice Ao19 t669.length co19, .int .i64 0, .int .i64 1] (by rfl) rfl rfl (by (try simp only [List.map_toArray, List.map_cons, List.map_nil]); first | done | rfl | (simp only [List.length_drop, List.length_take]; rfl)) ?_
  with_reducible refine (billetref05_Good.calls k t664 _ _ t665 _ _ t669 0 1 true _ ?side1 ?side2 ?side3 ?side4 A6.out).mono ?_
  (case side1 => repeat (first | exact (Kd.R_reads' HO667.out).2.2 | (with_reducible refine Kd.C_alloc ?_ _) | (with_reducible refine Kd.C_drewN ?_ _) | (with_reducible refine Kd.C_drew ?_)))
  (case side2 => exact (Kd.R_reads' HO667.out).2.1)
  (case side3 => repeat (first | exact (Kd.R_reads' HO671.out).2.2 | (with_reducible refine Kd.C_alloc ?_ _) | (with_reducible refine Kd.C_drewN ?_ _) | (with_reducible refine Kd.C_drew ?_)))
  (case side4 => exact (Kd.R_reads' HO671.out).2.1)
  rintro e w20 ⟨rfl, hb⟩
  refine ⟨_, rfl, ?_⟩
  have n0_ := Aside0.mk (Kd.R_below (by (with_reducible repeat (first | apply Kd.R_alloc | apply Kd.R_drewN | apply Kd.R_drew)); exact HO667.out) hb)
  have n1_ := Aside0.mk (Kd.R_below (by (with_reducible repeat (first | apply Kd.R_alloc | apply Kd.R_drewN | apply Kd.R_drew)); exact HO671.out) hb)
  have n2_ := Aside0.mk (blk_below (g := gb663) (o := .cells #[.int .i64 a0_0, .slice A0_1 l0_1.length c0_1] 24 (0, 0)) (by (with_reducible repeat (first | refine blk_drewN ?_ _ | refine blk_drew ?_ | refine blk_alloc ?_ _)); exact BK663.out) hb)
  have n3_ := Aside0.mk (blk_below (g := gb668) (o := .cells #[.int .i64 t664, .slice Ao16 t665.length co16] 24 (0, 0)) (by (with_reducible repeat (first | refine blk_drewN ?_ _ | refine blk_drew ?_ | refine blk_alloc ?_ _)); exact BK668.out) hb)
  have n4_ := Aside0.mk (below_step (by repeat (first | (with_reducible first | exact HB.out | apply below_alloc | apply pw_below_drewN | apply below_drew1 | refine below_set ?_ GE663.out | refine below_set ?_ GE668.out) | exact HB.out)) hb)
  clear HO667
  clear HO671
  clear BK663
  clear BK668
  clear HB
  have HO667 := n0_
  have HO671 := n1_
  have BK663 := n2_
  have BK668 := n3_
  have HB := n4_
  clear n0_ n1_ n2_ n3_ n4_
  (try clear hb)
  (try clear hb2)
  (try clear hk)
  (try clear hi)
  refine hK.out _ _ ⟨(blk_cell BK668.out 0).trans rfl, (blk_cell BK668.out 1).trans rfl⟩ (fun hHeld => ?_)
  clear hK K
  refine norm_ (a' := ?_) ?_ ?_
  rotate_left
  ·show Act.put _ (some 16) _ = _
   simp only [Act.put, List.setIfInBounds_toArray, List.set_cons_zero, List.set_cons_succ, i64_w, i32_w]
   rfl
  refine pure_ (i := 3) (N := some 17) (v := ?_) (a' := ?_) #[true, true, true, true, false, false, false, false, false, false, false] rfl rfl (any_of HT_.out (by kernel_rfl)) (fun _ _ _ h => h) (Or.inl ⟨by rfl, ?_⟩) ?_ ?_
  rotate_left
  ·intro w'
   go_simp
   with_reducible rfl
  rotate_left
  ·simp only [Act.put, List.setIfInBounds_toArray, List.set_cons_zero, List.set_cons_succ, i64_w, i32_w]
   rfl
  refine pure_ (i := 5) (N := some 19) (v := ?_) (a' := ?_) #[true, true, true, true, false, true, false, false, false, false, false] rfl rfl (any_of HT_.out (by kernel_rfl)) (fun _ _ _ h => h) (Or.inl ⟨by rfl, ?_⟩) ?_ ?_
  rotate_left
  ·intro w'
   go_simp
   with_reducible rfl
  rotate_left
  ·simp only [Act.put, List.setIfInBounds_toArray, List.set_cons_zero, List.set_cons_succ, i64_w, i32_w]
   rfl
  refine pure_ (i := 6) (N := some 20) (v := ?_) (a' := ?_) #[true, true, true, true, false, true, true, false, false, false, false] rfl rfl (any_of HT_.out (by kernel_rfl)) (fun _ _ _ h => h) (Or.inl ⟨by rfl, ?_⟩) ?_ ?_
  rotate_left
  ·intro w'
   go_simp
   with_reducible rfl
  rotate_left
  ·simp only [Act.put, List.setIfInBounds_toArray, List.set_cons_zero, List.set_cons_succ, i64_w, i32_w]
   rfl
  refine take_ (i := 4) (N := some 18) (v := ?_) (a' := ?_) #[true, true, true, true, true, true, true, false, false, false, false] rfl rfl (take_ofW HT_.out HW_.out (by kernel_rfl)) (fun _ _ _ h => h) (Or.inl ⟨by rfl, ?_⟩) hHeld ?_ ?_
  rotate_left
  ·rintro w' ⟨s0, s1⟩
   go_simp
   with_reducible rfl
  rotate_left
  ·simp only [Act.put, List.setIfInBounds_toArray, List.set_cons_zero, List.set_cons_succ, i64_w, i32_w]
   rfl
  refine one_ (i := 7) (N := some 21) #[true, true, true, true, true, true, true, true, false, false, false] rfl rfl (one_of HT_.out (by kernel_rfl)) (by decide) (fun K hK => ?_)
  refine goes_ Try.func40 (by kernel_rfl) rfl #[.int .i64 a2, .int .i64 40] (by rfl) rfl rfl (by (try simp only [List.map_toArray, List.map_cons, List.map_nil]); first | done | rfl | (simp only [List.length_drop, List.length_take]; rfl)) ?_
  with_reducible refine (billetlaw06_pick.calls a2 40 t673 _ A8.out).mono ?_
  rintro e w' ⟨rfl, ⟨nd, rfl⟩⟩
  refine ⟨_, rfl, ?_⟩
  refine hK.out _ _ ⟨(blk_cell BK668.out 0).trans rfl, (blk_cell BK668.out 1).trans rfl⟩ (fun hHeld => ?_)
  clear hK K
  refine norm_ (a' := ?_) ?_ ?_
  rotate_left
  ·show Act.put _ (some 21) _ = _
   simp only [Act.put, List.setIfInBounds_toArray, List.set_cons_zero, List.set_cons_succ, i64_w, i32_w]
   rfl
  refine one_ (i := 8) (N := some 22) #[true, true, true, true, true, true, true, true, true, false, false] rfl rfl (one_of HT_.out (by kernel_rfl)) (by decide) (fun K hK => ?_)
  refine goes_ Try.func10 (by kernel_rfl) rfl #[.agg #[.int .i64 t664, .slice Ao16 t665.length co16], .slice Ao19 t669.length co19, .int .i64 0, .int .i64 1, .int .i64 t673] (by rfl) rfl rfl (by (try simp only [List.map_toArray, List.map_cons, List.map_nil]); first | done | rfl | (simp only [List.length_drop, List.length_take]; rfl)) ?_
  with_reducible refine (billetlaw06_FlowTells.calls k t664 _ _ t665 _ _ t669 0 1 t673 t674 _ ?side1 ?side2 ?side3 ?side4 A9.out T674.out).mono ?_
  (case side1 => repeat (first | exact (Kd.R_reads' HO667.out).2.2 | (with_reducible refine Kd.C_alloc ?_ _) | (with_reducible refine Kd.C_drewN ?_ _) | (with_reducible refine Kd.C_drew ?_)))
  (case side2 => exact (Kd.R_reads' HO667.out).2.1)
  (case side3 => repeat (first | exact (Kd.R_reads' HO671.out).2.2 | (with_reducible refine Kd.C_alloc ?_ _) | (with_reducible refine Kd.C_drewN ?_ _) | (with_reducible refine Kd.C_drew ?_)))
  (case side4 => exact (Kd.R_reads' HO671.out).2.1)
  rintro e w21 ⟨rfl, hb⟩
  refine ⟨_, rfl, ?_⟩
  have n0_ := Aside0.mk (Kd.R_below (by (with_reducible repeat (first | apply Kd.R_alloc | apply Kd.R_drewN | apply Kd.R_drew)); exact HO667.out) hb)
  have n1_ := Aside0.mk (Kd.R_below (by (with_reducible repeat (first | apply Kd.R_alloc | apply Kd.R_drewN | apply Kd.R_drew)); exact HO671.out) hb)
  have n2_ := Aside0.mk (blk_below (g := gb663) (o := .cells #[.int .i64 a0_0, .slice A0_1 l0_1.length c0_1] 24 (0, 0)) (by (with_reducible repeat (first | refine blk_drewN ?_ _ | refine blk_drew ?_ | refine blk_alloc ?_ _)); exact BK663.out) hb)
  have n3_ := Aside0.mk (blk_below (g := gb668) (o := .cells #[.int .i64 t664, .slice Ao16 t665.length co16] 24 (0, 0)) (by (with_reducible repeat (first | refine blk_drewN ?_ _ | refine blk_drew ?_ | refine blk_alloc ?_ _)); exact BK668.out) hb)
  have n4_ := Aside0.mk (below_step (by repeat (first | (with_reducible first | exact HB.out | apply below_alloc | apply pw_below_drewN | apply below_drew1 | refine below_set ?_ GE663.out | refine below_set ?_ GE668.out) | exact HB.out)) hb)
  clear HO667
  clear HO671
  clear BK663
  clear BK668
  clear HB
  have HO667 := n0_
  have HO671 := n1_
  have BK663 := n2_
  have BK668 := n3_
  have HB := n4_
  clear n0_ n1_ n2_ n3_ n4_
  (try clear hb)
  (try clear hb2)
  (try clear hk)
  (try clear hi)
  refine hK.out _ _ ⟨(blk_cell BK668.out 0).trans rfl, (blk_cell BK668.out 1).trans rfl⟩ (fun hHeld => ?_)
  clear hK K
  refine norm_ (a' := ?_) ?_ ?_
  rotate_left
  ·show Act.put _ (some 22) _ = _
   simp only [Act.put, List.setIfInBounds_toArray, List.set_cons_zero, List.set_cons_succ, i64_w, i32_w]
   rfl
  refine pure_ (i := 9) (N := some 23) (v := ?_) (a' := ?_) #[true, true, true, true, true, true, true, true, true, true, false] rfl rfl (any_of HT_.out (by kernel_rfl)) (fun _ _ _ h => h) (Or.inl ⟨by rfl, ?_⟩) ?_ ?_
  rotate_left
  ·intro w'
   go_simp
   with_reducible rfl
  rotate_left
  ·simp only [Act.put, List.setIfInBounds_toArray, List.set_cons_zero, List.set_cons_succ, i64_w, i32_w]
   rfl
  refine pure_ (i := 10) (N := some 6) (v := ?_) (a' := ?_) #[true, true, true, true, true, true, true, true, true, true, true] rfl rfl (any_of HT_.out (by kernel_rfl)) (fun _ _ _ h => h) (Or.inl ⟨by rfl, ?_⟩) ?_ ?_
  rotate_left
  ·intro w'
   go_simp
   with_reducible rfl
  rotate_left
  ·simp only [Act.put, List.setIfInBounds_toArray, List.set_cons_zero, List.set_cons_succ, i64_w, i32_w]
   rfl
  refine done_ (done_of HT_.out (by kernel_rfl)) ?_
  try go_wp2
  go_ret
  exact ⟨by first | rfl | (simp [errW_none, errW_some] <;> rfl) | (simp [*, errW_none, errW_some] <;> rfl), by repeat (first | (with_reducible first | exact HB.out | apply below_alloc | apply pw_below_drewN | apply below_drew1 | refine below_set ?_ GE663.out | refine below_set ?_ GE668.out) | exact HB.out)⟩
 ·replace c7 := Bool.eq_false_iff.mpr c7
  subst c7
  have H1 : (some false) = some r := by rw [if_neg (show ¬ (false = true) by decide)] at H; exact H
  clear H
  have H := H1
  clear H1
  exact absurd (H.trans (congrArg some HT_.out)) (by simp)

end Go.Proofs.Ytfmfojogcghkkaa.P
