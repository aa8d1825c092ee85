-- Laid by a program of this session (wip/tools/genx.py) out of the kit's print of the translation.
import Derived.Test.YtfmfojogcghkkaaPx0
import Derived.Test.YtfmfojogcghkkaaPx9
import Derived.Test.YtfmfojogcghkkaaPx21
import Derived.Test.YtfmfojogcghkkaaPx33
import Derived.Test.YtfmfojogcghkkaaPx35
namespace Go.Proofs.Ytfmfojogcghkkaa.P
open Go.RowKit Go.Proofs.YtfmfojogcghkkaaW.PrintWords Go.Proofs.YtfmfojogcghkkaaW.PrintLast Go.Proofs.YtfmfojogcghkkaaW.PrintMore
attribute [local go_sem] max2_int min2_int max_two min_two max_three min_three max_four min_four   -- for this text's walks alone
set_option linter.unusedVariables false
set_option linter.unusedSimpArgs false

/-! ### billetlaw06_FlowMirror: function 15 -/
def billetlaw06_FlowMirror.l0 : Nat → Bool → Int → Int → List (S41) → Int → List (S41) → Option (Bool)
  | 0, _, _, _, _, _, _ => none
  | k + 1, x3, x6, x799000, x799001, x800000, x800001 => if x6 < (x799001.length : Int) then (if 0 ≤ x6 then (if x800001.length < 5864062014805 then (billetlaw06_FlowMirror.l0 k x3 (wrap64 (x6 + 1)) x799000 x799001 x800000 (x800001 ++ [(⟨(rd_T41 x799001 x6).f1, (rd_T41 x799001 x6).f0, (rd_T41 x799001 x6).f2⟩ : S41)])) else (none)) else (none)) else ((flow_Max.f k x799000 x799001 0 1).bind fun bt806 => ((flow_Max.f k x800000 x800001 1 0).bind fun bt811 => (if x3 = true then (if bt806.2.2 = 0 then (if bt811.2.2 = 0 then (if bt806.2.1 = bt811.2.1 then ((graph_Good.f k x800000 x800001 bt806.1 1 0).bind fun t816 => (some t816)) else (some false)) else (some false)) else (some false)) else (some false))))
def billetlaw06_FlowMirror.f (k : Nat) (a0_0 : Int) (l0_1 : List (S41)) : Option (Bool) := (billetlaw06_awake.f k).bind fun t793 => ((billetlaw05_Fit.f k a0_0 l0_1).bind fun bt794 => (billetlaw06_FlowMirror.l0 k t793 0 bt794.1 bt794.2 bt794.1 ([] : List (S41))))
theorem billetlaw06_FlowMirror.mono_l : ∀ k, (∀ y0 y1 y2 y3 y4 y5, LeO (billetlaw06_FlowMirror.l0 k y0 y1 y2 y3 y4 y5) (billetlaw06_FlowMirror.l0 (k + 1) y0 y1 y2 y3 y4 y5))
  | 0 => fun _ _ _ _ _ _ r h => by simp [billetlaw06_FlowMirror.l0] at h
  | k + 1 => by
    have ih0 := billetlaw06_FlowMirror.mono_l k
    · intro y0 y1 y2 y3 y4 y5
      unfold billetlaw06_FlowMirror.l0
      repeat' first
      | (with_reducible exact ih0 _ _ _ _ _ _)
      | (with_reducible exact billetlaw05_Fit.mono _ _ _)
      | (with_reducible exact billetlaw06_awake.mono _)
      | (with_reducible exact flow_Max.mono _ _ _ _ _)
      | (with_reducible exact graph_Good.mono _ _ _ _ _ _)
      | (with_reducible exact LeO.refl _)
      | (with_reducible exact LeO.none _)
      | (with_reducible refine LeO.ite ?_ ?_)
      | (with_reducible refine LeO.bind ?_ (fun _ => ?_))
      | exact ih0 _ _ _ _ _ _
      | exact billetlaw05_Fit.mono _ _ _
      | exact billetlaw06_awake.mono _
      | exact flow_Max.mono _ _ _ _ _
      | exact graph_Good.mono _ _ _ _ _ _
      | exact LeO.none _
      | refine LeO.ite ?_ ?_
      | refine LeO.bind ?_ (fun _ => ?_)
theorem billetlaw06_FlowMirror.mono : ∀ a0 a1 k, LeO (billetlaw06_FlowMirror.f k a0 a1) (billetlaw06_FlowMirror.f (k + 1) a0 a1) := by
  intro a0 a1 k
  have ih0 := billetlaw06_FlowMirror.mono_l k
  unfold billetlaw06_FlowMirror.f
  repeat' first
      | (with_reducible exact ih0 _ _ _ _ _ _)
      | (with_reducible exact billetlaw05_Fit.mono _ _ _)
      | (with_reducible exact billetlaw06_awake.mono _)
      | (with_reducible exact flow_Max.mono _ _ _ _ _)
      | (with_reducible exact graph_Good.mono _ _ _ _ _ _)
      | (with_reducible exact LeO.refl _)
      | (with_reducible exact LeO.none _)
      | (with_reducible refine LeO.ite ?_ ?_)
      | (with_reducible refine LeO.bind ?_ (fun _ => ?_))
      | exact ih0 _ _ _ _ _ _
      | exact billetlaw05_Fit.mono _ _ _
      | exact billetlaw06_awake.mono _
      | exact flow_Max.mono _ _ _ _ _
      | exact graph_Good.mono _ _ _ _ _ _
      | exact LeO.none _
      | refine LeO.ite ?_ ?_
      | refine LeO.bind ?_ (fun _ => ?_)
def billetlaw06_FlowMirror.T7 : Bool × List (List Nat × List Nat) := (true, [([], []), ([0], [0]), ([], []), ([2], [2]), ([], []), ([3, 4], [3, 4]), ([5], [5]), ([6], [6]), ([], []), ([8], [8]), ([], []), ([9, 10], [9, 10]), ([11], [11]), ([12], [12]), ([], []), ([14], [14]), ([], []), ([15, 16], [15, 16]), ([17], [17]), ([18], [18]), ([7, 13, 19], [7, 13, 19]), ([20], [20]), ([1, 21], [1, 21]), ([0, 1, 2, 3, 4, 5, 6, 7, 8, 9, 10, 11, 12, 13, 14, 15, 16, 17, 18, 19, 20, 21, 22], []), ([23, 22, 22, 0, 1, 2, 3, 4, 5, 6, 7, 8, 9, 10, 11, 12, 13, 14, 15, 16, 17, 18, 19, 20, 21, 22], [22, 23])])
def billetlaw06_FlowMirror.B7 : List Nat := [0, 1, 0, 4, 0, 28, 60, 124, 0, 256, 0, 1792, 3840, 7936, 0, 16384, 0, 114688, 245760, 507904, 1048572, 2097148, 4194303, 8388607, 16777215]
theorem billetlaw06_FlowMirror.tab7 : rtab .any (opsOf Try.f15 7) = billetlaw06_FlowMirror.T7 := by kernel_rfl
theorem billetlaw06_FlowMirror.bits7 : waitsOk billetlaw06_FlowMirror.T7.2 billetlaw06_FlowMirror.B7 = true := by kernel_rfl
set_option maxHeartbeats 8000000 in
set_option maxRecDepth 100000 in
theorem billetlaw06_FlowMirror.calls (k : Nat) (a0_0 : Int) (A0_1 : Option Addr) (c0_1 : Nat) (l0_1 : List (S41)) (r : Bool) (w : World) (hr0_1 : Kd.C k41 w A0_1 l0_1.length l0_1) (hc0_1 : l0_1.length ≤ c0_1) (h : billetlaw06_FlowMirror.f k a0_0 l0_1 = some r) (hT_ : r = true) :
    Calls Try.prog 15 #[.agg #[.int .i64 a0_0, .slice A0_1 l0_1.length c0_1]] w fun e w' => e = .returned (.bool r) ∧ Below w.heap.size w w' := by
  have HT_ := Aside0.mk hT_
  clear hT_
  have hu24 := Try.underlying24
  have hu41 := Try.underlying41
  have HR0_1 := Aside0.mk hr0_1
  have HC0_1 := Aside0.mk hc0_1
  clear hr0_1 hc0_1
  have HB := Aside0.mk (Below.refl w.heap.size w)
  have H : ((billetlaw06_awake.f k).bind fun t793 => ((billetlaw05_Fit.f k a0_0 l0_1).bind fun bt794 => (billetlaw06_FlowMirror.l0 k t793 0 bt794.1 bt794.2 bt794.1 ([] : List (S41))))) = some r := h
  clear h
  replace H := Option.bind_eq_some_iff.mp H
  obtain ⟨t793, A20, H⟩ := H
  replace H : ((billetlaw05_Fit.f k a0_0 l0_1).bind fun bt794 => (billetlaw06_FlowMirror.l0 k t793 0 bt794.1 bt794.2 bt794.1 ([] : List (S41)))) = some r := H
  have A2 := Aside0.mk A20
  clear A20
  replace H := Option.bind_eq_some_iff.mp H
  obtain ⟨⟨t794, t795⟩, A30, H⟩ := H
  replace H : (billetlaw06_FlowMirror.l0 k t793 0 t794 t795 t794 ([] : List (S41))) = some r := H
  have A3 := Aside0.mk A30
  clear A30
  have H' := Aside0.mk H
  clear H
  go_enter Try.func15, Try.ntmps15
  go_wp2_with (first | ((with_reducible refine gate_dst (N := 1) rfl ?_); refine box_event ?hg (N := 1) ?hd (cs := #[.int .i64 a0_0, .slice A0_1 l0_1.length c0_1]) (t := 24) ?hr ?_; (case hd => rfl); (case hg => rfl); (case hr => first | (go_simp; done) | (go_simp; rfl)); intro gb792 hg w4 hbox hb; have n0_ := Aside0.mk (below_step (by repeat (first | (with_reducible first | exact HB.out | apply below_alloc | apply pw_below_drewN | apply below_drew1) | exact HB.out)) hb); have n1_ := Aside0.mk (hbox); have n2_ := Aside0.mk ((by rw [hg]; exact (below_size (by repeat (first | (with_reducible first | exact HB.out | apply below_alloc | apply pw_below_drewN | apply below_drew1) | exact HB.out))) : w.heap.size ≤ gb792)); have n3_ := Aside0.mk ((by rw [hg]; exact (below_size (by repeat (first | (with_reducible first | exact HB.out | apply below_alloc | apply pw_below_drewN | apply below_drew1) | exact HB.out))) : w.heap.size ≤ gb792)); clear HB; have HB := n0_; have BK792 := n1_; have GW792 := n2_; have GE792 := n3_; clear n0_ n1_ n2_ n3_; clear hb hbox hg) | ((with_reducible refine gate_callee (f := 34) rfl ?_); refine goesL_ (some 13) rfl rfl Try.func34 (by kernel_rfl) rfl #[] rfl (by (try simp only [List.map_toArray, List.map_cons, List.map_nil]); first | done | rfl | (simp only [List.length_drop, List.length_take]; rfl)) ?_; (with_reducible refine (billetlaw06_awake.calls k  t793 _ A2.out).mono ?_); rintro e w5 ⟨rfl, hb⟩; refine ⟨_, rfl, ?_⟩; have n0_ := Aside0.mk (blk_below (g := gb792) (o := .cells #[.int .i64 a0_0, .slice A0_1 l0_1.length c0_1] 24 (0, 0)) (by (with_reducible repeat (first | refine blk_drewN ?_ _ | refine blk_drew ?_ | refine blk_alloc ?_ _)); exact BK792.out) hb); have n1_ := Aside0.mk (below_step (by repeat (first | (with_reducible first | exact HB.out | apply below_alloc | apply pw_below_drewN | apply below_drew1 | refine below_set ?_ GE792.out) | exact HB.out)) hb); clear BK792; clear HB; have BK792 := n0_; have HB := n1_; clear n0_ n1_; (try clear hb); (try clear hb2); (try clear hk); (try clear hi); have hcz6_0 : w5.cell? ⟨gb792, 0, none⟩ = some (.int .i64 a0_0) := (blk_cell BK792.out 0).trans rfl; have hcz6_1 : w5.cell? ⟨gb792, 1, none⟩ = some (.slice A0_1 l0_1.length c0_1) := (blk_cell BK792.out 1).trans rfl; have hfz6_0 := blk_frozen BK792.out 0; have hfz6_1 := blk_frozen BK792.out 1) | ((with_reducible refine gate_callee (f := 30) rfl ?_); refine goesL_ (some 15) rfl rfl Try.func30 (by kernel_rfl) rfl #[.agg #[.int .i64 a0_0, .slice A0_1 l0_1.length c0_1]] rfl (by (try simp only [List.map_toArray, List.map_cons, List.map_nil]); first | done | rfl | (simp only [List.length_drop, List.length_take]; rfl)) ?_; (with_reducible refine (billetlaw05_Fit.calls k a0_0 _ _ l0_1 t794 t795 _ ?side1 ?side2 A3.out).mono ?_); (case side1 => repeat (first | exact (Kd.C_below HR0_1.out HB.out) | (with_reducible refine Kd.C_alloc ?_ _) | (with_reducible refine Kd.C_drewN ?_ _) | (with_reducible refine Kd.C_drew ?_))); (case side2 => exact HC0_1.out); rintro e w7 ⟨v796, rfl, ho0, hb⟩; refine ⟨_, rfl, ?_⟩; have n0_ := Aside0.mk (Kd.R_lower ho0 (below_size (by repeat (first | (with_reducible first | exact HB.out | apply below_alloc | apply pw_below_drewN | apply below_drew1 | refine below_set ?_ GE792.out) | exact HB.out)))); have n1_ := Aside0.mk (blk_below (g := gb792) (o := .cells #[.int .i64 a0_0, .slice A0_1 l0_1.length c0_1] 24 (0, 0)) (by (with_reducible repeat (first | refine blk_drewN ?_ _ | refine blk_drew ?_ | refine blk_alloc ?_ _)); exact BK792.out) hb); have n2_ := Aside0.mk (below_step (by repeat (first | (with_reducible first | exact HB.out | apply below_alloc | apply pw_below_drewN | apply below_drew1 | refine below_set ?_ GE792.out) | exact HB.out)) hb); clear BK792; clear HB; have HO797 := n0_; have BK792 := n1_; have HB := n2_; clear n0_ n1_ n2_; (try clear hb); (try clear hb2); (try clear hk); (try clear hi); (try clear ho0)) | ((with_reducible refine gate_dst (N := 4) rfl ?_); refine box_event ?hg (N := 4) ?hd (cs := #[.int .i64 0, .slice none 0 0]) (t := 24) ?hr ?_; (case hd => rfl); (case hg => rfl); (case hr => first | (go_simp; done) | (go_simp; rfl)); intro gb798 hg w8 hbox hb; have n0_ := Aside0.mk (Kd.R_below (by (with_reducible repeat (first | apply Kd.R_alloc | apply Kd.R_drewN | apply Kd.R_drew)); exact HO797.out) hb); have n1_ := Aside0.mk (blk_below (g := gb792) (o := .cells #[.int .i64 a0_0, .slice A0_1 l0_1.length c0_1] 24 (0, 0)) (by (with_reducible repeat (first | refine blk_drewN ?_ _ | refine blk_drew ?_ | refine blk_alloc ?_ _)); exact BK792.out) hb); have n2_ := Aside0.mk (below_step (by repeat (first | (with_reducible first | exact HB.out | apply below_alloc | apply pw_below_drewN | apply below_drew1 | refine below_set ?_ GE792.out) | exact HB.out)) hb); have n3_ := Aside0.mk (hbox); have n4_ := Aside0.mk ((by rw [hg]; exact (below_size (by repeat (first | (with_reducible first | exact HB.out | apply below_alloc | apply pw_below_drewN | apply below_drew1 | refine below_set ?_ GE792.out) | exact HB.out))) : w.heap.size ≤ gb798)); have n5_ := Aside0.mk ((by rw [hg]; exact (below_size (by repeat (first | (with_reducible first | exact HB.out | apply below_alloc | apply pw_below_drewN | apply below_drew1 | refine below_set ?_ GE792.out) | exact HB.out))) : w.heap.size ≤ gb798)); have n6_ := Aside0.mk ((by rw [hg]; exact Nat.ne_of_lt (blk_lt (g := gb792) (o := .cells #[.int .i64 a0_0, .slice A0_1 l0_1.length c0_1] 24 (0, 0)) (by (with_reducible repeat (first | refine blk_drewN ?_ _ | refine blk_drew ?_ | refine blk_alloc ?_ _)); exact BK792.out)) : gb792 ≠ gb798)); have n7_ := Aside0.mk ((by rw [hg]; exact Nat.ne_of_gt (blk_lt (g := gb792) (o := .cells #[.int .i64 a0_0, .slice A0_1 l0_1.length c0_1] 24 (0, 0)) (by (with_reducible repeat (first | refine blk_drewN ?_ _ | refine blk_drew ?_ | refine blk_alloc ?_ _)); exact BK792.out)) : gb798 ≠ gb792)); clear HO797; clear BK792; clear HB; have HO797 := n0_; have BK792 := n1_; have HB := n2_; have BK798 := n3_; have GW798 := n4_; have GE798 := n5_; have NB792_798 := n6_; have NB798_792 := n7_; clear n0_ n1_ n2_ n3_ n4_ n5_ n6_ n7_; clear hb hbox hg; have hnb9 := NB798_792.out; have hnc9 := NB792_798.out; have hcz10_0 : w8.cell? ⟨gb798, 0, none⟩ = some (.int .i64 0) := (blk_cell BK798.out 0).trans rfl; have hcz10_1 : w8.cell? ⟨gb798, 1, none⟩ = some (.slice none 0 0) := (blk_cell BK798.out 1).trans rfl; have hfz10_0 := blk_frozen BK798.out 0; have hfz10_1 := blk_frozen BK798.out 1; obtain ⟨Ao11, co11, eo11⟩ := Kd.R_slice HO797.out; subst eo11) | ((with_reducible refine gate_dst (N := 5) rfl ?_); refine box_event ?hg (N := 5) ?hd (cs := #[.int .i64 0, .slice none 0 0]) (t := 24) ?hr ?_; (case hd => rfl); (case hg => rfl); (case hr => first | (go_simp; done) | (go_simp; rfl)); intro gb799 hg w12 hbox hb; have n0_ := Aside0.mk (Kd.R_below (by (with_reducible repeat (first | apply Kd.R_alloc | apply Kd.R_drewN | apply Kd.R_drew)); exact (Kd.R_mono (Kd.R_far (p := ⟨gb798, 1, none⟩) (Kd.R_far (p := ⟨gb798, 0, none⟩) (Kd.R_types HO797.out BK798.out (by decide)) (fun _ hk => hk.2) (.int .i64 t794)) (fun _ hk => hk.2) (.slice Ao11 t795.length co11)) (fun _ h_ => h_.1))) hb); have n1_ := Aside0.mk (blk_below (g := gb792) (o := .cells #[.int .i64 a0_0, .slice A0_1 l0_1.length c0_1] 24 (0, 0)) (by (with_reducible repeat (first | refine blk_drewN ?_ _ | refine blk_drew ?_ | refine blk_alloc ?_ _)); refine blk_far ?_ NB792_798.out _; (with_reducible repeat (first | refine blk_drewN ?_ _ | refine blk_drew ?_ | refine blk_alloc ?_ _)); refine blk_far ?_ NB792_798.out _; (with_reducible repeat (first | refine blk_drewN ?_ _ | refine blk_drew ?_ | refine blk_alloc ?_ _)); exact BK792.out) hb); have n2_ := Aside0.mk (blk_below (g := gb798) (o := .cells #[.int .i64 t794, .slice Ao11 t795.length co11] 24 (0, 0)) (by (with_reducible repeat (first | refine blk_drewN ?_ _ | refine blk_drew ?_ | refine blk_alloc ?_ _)); refine blk_put (cs := #[.int .i64 t794, .slice none 0 0]) ?_ 1 _ rfl; (with_reducible repeat (first | refine blk_drewN ?_ _ | refine blk_drew ?_ | refine blk_alloc ?_ _)); refine blk_put (cs := #[.int .i64 0, .slice none 0 0]) ?_ 0 _ rfl; (with_reducible repeat (first | refine blk_drewN ?_ _ | refine blk_drew ?_ | refine blk_alloc ?_ _)); exact BK798.out) hb); have n3_ := Aside0.mk (below_step (by repeat (first | (with_reducible first | exact HB.out | apply below_alloc | apply pw_below_drewN | apply below_drew1 | refine below_set ?_ GE792.out | refine below_set ?_ GE798.out) | exact HB.out)) hb); have n4_ := Aside0.mk (hbox); have n5_ := Aside0.mk ((by rw [hg]; exact (below_size (by repeat (first | (with_reducible first | exact HB.out | apply below_alloc | apply pw_below_drewN | apply below_drew1 | refine below_set ?_ GE792.out | refine below_set ?_ GE798.out) | exact HB.out))) : w.heap.size ≤ gb799)); have n6_ := Aside0.mk ((by rw [hg]; exact (below_size (by repeat (first | (with_reducible first | exact HB.out | apply below_alloc | apply pw_below_drewN | apply below_drew1 | refine below_set ?_ GE792.out | refine below_set ?_ GE798.out) | exact HB.out))) : w.heap.size ≤ gb799)); have n7_ := Aside0.mk ((by rw [hg]; exact Nat.ne_of_lt (blk_lt (g := gb792) (o := .cells #[.int .i64 a0_0, .slice A0_1 l0_1.length c0_1] 24 (0, 0)) (by (with_reducible repeat (first | refine blk_drewN ?_ _ | refine blk_drew ?_ | refine blk_alloc ?_ _)); refine blk_far ?_ NB792_798.out _; (with_reducible repeat (first | refine blk_drewN ?_ _ | refine blk_drew ?_ | refine blk_alloc ?_ _)); refine blk_far ?_ NB792_798.out _; (with_reducible repeat (first | refine blk_drewN ?_ _ | refine blk_drew ?_ | refine blk_alloc ?_ _)); exact BK792.out)) : gb792 ≠ gb799)); have n8_ := Aside0.mk ((by rw [hg]; exact Nat.ne_of_gt (blk_lt (g := gb792) (o := .cells #[.int .i64 a0_0, .slice A0_1 l0_1.length c0_1] 24 (0, 0)) (by (with_reducible repeat (first | refine blk_drewN ?_ _ | refine blk_drew ?_ | refine blk_alloc ?_ _)); refine blk_far ?_ NB792_798.out _; (with_reducible repeat (first | refine blk_drewN ?_ _ | refine blk_drew ?_ | refine blk_alloc ?_ _)); refine blk_far ?_ NB792_798.out _; (with_reducible repeat (first | refine blk_drewN ?_ _ | refine blk_drew ?_ | refine blk_alloc ?_ _)); exact BK792.out)) : gb799 ≠ gb792)); have n9_ := Aside0.mk ((by rw [hg]; exact Nat.ne_of_lt (blk_lt (g := gb798) (o := .cells #[.int .i64 t794, .slice Ao11 t795.length co11] 24 (0, 0)) (by (with_reducible repeat (first | refine blk_drewN ?_ _ | refine blk_drew ?_ | refine blk_alloc ?_ _)); refine blk_put (cs := #[.int .i64 t794, .slice none 0 0]) ?_ 1 _ rfl; (with_reducible repeat (first | refine blk_drewN ?_ _ | refine blk_drew ?_ | refine blk_alloc ?_ _)); refine blk_put (cs := #[.int .i64 0, .slice none 0 0]) ?_ 0 _ rfl; (with_reducible repeat (first | refine blk_drewN ?_ _ | refine blk_drew ?_ | refine blk_alloc ?_ _)); exact BK798.out)) : gb798 ≠ gb799)); have n10_ := Aside0.mk ((by rw [hg]; exact Nat.ne_of_gt (blk_lt (g := gb798) (o := .cells #[.int .i64 t794, .slice Ao11 t795.length co11] 24 (0, 0)) (by (with_reducible repeat (first | refine blk_drewN ?_ _ | refine blk_drew ?_ | refine blk_alloc ?_ _)); refine blk_put (cs := #[.int .i64 t794, .slice none 0 0]) ?_ 1 _ rfl; (with_reducible repeat (first | refine blk_drewN ?_ _ | refine blk_drew ?_ | refine blk_alloc ?_ _)); refine blk_put (cs := #[.int .i64 0, .slice none 0 0]) ?_ 0 _ rfl; (with_reducible repeat (first | refine blk_drewN ?_ _ | refine blk_drew ?_ | refine blk_alloc ?_ _)); exact BK798.out)) : gb799 ≠ gb798)); clear HO797; clear BK792; clear BK798; clear HB; have HO797 := n0_; have BK792 := n1_; have BK798 := n2_; have HB := n3_; have BK799 := n4_; have GW799 := n5_; have GE799 := n6_; have NB792_799 := n7_; have NB799_792 := n8_; have NB798_799 := n9_; have NB799_798 := n10_; clear n0_ n1_ n2_ n3_ n4_ n5_ n6_ n7_ n8_ n9_ n10_; clear hb hbox hg; have hnb13 := NB799_792.out; have hnc13 := NB792_799.out; have hnb14 := NB799_798.out; have hnc14 := NB798_799.out; have hcz15_0 : w12.cell? ⟨gb799, 0, none⟩ = some (.int .i64 0) := (blk_cell BK799.out 0).trans rfl; have hcz15_1 : w12.cell? ⟨gb799, 1, none⟩ = some (.slice none 0 0) := (blk_cell BK799.out 1).trans rfl; have hfz15_0 := blk_frozen BK799.out 0; have hfz15_1 := blk_frozen BK799.out 1))
  go_loopg [6] k (fun kq v6 w' => ∃ (x6_1 : Int) (x800001_1 : List (S41)) (u800001 : Value), v6 = .int .i64 x6_1 ∧ Aside0 (billetlaw06_FlowMirror.l0 kq t793 x6_1 t794 t795 t794 x800001_1 = some r) ∧ Aside0 (kq ≤ k) ∧ Aside0 (Kd.R k41 41 w' w.heap.size (fun k_ => some k_ ≠ (u800001 : Value).ownBlock) (.slice Ao11 t795.length co11) t795) ∧ Aside0 (Kd.R k41 41 w' w.heap.size (fun k_ => some k_ ≠ ((.slice Ao11 t795.length co11) : Value).ownBlock) u800001 x800001_1) ∧ Aside0 (w'.heap[gb792]? = some (.cells #[.int .i64 a0_0, (.slice A0_1 l0_1.length c0_1)] 24 (0, 0))) ∧ Aside0 (w'.heap[gb798]? = some (.cells #[.int .i64 t794, (.slice Ao11 t795.length co11)] 24 (0, 0))) ∧ Aside0 (w'.heap[gb799]? = some (.cells #[.int .i64 t794, u800001] 24 (0, 0))) ∧ Aside0 (Below w.heap.size w w'))
  case atStart => exact ⟨(0), (([] : List (S41))), (.slice none 0 0), (by first | rfl | (simp; done) | (simp [*]; done)), H', ⟨Nat.le_refl _⟩, ⟨by (with_reducible repeat (first | apply Kd.R_alloc | apply Kd.R_drewN | apply Kd.R_drew)); exact Kd.R_mono (Kd.R_far (p := ⟨gb799, 1, none⟩) (Kd.R_far (p := ⟨gb799, 0, none⟩) (Kd.R_types HO797.out BK799.out (by decide)) (fun _ hk => hk.2) (.int .i64 t794)) (fun _ hk => hk.2) (.slice none 0 0)) (fun _ hk => (by simp [Value.ownBlock]))⟩, ⟨by first | exact Kd.R_nil _ _ _ _ _ | exact Kd.N_nil _ _ _ _ _ | exact Kd.V_nil _ _ _ _ _ | exact Kd.Q_nil _ _ _ _ _ | exact Kd.S_nil _ _ _ _ _⟩, ⟨by (with_reducible repeat (first | refine blk_drewN ?_ _ | refine blk_drew ?_ | refine blk_alloc ?_ _)); refine blk_far ?_ NB792_799.out _; (with_reducible repeat (first | refine blk_drewN ?_ _ | refine blk_drew ?_ | refine blk_alloc ?_ _)); refine blk_far ?_ NB792_799.out _; (with_reducible repeat (first | refine blk_drewN ?_ _ | refine blk_drew ?_ | refine blk_alloc ?_ _)); exact BK792.out⟩, ⟨by (with_reducible repeat (first | refine blk_drewN ?_ _ | refine blk_drew ?_ | refine blk_alloc ?_ _)); refine blk_far ?_ NB798_799.out _; (with_reducible repeat (first | refine blk_drewN ?_ _ | refine blk_drew ?_ | refine blk_alloc ?_ _)); refine blk_far ?_ NB798_799.out _; (with_reducible repeat (first | refine blk_drewN ?_ _ | refine blk_drew ?_ | refine blk_alloc ?_ _)); exact BK798.out⟩, ⟨by (with_reducible repeat (first | refine blk_drewN ?_ _ | refine blk_drew ?_ | refine blk_alloc ?_ _)); refine blk_put (cs := #[.int .i64 t794, .slice none 0 0]) ?_ 1 _ rfl; (with_reducible repeat (first | refine blk_drewN ?_ _ | refine blk_drew ?_ | refine blk_alloc ?_ _)); refine blk_put (cs := #[.int .i64 0, .slice none 0 0]) ?_ 0 _ rfl; (with_reducible repeat (first | refine blk_drewN ?_ _ | refine blk_drew ?_ | refine blk_alloc ?_ _)); exact BK799.out⟩, ⟨by repeat (first | (with_reducible first | exact HB.out | apply below_alloc | apply pw_below_drewN | apply below_drew1 | refine below_set ?_ GE792.out | refine below_set ?_ GE798.out | refine below_set ?_ GE799.out) | exact HB.out)⟩⟩
  case round =>
    clear H'
    try clear c1
    try clear p2
    try clear c3
    try clear c9
    try clear c13
    try clear c14
    try clear c15
    try clear hcz10_0
    try clear hcz10_1
    try clear hcz15_0
    try clear hcz15_1
    try clear hcz6_0
    try clear hcz6_1
    try clear hfz10_0
    try clear hfz10_1
    try clear hfz15_0
    try clear hfz15_1
    try clear hfz6_0
    try clear hfz6_1
    obtain ⟨x6_1, x800001_1, u800001, rfl, HA, HK1, HO_799001, HO_800001, BK792, BK798, BK799, HB⟩ := hrel
    cases gk with
    | zero => exact absurd HA.out (by simp [billetlaw06_FlowMirror.l0])
    | succ k1 =>
      have H := HA.out
      clear HA
      simp only [billetlaw06_FlowMirror.l0] at H
      by_cases c16 : x6_1 < (t795.length : Int)
      · rw [if_pos c16] at H
        have c16b0 : decide (x6_1 < (t795.length : Int)) = true := decide_eq_true c16
        clear c16
        by_cases c17 : 0 ≤ x6_1
        · rw [if_pos c17] at H
          have c17b0 : decide (0 ≤ x6_1) = true := decide_eq_true c17
          clear c17
          by_cases c18 : x800001_1.length < 5864062014805
          · rw [if_pos c18] at H
            have LMc18 := Aside0.mk c18
            clear c18
            obtain ⟨y803, hy803⟩ : ∃ y_ : List (S41), y_ = (x800001_1 ++ [(⟨(rd_T41 t795 x6_1).f1, (rd_T41 t795 x6_1).f0, (rd_T41 t795 x6_1).f2⟩ : S41)]) := ⟨_, rfl⟩
            replace H : (billetlaw06_FlowMirror.l0 k1 t793 (wrap64 (x6_1 + 1)) t794 t795 t794 y803) = some r := by first | (rw [hy803]; with_reducible exact H) | (have H2_ := (Option.bind_some _ _).symm.trans H; rw [hy803]; with_reducible exact H2_) | (have H2_ := (Option.bind_some _ _).symm.trans H; with_reducible exact H2_) | with_reducible exact H | (rw [hy803]; exact H) | exact H
            have Ny803 := Aside0.mk hy803
            clear hy803
            have H' := Aside0.mk H
            clear H
            have hnb19 := NB798_792.out
            have hnc19 := NB792_798.out
            have hnb20 := NB798_799.out
            have hnc20 := NB799_798.out
            have hcz21_0 : wr.cell? ⟨gb798, 0, none⟩ = some (.int .i64 t794) := (blk_cell BK798.out 0).trans rfl
            have hcz21_1 : wr.cell? ⟨gb798, 1, none⟩ = some (.slice Ao11 t795.length co11) := (blk_cell BK798.out 1).trans rfl
            have hfz21_0 := blk_frozen BK798.out 0
            have hfz21_1 := blk_frozen BK798.out 1
            try go_wp2
            have n0_ := Aside0.mk (Kd.R_drew HO_799001.out)
            have n1_ := Aside0.mk (Kd.R_drew HO_800001.out)
            have n2_ := Aside0.mk (blk_drew BK792.out)
            have n3_ := Aside0.mk (blk_drew BK798.out)
            have n4_ := Aside0.mk (blk_drew BK799.out)
            have n5_ := Aside0.mk (below_drew1 HB.out)
            clear HO_799001
            clear HO_800001
            clear BK792
            clear BK798
            clear BK799
            clear HB
            have HO_799001 := n0_
            have HO_800001 := n1_
            have BK792 := n2_
            have BK798 := n3_
            have BK799 := n4_
            have HB := n5_
            clear n0_ n1_ n2_ n3_ n4_ n5_
            have p800 : 0 ≤ (x6_1 : Int) := of_decide_eq_true (by first | (with_reducible assumption) | assumption)
            have q800 : x6_1 < (t795.length : Int) := of_decide_eq_true (by first | (with_reducible assumption) | assumption)
            obtain ⟨ad800, e800, hx800_0, hx800_1, hx800_2⟩ := at_T41 (Kd.R_reads' HO_799001.out).2.2 x6_1 p800 q800
            cases e800
            replace p800 := eq_true p800
            replace q800 := eq_true q800
            have p801 : 0 ≤ (x6_1 : Int) := of_decide_eq_true (by first | (with_reducible assumption) | assumption)
            have q801 : x6_1 < (t795.length : Int) := of_decide_eq_true (by first | (with_reducible assumption) | assumption)
            obtain ⟨ad801, e801, hx801_0, hx801_1, hx801_2⟩ := at_T41 (Kd.R_reads' HO_799001.out).2.2 x6_1 p801 q801
            obtain rfl : ad800 = ad801 := (by injection e801)
            replace p801 := eq_true p801
            replace q801 := eq_true q801
            have p802 : 0 ≤ (x6_1 : Int) := of_decide_eq_true (by first | (with_reducible assumption) | assumption)
            have q802 : x6_1 < (t795.length : Int) := of_decide_eq_true (by first | (with_reducible assumption) | assumption)
            obtain ⟨ad802, e802, hx802_0, hx802_1, hx802_2⟩ := at_T41 (Kd.R_reads' HO_799001.out).2.2 x6_1 p802 q802
            obtain rfl : ad800 = ad802 := (by injection e802)
            replace p802 := eq_true p802
            replace q802 := eq_true q802
            refine start_ (n := 25) (S := fun w' => w'.cell? ⟨gb799, 0, none⟩ = some (.int .i64 t794) ∧ w'.cell? ⟨gb799, 1, none⟩ = some (u800001) ∧ w'.cell? ⟨gb798, 0, none⟩ = some (.int .i64 t794) ∧ w'.cell? ⟨gb798, 1, none⟩ = some (.slice (some ad800) t795.length co11) ∧ w'.cell? (ad800.add ((x6_1).toNat * 3)) = some (.int .i64 ((rd_T41 t795 x6_1).f0)) ∧ w'.cell? ⟨(ad800.add ((x6_1).toNat * 3)).block, (ad800.add ((x6_1).toNat * 3)).off + 1, none⟩ = some (.int .i64 ((rd_T41 t795 x6_1).f1)) ∧ w'.cell? ⟨(ad800.add ((x6_1).toNat * 3)).block, (ad800.add ((x6_1).toNat * 3)).off + 2, none⟩ = some (.int .i64 ((rd_T41 t795 x6_1).f2)) ∧ w'.cell? (ad800.add ((x6_1).toNat * 3)) = some (.int .i64 ((rd_T41 t795 x6_1).f0)) ∧ w'.cell? ⟨(ad800.add ((x6_1).toNat * 3)).block, (ad800.add ((x6_1).toNat * 3)).off + 1, none⟩ = some (.int .i64 ((rd_T41 t795 x6_1).f1)) ∧ w'.cell? ⟨(ad800.add ((x6_1).toNat * 3)).block, (ad800.add ((x6_1).toNat * 3)).off + 2, none⟩ = some (.int .i64 ((rd_T41 t795 x6_1).f2)) ∧ w'.cell? (ad800.add ((x6_1).toNat * 3)) = some (.int .i64 ((rd_T41 t795 x6_1).f0)) ∧ w'.cell? ⟨(ad800.add ((x6_1).toNat * 3)).block, (ad800.add ((x6_1).toNat * 3)).off + 1, none⟩ = some (.int .i64 ((rd_T41 t795 x6_1).f1)) ∧ w'.cell? ⟨(ad800.add ((x6_1).toNat * 3)).block, (ad800.add ((x6_1).toNat * 3)).off + 2, none⟩ = some (.int .i64 ((rd_T41 t795 x6_1).f2))) (ds := [22, 24]) #[false, false, false, false, false, false, false, false, false, false, false, false, false, false, false, false, false, false, false, false, false, false, false, false, false] (by kernel_rfl) rfl rfl ⟨(blk_cell BK799.out 0).trans rfl, (blk_cell BK799.out 1).trans rfl, (blk_cell BK798.out 0).trans rfl, (blk_cell BK798.out 1).trans rfl, hx800_0, hx800_1, hx800_2, hx801_0, hx801_1, hx801_2, hx802_0, hx802_1, hx802_2⟩ (fun hHeld => ?_); refine with_tabW billetlaw06_FlowMirror.tab7 billetlaw06_FlowMirror.bits7 (fun HT_ HW_ => ?_)
            generalize wr.drew = w22 at HO_799001 HO_800001 BK792 BK798 BK799 HB hx800_0 hx800_1 hx800_2 hx801_0 hx801_1 hx801_2 hx802_0 hx802_1 hx802_2 hHeld ⊢
            refine pure_ (i := 0) (N := some 26) (v := ?_) (a' := ?_) #[true, false, false, false, false, false, false, false, false, false, false, false, false, false, false, false, false, false, false, false, false, false, false, false, false] rfl rfl (any_of HT_.out (by kernel_rfl)) (fun _ _ _ h => h) (Or.inl ⟨by rfl, ?_⟩) ?_ ?_
            rotate_left
            · intro w'
              go_simp
              with_reducible rfl
            rotate_left
            · simp only [Act.put, List.setIfInBounds_toArray, List.set_cons_zero, List.set_cons_succ, i64_w, i32_w]
              rfl
            refine pure_ (i := 2) (N := some 28) (v := ?_) (a' := ?_) #[true, false, true, false, false, false, false, false, false, false, false, false, false, false, false, false, false, false, false, false, false, false, false, false, false] rfl rfl (any_of HT_.out (by kernel_rfl)) (fun _ _ _ h => h) (Or.inl ⟨by rfl, ?_⟩) ?_ ?_
            rotate_left
            · intro w'
              go_simp
              with_reducible rfl
            rotate_left
            · simp only [Act.put, List.setIfInBounds_toArray, List.set_cons_zero, List.set_cons_succ, i64_w, i32_w]
              rfl
            refine pure_ (i := 4) (N := some 30) (v := ?_) (a' := ?_) #[true, false, true, false, true, false, false, false, false, false, false, false, false, false, false, false, false, false, false, false, false, false, false, false, false] rfl rfl (any_of HT_.out (by kernel_rfl)) (fun _ _ _ h => h) (Or.inl ⟨by rfl, ?_⟩) ?_ ?_
            rotate_left
            · intro w'
              go_simp
              with_reducible rfl
            rotate_left
            · simp only [Act.put, List.setIfInBounds_toArray, List.set_cons_zero, List.set_cons_succ, i64_w, i32_w]
              rfl
            refine pure_ (i := 8) (N := some 34) (v := ?_) (a' := ?_) #[true, false, true, false, true, false, false, false, true, false, false, false, false, false, false, false, false, false, false, false, false, false, false, false, false] rfl rfl (any_of HT_.out (by kernel_rfl)) (fun _ _ _ h => h) (Or.inl ⟨by rfl, ?_⟩) ?_ ?_
            rotate_left
            · intro w'
              go_simp
              with_reducible rfl
            rotate_left
            · simp only [Act.put, List.setIfInBounds_toArray, List.set_cons_zero, List.set_cons_succ, i64_w, i32_w]
              rfl
            refine pure_ (i := 10) (N := some 36) (v := ?_) (a' := ?_) #[true, false, true, false, true, false, false, false, true, false, true, false, false, false, false, false, false, false, false, false, false, false, false, false, false] rfl rfl (any_of HT_.out (by kernel_rfl)) (fun _ _ _ h => h) (Or.inl ⟨by rfl, ?_⟩) ?_ ?_
            rotate_left
            · intro w'
              go_simp
              with_reducible rfl
            rotate_left
            · simp only [Act.put, List.setIfInBounds_toArray, List.set_cons_zero, List.set_cons_succ, i64_w, i32_w]
              rfl
            refine pure_ (i := 14) (N := some 40) (v := ?_) (a' := ?_) #[true, false, true, false, true, false, false, false, true, false, true, false, false, false, true, false, false, false, false, false, false, false, false, false, false] rfl rfl (any_of HT_.out (by kernel_rfl)) (fun _ _ _ h => h) (Or.inl ⟨by rfl, ?_⟩) ?_ ?_
            rotate_left
            · intro w'
              go_simp
              with_reducible rfl
            rotate_left
            · simp only [Act.put, List.setIfInBounds_toArray, List.set_cons_zero, List.set_cons_succ, i64_w, i32_w]
              rfl
            refine pure_ (i := 16) (N := some 42) (v := ?_) (a' := ?_) #[true, false, true, false, true, false, false, false, true, false, true, false, false, false, true, false, true, false, false, false, false, false, false, false, false] rfl rfl (any_of HT_.out (by kernel_rfl)) (fun _ _ _ h => h) (Or.inl ⟨by rfl, ?_⟩) ?_ ?_
            rotate_left
            · intro w'
              go_simp
              with_reducible rfl
            rotate_left
            · simp only [Act.put, List.setIfInBounds_toArray, List.set_cons_zero, List.set_cons_succ, i64_w, i32_w]
              rfl
            refine take_ (i := 1) (N := some 27) (v := ?_) (a' := ?_) #[true, true, true, false, true, false, false, false, true, false, true, false, false, false, true, false, true, false, false, false, false, false, false, false, false] rfl rfl (take_ofW HT_.out HW_.out (by kernel_rfl)) (fun _ _ _ h => h) (Or.inl ⟨by rfl, ?_⟩) hHeld ?_ ?_
            rotate_left
            · rintro w' ⟨s0, s1, s2, s3, s4, s5, s6, s7, s8, s9, s10, s11, s12⟩
              go_simp
              with_reducible rfl
            rotate_left
            · simp only [Act.put, List.setIfInBounds_toArray, List.set_cons_zero, List.set_cons_succ, i64_w, i32_w]
              rfl
            refine take_ (i := 3) (N := some 29) (v := ?_) (a' := ?_) #[true, true, true, true, true, false, false, false, true, false, true, false, false, false, true, false, true, false, false, false, false, false, false, false, false] rfl rfl (take_ofW HT_.out HW_.out (by kernel_rfl)) (fun _ _ _ h => h) (Or.inl ⟨by rfl, ?_⟩) hHeld ?_ ?_
            rotate_left
            · rintro w' ⟨s0, s1, s2, s3, s4, s5, s6, s7, s8, s9, s10, s11, s12⟩
              go_simp
              with_reducible rfl
            rotate_left
            · simp only [Act.put, List.setIfInBounds_toArray, List.set_cons_zero, List.set_cons_succ, i64_w, i32_w]
              rfl
            refine pure_ (i := 5) (N := some 31) (v := ?_) (a' := ?_) #[true, true, true, true, true, true, false, false, true, false, true, false, false, false, true, false, true, false, false, false, false, false, false, false, false] rfl rfl (any_of HT_.out (by kernel_rfl)) (fun _ _ _ h => h) (Or.inl ⟨by rfl, ?_⟩) ?_ ?_
            rotate_left
            · intro w'
              go_simp
              with_reducible rfl
            rotate_left
            · simp only [Act.put, List.setIfInBounds_toArray, List.set_cons_zero, List.set_cons_succ, i64_w, i32_w]
              rfl
            refine pure_ (i := 6) (N := some 32) (v := ?_) (a' := ?_) #[true, true, true, true, true, true, true, false, true, false, true, false, false, false, true, false, true, false, false, false, false, false, false, false, false] rfl rfl (any_of HT_.out (by kernel_rfl)) (fun _ _ _ h => h) (Or.inl ⟨by rfl, ?_⟩) ?_ ?_
            rotate_left
            · intro w'
              go_simp
              with_reducible rfl
            rotate_left
            · simp only [Act.put, List.setIfInBounds_toArray, List.set_cons_zero, List.set_cons_succ, i64_w, i32_w]
              rfl
            refine take_ (i := 7) (N := some 33) (v := ?_) (a' := ?_) #[true, true, true, true, true, true, true, true, true, false, true, false, false, false, true, false, true, false, false, false, false, false, false, false, false] rfl rfl (take_ofW HT_.out HW_.out (by kernel_rfl)) (fun _ _ _ h => h) (Or.inl ⟨by rfl, ?_⟩) hHeld ?_ ?_
            rotate_left
            · rintro w' ⟨s0, s1, s2, s3, s4, s5, s6, s7, s8, s9, s10, s11, s12⟩
              go_simp
              with_reducible rfl
            rotate_left
            · simp only [Act.put, List.setIfInBounds_toArray, List.set_cons_zero, List.set_cons_succ, i64_w, i32_w]
              rfl
            refine take_ (i := 9) (N := some 35) (v := ?_) (a' := ?_) #[true, true, true, true, true, true, true, true, true, true, true, false, false, false, true, false, true, false, false, false, false, false, false, false, false] rfl rfl (take_ofW HT_.out HW_.out (by kernel_rfl)) (fun _ _ _ h => h) (Or.inl ⟨by rfl, ?_⟩) hHeld ?_ ?_
            rotate_left
            · rintro w' ⟨s0, s1, s2, s3, s4, s5, s6, s7, s8, s9, s10, s11, s12⟩
              go_simp
              with_reducible rfl
            rotate_left
            · simp only [Act.put, List.setIfInBounds_toArray, List.set_cons_zero, List.set_cons_succ, i64_w, i32_w]
              rfl
            refine pure_ (i := 11) (N := some 37) (v := ?_) (a' := ?_) #[true, true, true, true, true, true, true, true, true, true, true, true, false, false, true, false, true, false, false, false, false, false, false, false, false] rfl rfl (any_of HT_.out (by kernel_rfl)) (fun _ _ _ h => h) (Or.inl ⟨by rfl, ?_⟩) ?_ ?_
            rotate_left
            · intro w'
              go_simp
              with_reducible rfl
            rotate_left
            · simp only [Act.put, List.setIfInBounds_toArray, List.set_cons_zero, List.set_cons_succ, i64_w, i32_w]
              rfl
            refine pure_ (i := 12) (N := some 38) (v := ?_) (a' := ?_) #[true, true, true, true, true, true, true, true, true, true, true, true, true, false, true, false, true, false, false, false, false, false, false, false, false] rfl rfl (any_of HT_.out (by kernel_rfl)) (fun _ _ _ h => h) (Or.inl ⟨by rfl, ?_⟩) ?_ ?_
            rotate_left
            · intro w'
              go_simp
              with_reducible rfl
            rotate_left
            · simp only [Act.put, List.setIfInBounds_toArray, List.set_cons_zero, List.set_cons_succ, i64_w, i32_w]
              rfl
            refine take_ (i := 13) (N := some 39) (v := ?_) (a' := ?_) #[true, true, true, true, true, true, true, true, true, true, true, true, true, true, true, false, true, false, false, false, false, false, false, false, false] rfl rfl (take_ofW HT_.out HW_.out (by kernel_rfl)) (fun _ _ _ h => h) (Or.inl ⟨by rfl, ?_⟩) hHeld ?_ ?_
            rotate_left
            · rintro w' ⟨s0, s1, s2, s3, s4, s5, s6, s7, s8, s9, s10, s11, s12⟩
              go_simp
              with_reducible rfl
            rotate_left
            · simp only [Act.put, List.setIfInBounds_toArray, List.set_cons_zero, List.set_cons_succ, i64_w, i32_w]
              rfl
            refine take_ (i := 15) (N := some 41) (v := ?_) (a' := ?_) #[true, true, true, true, true, true, true, true, true, true, true, true, true, true, true, true, true, false, false, false, false, false, false, false, false] rfl rfl (take_ofW HT_.out HW_.out (by kernel_rfl)) (fun _ _ _ h => h) (Or.inl ⟨by rfl, ?_⟩) hHeld ?_ ?_
            rotate_left
            · rintro w' ⟨s0, s1, s2, s3, s4, s5, s6, s7, s8, s9, s10, s11, s12⟩
              go_simp
              with_reducible rfl
            rotate_left
            · simp only [Act.put, List.setIfInBounds_toArray, List.set_cons_zero, List.set_cons_succ, i64_w, i32_w]
              rfl
            refine pure_ (i := 17) (N := some 43) (v := ?_) (a' := ?_) #[true, true, true, true, true, true, true, true, true, true, true, true, true, true, true, true, true, true, false, false, false, false, false, false, false] rfl rfl (any_of HT_.out (by kernel_rfl)) (fun _ _ _ h => h) (Or.inl ⟨by rfl, ?_⟩) ?_ ?_
            rotate_left
            · intro w'
              go_simp
              with_reducible rfl
            rotate_left
            · simp only [Act.put, List.setIfInBounds_toArray, List.set_cons_zero, List.set_cons_succ, i64_w, i32_w]
              rfl
            refine pure_ (i := 18) (N := some 44) (v := ?_) (a' := ?_) #[true, true, true, true, true, true, true, true, true, true, true, true, true, true, true, true, true, true, true, false, false, false, false, false, false] rfl rfl (any_of HT_.out (by kernel_rfl)) (fun _ _ _ h => h) (Or.inl ⟨by rfl, ?_⟩) ?_ ?_
            rotate_left
            · intro w'
              go_simp
              with_reducible rfl
            rotate_left
            · simp only [Act.put, List.setIfInBounds_toArray, List.set_cons_zero, List.set_cons_succ, i64_w, i32_w]
              rfl
            refine take_ (i := 19) (N := some 45) (v := ?_) (a' := ?_) #[true, true, true, true, true, true, true, true, true, true, true, true, true, true, true, true, true, true, true, true, false, false, false, false, false] rfl rfl (take_ofW HT_.out HW_.out (by kernel_rfl)) (fun _ _ _ h => h) (Or.inl ⟨by rfl, ?_⟩) hHeld ?_ ?_
            rotate_left
            · rintro w' ⟨s0, s1, s2, s3, s4, s5, s6, s7, s8, s9, s10, s11, s12⟩
              go_simp
              with_reducible rfl
            rotate_left
            · simp only [Act.put, List.setIfInBounds_toArray, List.set_cons_zero, List.set_cons_succ, i64_w, i32_w]
              rfl
            refine pure_ (i := 20) (N := some 46) (v := ?_) (a' := ?_) #[true, true, true, true, true, true, true, true, true, true, true, true, true, true, true, true, true, true, true, true, true, false, false, false, false] rfl rfl (any_of HT_.out (by kernel_rfl)) (fun _ _ _ h => h) (Or.inl ⟨by rfl, ?_⟩) ?_ ?_
            rotate_left
            · intro w'
              go_simp
              with_reducible rfl
            rotate_left
            · simp only [Act.put, List.setIfInBounds_toArray, List.set_cons_zero, List.set_cons_succ, i64_w, i32_w]
              rfl
            refine one_ (i := 21) (N := some 47) #[true, true, true, true, true, true, true, true, true, true, true, true, true, true, true, true, true, true, true, true, true, true, false, false, false] rfl rfl (one_of HT_.out (by kernel_rfl)) (by decide) (fun K hK => ?_)
            refine value_ (w1 := ?_) (v := ?_) (by rfl) rfl ?_ ?_
            rotate_left 2
            · go_simp
              constructor
              · rfl
              · rfl
            refine hK.out _ _ ⟨(blk_cell (blk_alloc BK799.out _) 0).trans rfl, (blk_cell (blk_alloc BK799.out _) 1).trans rfl, (blk_cell (blk_alloc BK798.out _) 0).trans rfl, (blk_cell (blk_alloc BK798.out _) 1).trans rfl, (World.cell?_alloc_lt _ _ _ (World.block_lt_of_cell? _ _ (hHeld.2.2.2.2.1))).trans (hHeld.2.2.2.2.1), (World.cell?_alloc_lt _ _ _ (World.block_lt_of_cell? _ _ (hHeld.2.2.2.2.2.1))).trans (hHeld.2.2.2.2.2.1), (World.cell?_alloc_lt _ _ _ (World.block_lt_of_cell? _ _ (hHeld.2.2.2.2.2.2.1))).trans (hHeld.2.2.2.2.2.2.1), (World.cell?_alloc_lt _ _ _ (World.block_lt_of_cell? _ _ (hHeld.2.2.2.2.2.2.2.1))).trans (hHeld.2.2.2.2.2.2.2.1), (World.cell?_alloc_lt _ _ _ (World.block_lt_of_cell? _ _ (hHeld.2.2.2.2.2.2.2.2.1))).trans (hHeld.2.2.2.2.2.2.2.2.1), (World.cell?_alloc_lt _ _ _ (World.block_lt_of_cell? _ _ (hHeld.2.2.2.2.2.2.2.2.2.1))).trans (hHeld.2.2.2.2.2.2.2.2.2.1), (World.cell?_alloc_lt _ _ _ (World.block_lt_of_cell? _ _ (hHeld.2.2.2.2.2.2.2.2.2.2.1))).trans (hHeld.2.2.2.2.2.2.2.2.2.2.1), (World.cell?_alloc_lt _ _ _ (World.block_lt_of_cell? _ _ (hHeld.2.2.2.2.2.2.2.2.2.2.2.1))).trans (hHeld.2.2.2.2.2.2.2.2.2.2.2.1), (World.cell?_alloc_lt _ _ _ (World.block_lt_of_cell? _ _ (hHeld.2.2.2.2.2.2.2.2.2.2.2.2))).trans (hHeld.2.2.2.2.2.2.2.2.2.2.2.2)⟩ (fun hHeld => ?_)
            clear hK K
            refine norm_ (a' := ?_) ?_ ?_
            rotate_left
            · show Act.put _ (some 47) _ = _
              simp only [Act.put, List.setIfInBounds_toArray, List.set_cons_zero, List.set_cons_succ, i64_w, i32_w]
              rfl
            refine last_ (i := 22) (N := some 48) #[true, true, true, true, true, true, true, true, true, true, true, true, true, true, true, true, true, true, true, true, true, true, true, false, false] rfl rfl (one_of HT_.out (by kernel_rfl)) (by decide) (fun K hK => ?_)
            refine Kd.R_append_step k41 (w0 := w) w.heap.size (by rfl) (.tmp 27) (.tmp 47) 22 41 (.agg #[(.int .i64 0), (.int .i64 0), (.int .i64 0)]) 24 rfl Try.underlying22 info41 rfl (by decide) (by omega) u800001 x800001_1 (⟨(rd_T41 t795 x6_1).f1, (rd_T41 t795 x6_1).f0, (rd_T41 t795 x6_1).f2⟩ : S41) [.int .i64 ((rd_T41 t795 x6_1).f1), .int .i64 ((rd_T41 t795 x6_1).f0), .int .i64 ((rd_T41 t795 x6_1).f2)] (fun k_ => some k_ ≠ (.slice (some ad800) t795.length co11 : Value).ownBlock) (fun _ => False) rfl rfl ?aP (fun _ hk => hk.elim) ?aF ?aO ?aB ?aS ?aL ?_
            (case aP => exact k41_mkM _ _ _ (⟨(rd_T41 t795 x6_1).f1, (rd_T41 t795 x6_1).f0, (rd_T41 t795 x6_1).f2⟩ : S41))
            (case aB => exact (by repeat (first | (with_reducible first | exact HB.out | apply below_alloc | apply pw_below_drewN | apply below_drew1 | refine below_set ?_ GE792.out | refine below_set ?_ GE798.out | refine below_set ?_ GE799.out) | exact HB.out)))
            (case aF => exact (fun k_ hk => Kd.fresh' (Kd.R_lt (by (with_reducible repeat (first | apply Kd.R_alloc | apply Kd.R_drewN | apply Kd.R_drew)); exact HO_799001.out)) k_ hk))
            (case aO => exact (by (with_reducible repeat (first | apply Kd.R_alloc | apply Kd.R_drewN | apply Kd.R_drew)); exact HO_800001.out))
            (case aS => exact (below_size (by repeat (first | (with_reducible first | exact HB.out | apply below_alloc | apply pw_below_drewN | apply below_drew1 | refine below_set ?_ GE792.out | refine below_set ?_ GE798.out | refine below_set ?_ GE799.out) | exact HB.out))))
            (case aL => have := LMc18.out; omega)
            intro v804 w23 ho hb hg hat
            rw [← Ny803.out] at ho
            have n0_ := Aside0.mk (Kd.R_after (ok := (fun _ => True)) (by (with_reducible repeat (first | apply Kd.R_alloc | apply Kd.R_drewN | apply Kd.R_drew)); exact Kd.R_mono HO_799001.out (fun _ hk => ⟨trivial, hk⟩)) hg hat)
            have n1_ := Aside0.mk (blk_grown (g := gb792) (o := .cells #[.int .i64 a0_0, .slice A0_1 l0_1.length c0_1] 24 (0, 0)) (by (with_reducible repeat (first | refine blk_drewN ?_ _ | refine blk_drew ?_ | refine blk_alloc ?_ _)); exact BK792.out) hg (Kd.R_ne HO_800001.out BK792.out (by decide)))
            have n2_ := Aside0.mk (blk_grown (g := gb798) (o := .cells #[.int .i64 t794, .slice (some ad800) t795.length co11] 24 (0, 0)) (by (with_reducible repeat (first | refine blk_drewN ?_ _ | refine blk_drew ?_ | refine blk_alloc ?_ _)); exact BK798.out) hg (Kd.R_ne HO_800001.out BK798.out (by decide)))
            have n3_ := Aside0.mk (blk_grown (g := gb799) (o := .cells #[.int .i64 t794, u800001] 24 (0, 0)) (by (with_reducible repeat (first | refine blk_drewN ?_ _ | refine blk_drew ?_ | refine blk_alloc ?_ _)); exact BK799.out) hg (Kd.R_ne HO_800001.out BK799.out (by decide)))
            have n4_ := Aside0.mk (hb)
            have n5_ := Aside0.mk (ho)
            clear HO_799001
            clear BK792
            clear BK798
            clear BK799
            clear HB
            clear HO_800001
            have HO_799001 := n0_
            have BK792 := n1_
            have BK798 := n2_
            have BK799 := n3_
            have HB := n4_
            have HO805 := n5_
            clear n0_ n1_ n2_ n3_ n4_ n5_
            clear ho hb hg hat
            obtain ⟨Ao24, co24, eo24⟩ := Kd.R_slice HO805.out
            (first | subst eo24 | (injection eo24 with f1_ f2_ f3_; have f4_ := f1_.symm; have f5_ := f3_.symm; clear f1_ f2_ f3_; subst f4_; subst f5_))
            refine hK.out _ _ ?_
            clear hK K
            refine norm_ (a' := ?_) ?_ ?_
            rotate_left
            · show Act.put _ (some 48) _ = _
              simp only [Act.put, List.setIfInBounds_toArray, List.set_cons_zero, List.set_cons_succ, i64_w, i32_w]
              rfl
            refine pure_ (i := 23) (N := some 49) (v := ?_) (a' := ?_) #[true, true, true, true, true, true, true, true, true, true, true, true, true, true, true, true, true, true, true, true, true, true, true, true, false] rfl rfl (any_of HT_.out (by kernel_rfl)) (fun _ _ _ h => h) (Or.inl ⟨by rfl, ?_⟩) ?_ ?_
            rotate_left
            · intro w'
              go_simp
              with_reducible rfl
            rotate_left
            · simp only [Act.put, List.setIfInBounds_toArray, List.set_cons_zero, List.set_cons_succ, i64_w, i32_w]
              rfl
            refine last_ (i := 24) (N := none) #[true, true, true, true, true, true, true, true, true, true, true, true, true, true, true, true, true, true, true, true, true, true, true, true, true] rfl rfl (one_of HT_.out (by kernel_rfl)) (by decide) (fun K hK => ?_)
            have hs25 : w23.cell? ⟨gb799, 1, none⟩ = some (u800001) := (blk_cell BK799.out 1).trans rfl
            have hfs25 := blk_frozen BK799.out 1
            have hns25_0 := NB792_799.out
            have hns25_1 := NB798_799.out
            have hms25_0 := NB799_792.out
            have hms25_1 := NB799_798.out
            refine skip_ (w1 := ?_) (by rfl) rfl ?_ ?_
            rotate_left
            · go_simp
              rfl
            refine hK.out _ _ ?_
            clear hK K
            refine done_ (done_of HT_.out (by kernel_rfl)) ?_
            try go_wp2
            go_roundg k1
            case measure => have := HK1.out; omega
            case rel => exact ⟨(wrap64 (x6_1 + 1)), (y803), (.slice Ao24 y803.length co24), (by first | rfl | (simp; done) | (simp [*]; done)), H', ⟨by have := HK1.out; omega⟩, ⟨by (with_reducible repeat (first | apply Kd.R_alloc | apply Kd.R_drewN | apply Kd.R_drew)); exact Kd.R_mono (Kd.R_far (p := ⟨gb799, 1, none⟩) (Kd.R_types HO_799001.out BK799.out (by decide)) (fun _ hk => hk.2) (.slice Ao24 y803.length co24)) (fun _ hk => hk.1.2)⟩, ⟨by (with_reducible repeat (first | apply Kd.R_alloc | apply Kd.R_drewN | apply Kd.R_drew)); exact Kd.R_mono (Kd.R_far (p := ⟨gb799, 1, none⟩) (Kd.R_types HO805.out BK799.out (by decide)) (fun _ hk => hk.2) (.slice Ao24 y803.length co24)) (fun _ hk => hk.1)⟩, ⟨by (with_reducible repeat (first | refine blk_drewN ?_ _ | refine blk_drew ?_ | refine blk_alloc ?_ _)); refine blk_far ?_ NB792_799.out _; (with_reducible repeat (first | refine blk_drewN ?_ _ | refine blk_drew ?_ | refine blk_alloc ?_ _)); exact BK792.out⟩, ⟨by (with_reducible repeat (first | refine blk_drewN ?_ _ | refine blk_drew ?_ | refine blk_alloc ?_ _)); refine blk_far ?_ NB798_799.out _; (with_reducible repeat (first | refine blk_drewN ?_ _ | refine blk_drew ?_ | refine blk_alloc ?_ _)); exact BK798.out⟩, ⟨by (with_reducible repeat (first | refine blk_drewN ?_ _ | refine blk_drew ?_ | refine blk_alloc ?_ _)); refine blk_put (cs := #[.int .i64 t794, u800001]) ?_ 1 _ rfl; (with_reducible repeat (first | refine blk_drewN ?_ _ | refine blk_drew ?_ | refine blk_alloc ?_ _)); exact BK799.out⟩, ⟨by repeat (first | (with_reducible first | exact HB.out | apply below_alloc | apply pw_below_drewN | apply below_drew1 | refine below_set ?_ GE792.out | refine below_set ?_ GE798.out | refine below_set ?_ GE799.out) | exact HB.out)⟩⟩
          · rw [if_neg c18] at H
            exact absurd H (by simp)
        · rw [if_neg c17] at H
          exact absurd H (by simp)
      · rw [if_neg c16] at H
        have c16b0 : decide (x6_1 < (t795.length : Int)) = false := decide_eq_false c16
        clear c16
        replace H := Option.bind_eq_some_iff.mp H
        obtain ⟨⟨t806, t809, t810⟩, A260, H⟩ := H
        replace H : ((flow_Max.f k1 t794 x800001_1 1 0).bind fun bt811 => (if t793 = true then (if t810 = 0 then (if bt811.2.2 = 0 then (if t809 = bt811.2.1 then ((graph_Good.f k1 t794 x800001_1 t806 1 0).bind fun t816 => (some t816)) else (some false)) else (some false)) else (some false)) else (some false))) = some r := H
        have A26 := Aside0.mk A260
        clear A260
        replace H := Option.bind_eq_some_iff.mp H
        obtain ⟨⟨t811, t814, t815⟩, A270, H⟩ := H
        replace H : (if t793 = true then (if t810 = 0 then (if t815 = 0 then (if t809 = t814 then ((graph_Good.f k1 t794 x800001_1 t806 1 0).bind fun t816 => (some t816)) else (some false)) else (some false)) else (some false)) else (some false)) = some r := H
        have A27 := Aside0.mk A270
        clear A270
        by_cases c28 : t793 = true
        · subst c28
          have H1 : (if t810 = 0 then (if t815 = 0 then (if t809 = t814 then ((graph_Good.f k1 t794 x800001_1 t806 1 0).bind fun t816 => (some t816)) else (some false)) else (some false)) else (some false)) = some r := by rw [if_pos rfl] at H; exact H
          clear H
          have H := H1
          clear H1
          by_cases c29 : t810 = 0
          · rw [if_pos c29] at H
            have c29b0 : (t810 == 0) = true := beq_iff_eq.mpr c29
            have c29b1 : (t810 != 0) = false := bne_eq_false_iff_eq.mpr c29
            clear c29
            by_cases c30 : t815 = 0
            · rw [if_pos c30] at H
              have c30b0 : (t815 == 0) = true := beq_iff_eq.mpr c30
              have c30b1 : (t815 != 0) = false := bne_eq_false_iff_eq.mpr c30
              clear c30
              by_cases c31 : t809 = t814
              · rw [if_pos c31] at H
                have c31b0 : (t809 == t814) = true := beq_iff_eq.mpr c31
                have c31b1 : (t809 != t814) = false := bne_eq_false_iff_eq.mpr c31
                clear c31
                replace H := Option.bind_eq_some_iff.mp H
                obtain ⟨t816, A320, H⟩ := H
                replace H : (some t816) = some r := H
                have A32 := Aside0.mk A320
                clear A320
                obtain rfl := Option.some.inj H
                have hnb33 := NB798_792.out
                have hnc33 := NB792_798.out
                have hnb34 := NB798_799.out
                have hnc34 := NB799_798.out
                have hcz35_0 : wr.cell? ⟨gb798, 0, none⟩ = some (.int .i64 t794) := (blk_cell BK798.out 0).trans rfl
                have hcz35_1 : wr.cell? ⟨gb798, 1, none⟩ = some (.slice Ao11 t795.length co11) := (blk_cell BK798.out 1).trans rfl
                have hfz35_0 := blk_frozen BK798.out 0
                have hfz35_1 := blk_frozen BK798.out 1
                go_wp2_with (first | ((with_reducible refine gate_callee (f := 37) rfl ?_); refine goesL_ (some 52) rfl rfl Try.func37 (by kernel_rfl) rfl #[.agg #[.int .i64 t794, .slice Ao11 t795.length co11], .int .i64 0, .int .i64 1] rfl (by (try simp only [List.map_toArray, List.map_cons, List.map_nil]); first | done | rfl | (simp only [List.length_drop, List.length_take]; rfl)) ?_; (with_reducible refine (flow_Max.calls k1 t794 _ _ t795 0 1 t806 t809 t810 _ ?side1 ?side2 A26.out).mono ?_); (case side1 => repeat (first | exact (Kd.R_reads' HO_799001.out).2.2 | (with_reducible refine Kd.C_alloc ?_ _) | (with_reducible refine Kd.C_drewN ?_ _) | (with_reducible refine Kd.C_drew ?_))); (case side2 => exact (Kd.R_reads' HO_799001.out).2.1); rintro e w36 ⟨v807, rfl, ho0, hb⟩; refine ⟨_, rfl, ?_⟩; have n0_ := Aside0.mk (Kd.R_below (by (with_reducible repeat (first | apply Kd.R_alloc | apply Kd.R_drewN | apply Kd.R_drew)); exact HO_799001.out) hb); have n1_ := Aside0.mk (Kd.R_below (by (with_reducible repeat (first | apply Kd.R_alloc | apply Kd.R_drewN | apply Kd.R_drew)); exact HO_800001.out) hb); have n2_ := Aside0.mk (Kd.V_lower (Kd.V_mono (ok' := fun k_ => some k_ ≠ (.slice Ao11 t795.length co11 : Value).ownBlock ∧ some k_ ≠ (u800001 : Value).ownBlock ∧ k_ ≠ gb792 ∧ k_ ≠ gb798 ∧ k_ ≠ gb799) ho0 (fun k_ hk_ => ⟨(Kd.fresh' (Kd.R_lt (by (with_reducible repeat (first | apply Kd.R_alloc | apply Kd.R_drewN | apply Kd.R_drew)); exact HO_799001.out)) k_ hk_), (Kd.fresh' (Kd.R_lt (by (with_reducible repeat (first | apply Kd.R_alloc | apply Kd.R_drewN | apply Kd.R_drew)); exact HO_800001.out)) k_ hk_), (Kd.freshB (g := gb792) (o := .cells #[.int .i64 a0_0, .slice A0_1 l0_1.length c0_1] 24 (0, 0)) (by (with_reducible repeat (first | refine blk_drewN ?_ _ | refine blk_drew ?_ | refine blk_alloc ?_ _)); exact BK792.out) k_ hk_), (Kd.freshB (g := gb798) (o := .cells #[.int .i64 t794, .slice Ao11 t795.length co11] 24 (0, 0)) (by (with_reducible repeat (first | refine blk_drewN ?_ _ | refine blk_drew ?_ | refine blk_alloc ?_ _)); exact BK798.out) k_ hk_), (Kd.freshB (g := gb799) (o := .cells #[.int .i64 t794, u800001] 24 (0, 0)) (by (with_reducible repeat (first | refine blk_drewN ?_ _ | refine blk_drew ?_ | refine blk_alloc ?_ _)); exact BK799.out) k_ hk_)⟩)) (below_size (by repeat (first | (with_reducible first | exact HB.out | apply below_alloc | apply pw_below_drewN | apply below_drew1 | refine below_set ?_ GE792.out | refine below_set ?_ GE798.out | refine below_set ?_ GE799.out) | exact HB.out)))); have n3_ := Aside0.mk (blk_below (g := gb792) (o := .cells #[.int .i64 a0_0, .slice A0_1 l0_1.length c0_1] 24 (0, 0)) (by (with_reducible repeat (first | refine blk_drewN ?_ _ | refine blk_drew ?_ | refine blk_alloc ?_ _)); exact BK792.out) hb); have n4_ := Aside0.mk (blk_below (g := gb798) (o := .cells #[.int .i64 t794, .slice Ao11 t795.length co11] 24 (0, 0)) (by (with_reducible repeat (first | refine blk_drewN ?_ _ | refine blk_drew ?_ | refine blk_alloc ?_ _)); exact BK798.out) hb); have n5_ := Aside0.mk (blk_below (g := gb799) (o := .cells #[.int .i64 t794, u800001] 24 (0, 0)) (by (with_reducible repeat (first | refine blk_drewN ?_ _ | refine blk_drew ?_ | refine blk_alloc ?_ _)); exact BK799.out) hb); have n6_ := Aside0.mk (below_step (by repeat (first | (with_reducible first | exact HB.out | apply below_alloc | apply pw_below_drewN | apply below_drew1 | refine below_set ?_ GE792.out | refine below_set ?_ GE798.out | refine below_set ?_ GE799.out) | exact HB.out)) hb); clear HO_799001; clear HO_800001; clear BK792; clear BK798; clear BK799; clear HB; have HO_799001 := n0_; have HO_800001 := n1_; have HO808 := n2_; have BK792 := n3_; have BK798 := n4_; have BK799 := n5_; have HB := n6_; clear n0_ n1_ n2_ n3_ n4_ n5_ n6_; (try clear hb); (try clear hb2); (try clear hk); (try clear hi); (try clear ho0); have hnb37 := NB799_792.out; have hnc37 := NB792_799.out; have hcz38_0 : w36.cell? ⟨gb799, 0, none⟩ = some (.int .i64 t794) := (blk_cell BK799.out 0).trans rfl; have hcz38_1 : w36.cell? ⟨gb799, 1, none⟩ = some (u800001) := (blk_cell BK799.out 1).trans rfl; have hfz38_0 := blk_frozen BK799.out 0; have hfz38_1 := blk_frozen BK799.out 1; obtain ⟨Ao39, co39, eo39⟩ := Kd.R_slice HO_800001.out; subst eo39) | ((with_reducible refine gate_callee (f := 37) rfl ?_); refine goesL_ (some 58) rfl rfl Try.func37 (by kernel_rfl) rfl #[.agg #[.int .i64 t794, .slice Ao39 x800001_1.length co39], .int .i64 1, .int .i64 0] rfl (by (try simp only [List.map_toArray, List.map_cons, List.map_nil]); first | done | rfl | (simp only [List.length_drop, List.length_take]; rfl)) ?_; (with_reducible refine (flow_Max.calls k1 t794 _ _ x800001_1 1 0 t811 t814 t815 _ ?side1 ?side2 A27.out).mono ?_); (case side1 => repeat (first | exact (Kd.R_reads' HO_800001.out).2.2 | (with_reducible refine Kd.C_alloc ?_ _) | (with_reducible refine Kd.C_drewN ?_ _) | (with_reducible refine Kd.C_drew ?_))); (case side2 => exact (Kd.R_reads' HO_800001.out).2.1); rintro e w40 ⟨v812, rfl, ho0, hb⟩; refine ⟨_, rfl, ?_⟩; have n0_ := Aside0.mk (Kd.R_below (by (with_reducible repeat (first | apply Kd.R_alloc | apply Kd.R_drewN | apply Kd.R_drew)); exact HO_799001.out) hb); have n1_ := Aside0.mk (Kd.R_below (by (with_reducible repeat (first | apply Kd.R_alloc | apply Kd.R_drewN | apply Kd.R_drew)); exact HO_800001.out) hb); have n2_ := Aside0.mk (Kd.V_below (by (with_reducible repeat (first | apply Kd.V_alloc | apply Kd.V_drewN | apply Kd.V_drew)); exact HO808.out) hb); have n3_ := Aside0.mk (Kd.V_lower (Kd.V_mono (ok' := fun k_ => some k_ ≠ (.slice Ao11 t795.length co11 : Value).ownBlock ∧ some k_ ≠ (.slice Ao39 x800001_1.length co39 : Value).ownBlock ∧ k_ ≠ gb792 ∧ k_ ≠ gb798 ∧ k_ ≠ gb799) ho0 (fun k_ hk_ => ⟨(Kd.fresh' (Kd.R_lt (by (with_reducible repeat (first | apply Kd.R_alloc | apply Kd.R_drewN | apply Kd.R_drew)); exact HO_799001.out)) k_ hk_), (Kd.fresh' (Kd.R_lt (by (with_reducible repeat (first | apply Kd.R_alloc | apply Kd.R_drewN | apply Kd.R_drew)); exact HO_800001.out)) k_ hk_), (Kd.freshB (g := gb792) (o := .cells #[.int .i64 a0_0, .slice A0_1 l0_1.length c0_1] 24 (0, 0)) (by (with_reducible repeat (first | refine blk_drewN ?_ _ | refine blk_drew ?_ | refine blk_alloc ?_ _)); exact BK792.out) k_ hk_), (Kd.freshB (g := gb798) (o := .cells #[.int .i64 t794, .slice Ao11 t795.length co11] 24 (0, 0)) (by (with_reducible repeat (first | refine blk_drewN ?_ _ | refine blk_drew ?_ | refine blk_alloc ?_ _)); exact BK798.out) k_ hk_), (Kd.freshB (g := gb799) (o := .cells #[.int .i64 t794, .slice Ao39 x800001_1.length co39] 24 (0, 0)) (by (with_reducible repeat (first | refine blk_drewN ?_ _ | refine blk_drew ?_ | refine blk_alloc ?_ _)); exact BK799.out) k_ hk_)⟩)) (below_size (by repeat (first | (with_reducible first | exact HB.out | apply below_alloc | apply pw_below_drewN | apply below_drew1 | refine below_set ?_ GE792.out | refine below_set ?_ GE798.out | refine below_set ?_ GE799.out) | exact HB.out)))); have n4_ := Aside0.mk (blk_below (g := gb792) (o := .cells #[.int .i64 a0_0, .slice A0_1 l0_1.length c0_1] 24 (0, 0)) (by (with_reducible repeat (first | refine blk_drewN ?_ _ | refine blk_drew ?_ | refine blk_alloc ?_ _)); exact BK792.out) hb); have n5_ := Aside0.mk (blk_below (g := gb798) (o := .cells #[.int .i64 t794, .slice Ao11 t795.length co11] 24 (0, 0)) (by (with_reducible repeat (first | refine blk_drewN ?_ _ | refine blk_drew ?_ | refine blk_alloc ?_ _)); exact BK798.out) hb); have n6_ := Aside0.mk (blk_below (g := gb799) (o := .cells #[.int .i64 t794, .slice Ao39 x800001_1.length co39] 24 (0, 0)) (by (with_reducible repeat (first | refine blk_drewN ?_ _ | refine blk_drew ?_ | refine blk_alloc ?_ _)); exact BK799.out) hb); have n7_ := Aside0.mk (below_step (by repeat (first | (with_reducible first | exact HB.out | apply below_alloc | apply pw_below_drewN | apply below_drew1 | refine below_set ?_ GE792.out | refine below_set ?_ GE798.out | refine below_set ?_ GE799.out) | exact HB.out)) hb); clear HO_799001; clear HO_800001; clear HO808; clear BK792; clear BK798; clear BK799; clear HB; have HO_799001 := n0_; have HO_800001 := n1_; have HO808 := n2_; have HO813 := n3_; have BK792 := n4_; have BK798 := n5_; have BK799 := n6_; have HB := n7_; clear n0_ n1_ n2_ n3_ n4_ n5_ n6_ n7_; (try clear hb); (try clear hb2); (try clear hk); (try clear hi); (try clear ho0); have hcz41_0 : w40.cell? ⟨gb799, 0, none⟩ = some (.int .i64 t794) := (blk_cell BK799.out 0).trans rfl; have hcz41_1 : w40.cell? ⟨gb799, 1, none⟩ = some (.slice Ao39 x800001_1.length co39) := (blk_cell BK799.out 1).trans rfl; have hfz41_0 := blk_frozen BK799.out 0; have hfz41_1 := blk_frozen BK799.out 1; obtain ⟨Ao42, co42, eo42⟩ := Kd.V_slice HO808.out; subst eo42) | (go_at_call 23; (with_reducible refine (graph_Good.calls k1 t794 _ _ x800001_1 _ _ t806 1 0 t816 _ ?side1 ?side2 ?side3 ?side4 A32.out).mono ?_); (case side1 => repeat (first | exact (Kd.R_reads' HO_800001.out).2.2 | (with_reducible refine Kd.C_alloc ?_ _) | (with_reducible refine Kd.C_drewN ?_ _) | (with_reducible refine Kd.C_drew ?_))); (case side2 => exact (Kd.R_reads' HO_800001.out).2.1); (case side3 => repeat (first | exact (Kd.V_reads' HO808.out).2.2 | (with_reducible refine Kd.C_alloc ?_ _) | (with_reducible refine Kd.C_drewN ?_ _) | (with_reducible refine Kd.C_drew ?_))); (case side4 => exact (Kd.V_reads' HO808.out).2.1); rintro e w43 ⟨rfl, hb⟩; have n0_ := Aside0.mk (Kd.R_below (by (with_reducible repeat (first | apply Kd.R_alloc | apply Kd.R_drewN | apply Kd.R_drew)); exact HO_799001.out) hb); have n1_ := Aside0.mk (Kd.R_below (by (with_reducible repeat (first | apply Kd.R_alloc | apply Kd.R_drewN | apply Kd.R_drew)); exact HO_800001.out) hb); have n2_ := Aside0.mk (Kd.V_below (by (with_reducible repeat (first | apply Kd.V_alloc | apply Kd.V_drewN | apply Kd.V_drew)); exact HO808.out) hb); have n3_ := Aside0.mk (Kd.V_below (by (with_reducible repeat (first | apply Kd.V_alloc | apply Kd.V_drewN | apply Kd.V_drew)); exact HO813.out) hb); have n4_ := Aside0.mk (blk_below (g := gb792) (o := .cells #[.int .i64 a0_0, .slice A0_1 l0_1.length c0_1] 24 (0, 0)) (by (with_reducible repeat (first | refine blk_drewN ?_ _ | refine blk_drew ?_ | refine blk_alloc ?_ _)); exact BK792.out) hb); have n5_ := Aside0.mk (blk_below (g := gb798) (o := .cells #[.int .i64 t794, .slice Ao11 t795.length co11] 24 (0, 0)) (by (with_reducible repeat (first | refine blk_drewN ?_ _ | refine blk_drew ?_ | refine blk_alloc ?_ _)); exact BK798.out) hb); have n6_ := Aside0.mk (blk_below (g := gb799) (o := .cells #[.int .i64 t794, .slice Ao39 x800001_1.length co39] 24 (0, 0)) (by (with_reducible repeat (first | refine blk_drewN ?_ _ | refine blk_drew ?_ | refine blk_alloc ?_ _)); exact BK799.out) hb); have n7_ := Aside0.mk (below_step (by repeat (first | (with_reducible first | exact HB.out | apply below_alloc | apply pw_below_drewN | apply below_drew1 | refine below_set ?_ GE792.out | refine below_set ?_ GE798.out | refine below_set ?_ GE799.out) | exact HB.out)) hb); clear HO_799001; clear HO_800001; clear HO808; clear HO813; clear BK792; clear BK798; clear BK799; clear HB; have HO_799001 := n0_; have HO_800001 := n1_; have HO808 := n2_; have HO813 := n3_; have BK792 := n4_; have BK798 := n5_; have BK799 := n6_; have HB := n7_; clear n0_ n1_ n2_ n3_ n4_ n5_ n6_ n7_; (try clear hb); (try clear hb2); (try clear hk); (try clear hi)))
                go_ret
                exact ⟨by first | rfl | (simp [errW_none, errW_some] <;> rfl) | (simp [*, errW_none, errW_some] <;> rfl), by repeat (first | (with_reducible first | exact HB.out | apply below_alloc | apply pw_below_drewN | apply below_drew1 | refine below_set ?_ GE792.out | refine below_set ?_ GE798.out | refine below_set ?_ GE799.out) | exact HB.out)⟩
              · rw [if_neg c31] at H
                have c31b0 : (t809 == t814) = false := beq_eq_false_iff_ne.mpr c31
                have c31b1 : (t809 != t814) = true := bne_iff_ne.mpr c31
                exact absurd (H.trans (congrArg some HT_.out)) (by simp)
            · rw [if_neg c30] at H
              have c30b0 : (t815 == 0) = false := beq_eq_false_iff_ne.mpr c30
              have c30b1 : (t815 != 0) = true := bne_iff_ne.mpr c30
              exact absurd (H.trans (congrArg some HT_.out)) (by simp)
          · rw [if_neg c29] at H
            have c29b0 : (t810 == 0) = false := beq_eq_false_iff_ne.mpr c29
            have c29b1 : (t810 != 0) = true := bne_iff_ne.mpr c29
            exact absurd (H.trans (congrArg some HT_.out)) (by simp)
        · replace c28 := Bool.eq_false_iff.mpr c28
          subst c28
          have H1 : (some false) = some r := by rw [if_neg (show ¬ (false = true) by decide)] at H; exact H
          clear H
          have H := H1
          clear H1
          exact absurd (H.trans (congrArg some HT_.out)) (by simp)

end Go.Proofs.Ytfmfojogcghkkaa.P
