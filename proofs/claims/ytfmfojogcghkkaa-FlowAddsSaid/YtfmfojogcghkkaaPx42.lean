import Derived.Test.YtfmfojogcghkkaaPx0
import Derived.Test.YtfmfojogcghkkaaPx14
import Derived.Test.YtfmfojogcghkkaaPx16
import Derived.Test.YtfmfojogcghkkaaPx17
import Derived.Test.YtfmfojogcghkkaaPx18
import Derived.Test.YtfmfojogcghkkaaPx21
import Derived.Test.YtfmfojogcghkkaaPx22
import Derived.Test.YtfmfojogcghkkaaPx32
import Derived.Test.YtfmfojogcghkkaaPx35
import Derived.Test.YtfmfojogcghkkaaPx39
namespace Go.Proofs.Ytfmfojogcghkkaa.P
open Go.RowKit Go.Proofs.YtfmfojogcghkkaaW.PrintWords Go.Proofs.YtfmfojogcghkkaaW.PrintLast Go.Proofs.YtfmfojogcghkkaaW.PrintMore
attribute [local go_sem] max2_int min2_int max_two min_two max_three min_three max_four min_four   -- for this text's walks alone
set_option linter.unusedVariables false
set_option linter.unusedSimpArgs false
def billetlaw06_FlowAdds.j0 : Nat → Int → List Int → Int → Bool → Int → List (S41) → Option (Bool)
 | 0, _, _, _, _, _, _ => none
 | k + 1, x2, x10, x11, x61, x707000, x707001 => if x61 = true then (some false) else ((billetref05_Reach.f k x707000 x707001 x10 0).bind fun t719 => (if x11 = x2 then (some true) else (if 1 < (t719.length : Int) then (if rdOf false t719 1 = true then (some false) else ((billetref05_Cut.f k x707000 x707001 t719).bind fun t723 => ((billetref05_Value.f k x707000 x707001 x10 0).bind fun t724 => (some (t723 == t724))))) else (none))))
def billetlaw06_FlowAdds.f (k : Nat) (a0_0 : Int) (l0_1 : List (S41)) (l1 : List Int) (a2 : Int) : Option (Bool) := (billetlaw06_awake.f k).bind fun t701 => ((billetlaw05_Fit.f k a0_0 l0_1).bind fun bt702 => ((billetlaw05_Flow.f k bt702.1 bt702.2 l1).bind fun t707 => ((billetlaw06_pick.f a2 40).bind fun t710 => ((flow_Push.f k bt702.1 bt702.2 t707 0 1 t710).bind fun bt711 => (if t701 = true then (if bt711.2.2 = 0 then ((billetref05_Good.f k bt702.1 bt702.2 bt711.1 0 1).bind fun t716 => (if t716 = true then (if bt711.2.1 < 0 then (billetlaw06_FlowAdds.j0 k t710 bt711.1 bt711.2.1 true bt702.1 bt702.2) else (if bt711.2.1 > t710 then (billetlaw06_FlowAdds.j0 k t710 bt711.1 bt711.2.1 true bt702.1 bt702.2) else ((billetref05_Value.f k bt702.1 bt702.2 bt711.1 0).bind fun t717 => ((billetref05_Value.f k bt702.1 bt702.2 t707 0).bind fun t718 => (billetlaw06_FlowAdds.j0 k t710 bt711.1 bt711.2.1 (t717 != (wrap64 (t718 + bt711.2.1))) bt702.1 bt702.2))))) else (billetlaw06_FlowAdds.j0 k t710 bt711.1 bt711.2.1 true bt702.1 bt702.2))) else (billetlaw06_FlowAdds.j0 k t710 bt711.1 bt711.2.1 true bt702.1 bt702.2)) else (billetlaw06_FlowAdds.j0 k t710 bt711.1 bt711.2.1 true bt702.1 bt702.2))))))
theorem billetlaw06_FlowAdds.mono_l : ∀ k, (∀ y0 y1 y2 y3 y4 y5, LeO (billetlaw06_FlowAdds.j0 k y0 y1 y2 y3 y4 y5) (billetlaw06_FlowAdds.j0 (k + 1) y0 y1 y2 y3 y4 y5))
 | 0 => fun _ _ _ _ _ _ r h => by simp [billetlaw06_FlowAdds.j0] at h
 | k + 1 => by
  have ih0 := billetlaw06_FlowAdds.mono_l k
  ·intro y0 y1 y2 y3 y4 y5
   unfold billetlaw06_FlowAdds.j0
   repeat' first
   | (with_reducible exact ih0 _ _ _ _ _ _)
   | (with_reducible exact billetlaw05_Fit.mono _ _ _)
   | (with_reducible exact billetlaw05_Flow.mono _ _ _ _)
   | (with_reducible exact billetlaw06_awake.mono _)
   | (with_reducible exact billetref05_Cut.mono _ _ _ _)
   | (with_reducible exact billetref05_Good.mono _ _ _ _ _ _)
   | (with_reducible exact billetref05_Reach.mono _ _ _ _ _)
   | (with_reducible exact billetref05_Value.mono _ _ _ _ _)
   | (with_reducible exact flow_Push.mono _ _ _ _ _ _ _)
   | (with_reducible exact LeO.refl _)
   | (with_reducible exact LeO.none _)
   | (with_reducible refine LeO.ite ?_ ?_)
   | (with_reducible refine LeO.bind ?_ (fun _ => ?_))
   | exact ih0 _ _ _ _ _ _
   | exact billetlaw05_Fit.mono _ _ _
   | exact billetlaw05_Flow.mono _ _ _ _
   | exact billetlaw06_awake.mono _
   | exact billetref05_Cut.mono _ _ _ _
   | exact billetref05_Good.mono _ _ _ _ _ _
   | exact billetref05_Reach.mono _ _ _ _ _
   | exact billetref05_Value.mono _ _ _ _ _
   | exact flow_Push.mono _ _ _ _ _ _ _
   | exact LeO.none _
   | refine LeO.ite ?_ ?_
   | refine LeO.bind ?_ (fun _ => ?_)
theorem billetlaw06_FlowAdds.mono : ∀ a0 a1 a2 a3 k, LeO (billetlaw06_FlowAdds.f k a0 a1 a2 a3) (billetlaw06_FlowAdds.f (k + 1) a0 a1 a2 a3) := by
 intro a0 a1 a2 a3 k
 have ih0 := billetlaw06_FlowAdds.mono_l k
 unfold billetlaw06_FlowAdds.f
 repeat' first
   | (with_reducible exact ih0 _ _ _ _ _ _)
   | (with_reducible exact billetlaw05_Fit.mono _ _ _)
   | (with_reducible exact billetlaw05_Flow.mono _ _ _ _)
   | (with_reducible exact billetlaw06_awake.mono _)
   | (with_reducible exact billetref05_Cut.mono _ _ _ _)
   | (with_reducible exact billetref05_Good.mono _ _ _ _ _ _)
   | (with_reducible exact billetref05_Reach.mono _ _ _ _ _)
   | (with_reducible exact billetref05_Value.mono _ _ _ _ _)
   | (with_reducible exact flow_Push.mono _ _ _ _ _ _ _)
   | (with_reducible exact LeO.refl _)
   | (with_reducible exact LeO.none _)
   | (with_reducible refine LeO.ite ?_ ?_)
   | (with_reducible refine LeO.bind ?_ (fun _ => ?_))
   | exact ih0 _ _ _ _ _ _
   | exact billetlaw05_Fit.mono _ _ _
   | exact billetlaw05_Flow.mono _ _ _ _
   | exact billetlaw06_awake.mono _
   | exact billetref05_Cut.mono _ _ _ _
   | exact billetref05_Good.mono _ _ _ _ _ _
   | exact billetref05_Reach.mono _ _ _ _ _
   | exact billetref05_Value.mono _ _ _ _ _
   | exact flow_Push.mono _ _ _ _ _ _ _
   | exact LeO.none _
   | refine LeO.ite ?_ ?_
   | refine LeO.bind ?_ (fun _ => ?_)
def billetlaw06_FlowAdds.T6 : Bool × List (List Nat × List Nat) := (true, [([], []), ([0], [0]), ([1], [1]), ([2], [2]), ([3, 2], [2, 3]), ([2, 4], [2, 4]), ([5, 2], [5]), ([6], [6]), ([6], [6]), ([7, 8, 6, 6], [6, 7, 8]), ([9, 6], [6, 9]), ([6, 10], [6, 10]), ([11, 9], [11]), ([12], [12]), ([13, 12], [12, 13]), ([12, 14], [12, 14]), ([15, 12], [15]), ([16], [16]), ([16], [16]), ([17, 18, 16], [16, 17, 18]), ([16, 19], [16, 19]), ([20, 16], [20]), ([21], [21]), ([21], [21]), ([22, 23, 21, 21], [21, 22, 23]), ([21], [21]), ([21], [21]), ([25, 26, 24, 21], [21, 25, 26]), ([21], [21]), ([27, 28, 21], [21, 27, 28]), ([24, 29, 21], [21, 24, 29]), ([21, 30], [21, 30])])
def billetlaw06_FlowAdds.B6 : List Nat := [0, 1, 3, 7, 15, 31, 63, 127, 127, 511, 1023, 2047, 4095, 8191, 16383, 32767, 65535, 131071, 131071, 524287, 1048575, 2097151, 4194303, 4194303, 16777215, 4194303, 4194303, 134217727, 4194303, 536870911, 1073741823, 2147483647]
theorem billetlaw06_FlowAdds.tab6 : rtab .any (opsOf Try.f13 6) = billetlaw06_FlowAdds.T6 := by kernel_rfl
theorem billetlaw06_FlowAdds.bits6 : waitsOk billetlaw06_FlowAdds.T6.2 billetlaw06_FlowAdds.B6 = true := by kernel_rfl
def billetlaw06_FlowAdds.T9 : Bool × List (List Nat × List Nat) := (true, [([], []), ([], []), ([0, 1], [0, 1]), ([2], [2]), ([3], [3]), ([4, 3], [3, 4]), ([5, 3], [3, 5]), ([6, 3], [3, 6]), ([7, 3, 3], [3, 7]), ([8], [8]), ([8], [8]), ([9, 10, 8, 8], [8, 9, 10]), ([8], [8]), ([8], [8]), ([12, 13, 11, 8], [8, 12, 13]), ([11, 14, 8], [8, 11, 14]), ([8, 15, 3], [3, 8, 15]), ([3, 16], [3, 16]), ([17, 14, 0, 1, 2, 3, 4, 5, 6, 7, 8, 9, 10, 11, 12, 13, 14, 15, 16, 17], [17])])
def billetlaw06_FlowAdds.B9 : List Nat := [0, 0, 3, 7, 15, 31, 63, 127, 255, 511, 511, 2047, 511, 511, 16383, 32767, 65535, 131071, 262143]
theorem billetlaw06_FlowAdds.tab9 : rtab .any (opsOf Try.f13 9) = billetlaw06_FlowAdds.T9 := by kernel_rfl
theorem billetlaw06_FlowAdds.bits9 : waitsOk billetlaw06_FlowAdds.T9.2 billetlaw06_FlowAdds.B9 = true := by kernel_rfl
theorem billetlaw06_FlowAdds.j0_no {k : Nat} {z0 : Int} {z1 : List Int} {z2 : Int} {z4 : Int} {z5 : List (S41)} (h : billetlaw06_FlowAdds.j0 k z0 z1 z2 true z4 z5 = some true) : False := by
 cases k with
 | zero => simp [billetlaw06_FlowAdds.j0] at h
 | succ k => simp [billetlaw06_FlowAdds.j0] at h
set_option maxHeartbeats 8000000 in
set_option maxRecDepth 100000 in
theorem billetlaw06_FlowAdds.calls (k : Nat) (a0_0 : Int) (A0_1 : Option Addr) (c0_1 : Nat) (l0_1 : List (S41)) (A1 : Option Addr) (c1 : Nat) (l1 : List Int) (a2 : Int) (r : Bool) (w : World) (hr0_1 : Kd.C k41 w A0_1 l0_1.length l0_1) (hc0_1 : l0_1.length ≤ c0_1) (hr1 : Kd.C (Kd.int .i64) w A1 l1.length l1) (hc1 : l1.length ≤ c1) (h : billetlaw06_FlowAdds.f k a0_0 l0_1 l1 a2 = some r) (hT_ : r = true) :
  Calls Try.prog 13 #[.agg #[.int .i64 a0_0, .slice A0_1 l0_1.length c0_1], .slice A1 l1.length c1, .int .i64 a2] w fun e w' => e = .returned (.bool r) ∧ Below w.heap.size w w' := by
 have HT_ := Aside0.mk hT_
 clear hT_
 have hu24 := Try.underlying24
 have HR0_1 := Aside0.mk hr0_1
 have HC0_1 := Aside0.mk hc0_1
 clear hr0_1 hc0_1
 have HR1 := Aside0.mk hr1
 have HC1 := Aside0.mk hc1
 clear hr1 hc1
 have HB := Aside0.mk (Below.refl w.heap.size w)
 have H : ((billetlaw06_awake.f k).bind fun t701 => ((billetlaw05_Fit.f k a0_0 l0_1).bind fun bt702 => ((billetlaw05_Flow.f k bt702.1 bt702.2 l1).bind fun t707 => ((billetlaw06_pick.f a2 40).bind fun t710 => ((flow_Push.f k bt702.1 bt702.2 t707 0 1 t710).bind fun bt711 => (if t701 = true then (if bt711.2.2 = 0 then ((billetref05_Good.f k bt702.1 bt702.2 bt711.1 0 1).bind fun t716 => (if t716 = true then (if bt711.2.1 < 0 then (billetlaw06_FlowAdds.j0 k t710 bt711.1 bt711.2.1 true bt702.1 bt702.2) else (if bt711.2.1 > t710 then (billetlaw06_FlowAdds.j0 k t710 bt711.1 bt711.2.1 true bt702.1 bt702.2) else ((billetref05_Value.f k bt702.1 bt702.2 bt711.1 0).bind fun t717 => ((billetref05_Value.f k bt702.1 bt702.2 t707 0).bind fun t718 => (billetlaw06_FlowAdds.j0 k t710 bt711.1 bt711.2.1 (t717 != (wrap64 (t718 + bt711.2.1))) bt702.1 bt702.2))))) else (billetlaw06_FlowAdds.j0 k t710 bt711.1 bt711.2.1 true bt702.1 bt702.2))) else (billetlaw06_FlowAdds.j0 k t710 bt711.1 bt711.2.1 true bt702.1 bt702.2)) else (billetlaw06_FlowAdds.j0 k t710 bt711.1 bt711.2.1 true bt702.1 bt702.2))))))) = some r := h
 clear h
 replace H := Option.bind_eq_some_iff.mp H
 obtain ⟨t701, A40, H⟩ := H
 replace H : ((billetlaw05_Fit.f k a0_0 l0_1).bind fun bt702 => ((billetlaw05_Flow.f k bt702.1 bt702.2 l1).bind fun t707 => ((billetlaw06_pick.f a2 40).bind fun t710 => ((flow_Push.f k bt702.1 bt702.2 t707 0 1 t710).bind fun bt711 => (if t701 = true then (if bt711.2.2 = 0 then ((billetref05_Good.f k bt702.1 bt702.2 bt711.1 0 1).bind fun t716 => (if t716 = true then (if bt711.2.1 < 0 then (billetlaw06_FlowAdds.j0 k t710 bt711.1 bt711.2.1 true bt702.1 bt702.2) else (if bt711.2.1 > t710 then (billetlaw06_FlowAdds.j0 k t710 bt711.1 bt711.2.1 true bt702.1 bt702.2) else ((billetref05_Value.f k bt702.1 bt702.2 bt711.1 0).bind fun t717 => ((billetref05_Value.f k bt702.1 bt702.2 t707 0).bind fun t718 => (billetlaw06_FlowAdds.j0 k t710 bt711.1 bt711.2.1 (t717 != (wrap64 (t718 + bt711.2.1))) bt702.1 bt702.2))))) else (billetlaw06_FlowAdds.j0 k t710 bt711.1 bt711.2.1 true bt702.1 bt702.2))) else (billetlaw06_FlowAdds.j0 k t710 bt711.1 bt711.2.1 true bt702.1 bt702.2)) else (billetlaw06_FlowAdds.j0 k t710 bt711.1 bt711.2.1 true bt702.1 bt702.2)))))) = some r := H
 have A4 := Aside0.mk A40
 clear A40
 replace H := Option.bind_eq_some_iff.mp H
 obtain ⟨⟨t702, t703⟩, A50, H⟩ := H
 replace H : ((billetlaw05_Flow.f k t702 t703 l1).bind fun t707 => ((billetlaw06_pick.f a2 40).bind fun t710 => ((flow_Push.f k t702 t703 t707 0 1 t710).bind fun bt711 => (if t701 = true then (if bt711.2.2 = 0 then ((billetref05_Good.f k t702 t703 bt711.1 0 1).bind fun t716 => (if t716 = true then (if bt711.2.1 < 0 then (billetlaw06_FlowAdds.j0 k t710 bt711.1 bt711.2.1 true t702 t703) else (if bt711.2.1 > t710 then (billetlaw06_FlowAdds.j0 k t710 bt711.1 bt711.2.1 true t702 t703) else ((billetref05_Value.f k t702 t703 bt711.1 0).bind fun t717 => ((billetref05_Value.f k t702 t703 t707 0).bind fun t718 => (billetlaw06_FlowAdds.j0 k t710 bt711.1 bt711.2.1 (t717 != (wrap64 (t718 + bt711.2.1))) t702 t703))))) else (billetlaw06_FlowAdds.j0 k t710 bt711.1 bt711.2.1 true t702 t703))) else (billetlaw06_FlowAdds.j0 k t710 bt711.1 bt711.2.1 true t702 t703)) else (billetlaw06_FlowAdds.j0 k t710 bt711.1 bt711.2.1 true t702 t703))))) = some r := H
 have A5 := Aside0.mk A50
 clear A50
 replace H := Option.bind_eq_some_iff.mp H
 obtain ⟨t707, A60, H⟩ := H
 replace H : ((billetlaw06_pick.f a2 40).bind fun t710 => ((flow_Push.f k t702 t703 t707 0 1 t710).bind fun bt711 => (if t701 = true then (if bt711.2.2 = 0 then ((billetref05_Good.f k t702 t703 bt711.1 0 1).bind fun t716 => (if t716 = true then (if bt711.2.1 < 0 then (billetlaw06_FlowAdds.j0 k t710 bt711.1 bt711.2.1 true t702 t703) else (if bt711.2.1 > t710 then (billetlaw06_FlowAdds.j0 k t710 bt711.1 bt711.2.1 true t702 t703) else ((billetref05_Value.f k t702 t703 bt711.1 0).bind fun t717 => ((billetref05_Value.f k t702 t703 t707 0).bind fun t718 => (billetlaw06_FlowAdds.j0 k t710 bt711.1 bt711.2.1 (t717 != (wrap64 (t718 + bt711.2.1))) t702 t703))))) else (billetlaw06_FlowAdds.j0 k t710 bt711.1 bt711.2.1 true t702 t703))) else (billetlaw06_FlowAdds.j0 k t710 bt711.1 bt711.2.1 true t702 t703)) else (billetlaw06_FlowAdds.j0 k t710 bt711.1 bt711.2.1 true t702 t703)))) = some r := H
 have A6 := Aside0.mk A60
 clear A60
 replace H := Option.bind_eq_some_iff.mp H
 obtain ⟨t710, A70, H⟩ := H
 replace H : ((flow_Push.f k t702 t703 t707 0 1 t710).bind fun bt711 => (if t701 = true then (if bt711.2.2 = 0 then ((billetref05_Good.f k t702 t703 bt711.1 0 1).bind fun t716 => (if t716 = true then (if bt711.2.1 < 0 then (billetlaw06_FlowAdds.j0 k t710 bt711.1 bt711.2.1 true t702 t703) else (if bt711.2.1 > t710 then (billetlaw06_FlowAdds.j0 k t710 bt711.1 bt711.2.1 true t702 t703) else ((billetref05_Value.f k t702 t703 bt711.1 0).bind fun t717 => ((billetref05_Value.f k t702 t703 t707 0).bind fun t718 => (billetlaw06_FlowAdds.j0 k t710 bt711.1 bt711.2.1 (t717 != (wrap64 (t718 + bt711.2.1))) t702 t703))))) else (billetlaw06_FlowAdds.j0 k t710 bt711.1 bt711.2.1 true t702 t703))) else (billetlaw06_FlowAdds.j0 k t710 bt711.1 bt711.2.1 true t702 t703)) else (billetlaw06_FlowAdds.j0 k t710 bt711.1 bt711.2.1 true t702 t703))) = some r := H
 have A7 := Aside0.mk A70
 clear A70
 replace H := Option.bind_eq_some_iff.mp H
 obtain ⟨⟨t711, t714, t715⟩, A80, H⟩ := H
 replace H : (if t701 = true then (if t715 = 0 then ((billetref05_Good.f k t702 t703 t711 0 1).bind fun t716 => (if t716 = true then (if t714 < 0 then (billetlaw06_FlowAdds.j0 k t710 t711 t714 true t702 t703) else (if t714 > t710 then (billetlaw06_FlowAdds.j0 k t710 t711 t714 true t702 t703) else ((billetref05_Value.f k t702 t703 t711 0).bind fun t717 => ((billetref05_Value.f k t702 t703 t707 0).bind fun t718 => (billetlaw06_FlowAdds.j0 k t710 t711 t714 (t717 != (wrap64 (t718 + t714))) t702 t703))))) else (billetlaw06_FlowAdds.j0 k t710 t711 t714 true t702 t703))) else (billetlaw06_FlowAdds.j0 k t710 t711 t714 true t702 t703)) else (billetlaw06_FlowAdds.j0 k t710 t711 t714 true t702 t703)) = some r := H
 have A8 := Aside0.mk A80
 clear A80
 have HC9 := Aside0.mk H
 clear H
 go_enter Try.func13, Try.ntmps13
 go_upto_region 6 with (first | ((with_reducible refine gate_dst (N := 3) rfl ?_); refine box_event ?hg (N := 3) ?hd (cs := #[.int .i64 a0_0, .slice A0_1 l0_1.length c0_1]) (t := 24) ?hr ?_; (case hd => rfl); (case hg => rfl); (case hr => first | (go_simp; done) | (go_simp; rfl)); intro gb700 hg w10 hbox hb; have n0_ := Aside0.mk (below_step (by repeat (first | (with_reducible first | exact HB.out | apply below_alloc | apply pw_below_drewN | apply below_drew1) | exact HB.out)) hb); have n1_ := Aside0.mk (hbox); have n2_ := Aside0.mk ((by rw [hg]; exact (below_size (by repeat (first | (with_reducible first | exact HB.out | apply below_alloc | apply pw_below_drewN | apply below_drew1) | exact HB.out))) : w.heap.size ≤ gb700)); have n3_ := Aside0.mk ((by rw [hg]; exact (below_size (by repeat (first | (with_reducible first | exact HB.out | apply below_alloc | apply pw_below_drewN | apply below_drew1) | exact HB.out))) : w.heap.size ≤ gb700)); clear HB; have HB := n0_; have BK700 := n1_; have GW700 := n2_; have GE700 := n3_; clear n0_ n1_ n2_ n3_; clear hb hbox hg) | ((with_reducible refine gate_callee (f := 34) rfl ?_); refine goesL_ (some 14) rfl rfl Try.func34 (by kernel_rfl) rfl #[] rfl (by (try simp only [List.map_toArray, List.map_cons, List.map_nil]); first | done | rfl | (simp only [List.length_drop, List.length_take]; rfl)) ?_; (with_reducible refine (billetlaw06_awake.calls k  t701 _ A4.out).mono ?_); rintro e w11 ⟨rfl, hb⟩; refine ⟨_, rfl, ?_⟩; have n0_ := Aside0.mk (blk_below (g := gb700) (o := .cells #[.int .i64 a0_0, .slice A0_1 l0_1.length c0_1] 24 (0, 0)) (by (with_reducible repeat (first | refine blk_drewN ?_ _ | refine blk_drew ?_ | refine blk_alloc ?_ _)); exact BK700.out) hb); have n1_ := Aside0.mk (below_step (by repeat (first | (with_reducible first | exact HB.out | apply below_alloc | apply pw_below_drewN | apply below_drew1 | refine below_set ?_ GE700.out) | exact HB.out)) hb); clear BK700; clear HB; have BK700 := n0_; have HB := n1_; clear n0_ n1_; (try clear hb); (try clear hb2); (try clear hk); (try clear hi); have hcz12_0 : w11.cell? ⟨gb700, 0, none⟩ = some (.int .i64 a0_0) := (blk_cell BK700.out 0).trans rfl; have hcz12_1 : w11.cell? ⟨gb700, 1, none⟩ = some (.slice A0_1 l0_1.length c0_1) := (blk_cell BK700.out 1).trans rfl; have hfz12_0 := blk_frozen BK700.out 0; have hfz12_1 := blk_frozen BK700.out 1) | ((with_reducible refine gate_callee (f := 30) rfl ?_); refine goesL_ (some 16) rfl rfl Try.func30 (by kernel_rfl) rfl #[.agg #[.int .i64 a0_0, .slice A0_1 l0_1.length c0_1]] rfl (by (try simp only [List.map_toArray, List.map_cons, List.map_nil]); first | done | rfl | (simp only [List.length_drop, List.length_take]; rfl)) ?_; (with_reducible refine (billetlaw05_Fit.calls k a0_0 _ _ l0_1 t702 t703 _ ?side1 ?side2 A5.out).mono ?_); (case side1 => repeat (first | exact (Kd.C_below HR0_1.out HB.out) | (with_reducible refine Kd.C_alloc ?_ _) | (with_reducible refine Kd.C_drewN ?_ _) | (with_reducible refine Kd.C_drew ?_))); (case side2 => exact HC0_1.out); rintro e w13 ⟨v704, rfl, ho0, hb⟩; refine ⟨_, rfl, ?_⟩; have n0_ := Aside0.mk (Kd.R_lower ho0 (below_size (by repeat (first | (with_reducible first | exact HB.out | apply below_alloc | apply pw_below_drewN | apply below_drew1 | refine below_set ?_ GE700.out) | exact HB.out)))); have n1_ := Aside0.mk (blk_below (g := gb700) (o := .cells #[.int .i64 a0_0, .slice A0_1 l0_1.length c0_1] 24 (0, 0)) (by (with_reducible repeat (first | refine blk_drewN ?_ _ | refine blk_drew ?_ | refine blk_alloc ?_ _)); exact BK700.out) hb); have n2_ := Aside0.mk (below_step (by repeat (first | (with_reducible first | exact HB.out | apply below_alloc | apply pw_below_drewN | apply below_drew1 | refine below_set ?_ GE700.out) | exact HB.out)) hb); clear BK700; clear HB; have HO705 := n0_; have BK700 := n1_; have HB := n2_; clear n0_ n1_ n2_; (try clear hb); (try clear hb2); (try clear hk); (try clear hi); (try clear ho0)) | ((with_reducible refine gate_dst (N := 8) rfl ?_); refine box_event ?hg (N := 8) ?hd (cs := #[.int .i64 0, .slice none 0 0]) (t := 24) ?hr ?_; (case hd => rfl); (case hg => rfl); (case hr => first | (go_simp; done) | (go_simp; rfl)); intro gb706 hg w14 hbox hb; have n0_ := Aside0.mk (Kd.R_below (by (with_reducible repeat (first | apply Kd.R_alloc | apply Kd.R_drewN | apply Kd.R_drew)); exact HO705.out) hb); have n1_ := Aside0.mk (blk_below (g := gb700) (o := .cells #[.int .i64 a0_0, .slice A0_1 l0_1.length c0_1] 24 (0, 0)) (by (with_reducible repeat (first | refine blk_drewN ?_ _ | refine blk_drew ?_ | refine blk_alloc ?_ _)); exact BK700.out) hb); have n2_ := Aside0.mk (below_step (by repeat (first | (with_reducible first | exact HB.out | apply below_alloc | apply pw_below_drewN | apply below_drew1 | refine below_set ?_ GE700.out) | exact HB.out)) hb); have n3_ := Aside0.mk (hbox); have n4_ := Aside0.mk ((by rw [hg]; exact (below_size (by repeat (first | (with_reducible first | exact HB.out | apply below_alloc | apply pw_below_drewN | apply below_drew1 | refine below_set ?_ GE700.out) | exact HB.out))) : w.heap.size ≤ gb706)); have n5_ := Aside0.mk ((by rw [hg]; exact (below_size (by repeat (first | (with_reducible first | exact HB.out | apply below_alloc | apply pw_below_drewN | apply below_drew1 | refine below_set ?_ GE700.out) | exact HB.out))) : w.heap.size ≤ gb706)); have n6_ := Aside0.mk ((by rw [hg]; exact Nat.ne_of_lt (blk_lt (g := gb700) (o := .cells #[.int .i64 a0_0, .slice A0_1 l0_1.length c0_1] 24 (0, 0)) (by (with_reducible repeat (first | refine blk_drewN ?_ _ | refine blk_drew ?_ | refine blk_alloc ?_ _)); exact BK700.out)) : gb700 ≠ gb706)); have n7_ := Aside0.mk ((by rw [hg]; exact Nat.ne_of_gt (blk_lt (g := gb700) (o := .cells #[.int .i64 a0_0, .slice A0_1 l0_1.length c0_1] 24 (0, 0)) (by (with_reducible repeat (first | refine blk_drewN ?_ _ | refine blk_drew ?_ | refine blk_alloc ?_ _)); exact BK700.out)) : gb706 ≠ gb700)); clear HO705; clear BK700; clear HB; have HO705 := n0_; have BK700 := n1_; have HB := n2_; have BK706 := n3_; have GW706 := n4_; have GE706 := n5_; have NB700_706 := n6_; have NB706_700 := n7_; clear n0_ n1_ n2_ n3_ n4_ n5_ n6_ n7_; clear hb hbox hg; have hnb15 := NB706_700.out; have hnc15 := NB700_706.out; have hcz16_0 : w14.cell? ⟨gb706, 0, none⟩ = some (.int .i64 0) := (blk_cell BK706.out 0).trans rfl; have hcz16_1 : w14.cell? ⟨gb706, 1, none⟩ = some (.slice none 0 0) := (blk_cell BK706.out 1).trans rfl; have hfz16_0 := blk_frozen BK706.out 0; have hfz16_1 := blk_frozen BK706.out 1; obtain ⟨Ao17, co17, eo17⟩ := Kd.R_slice HO705.out; subst eo17) | ((with_reducible refine gate_callee (f := 31) rfl ?_); refine goesL_ (some 19) rfl rfl Try.func31 (by kernel_rfl) rfl #[.agg #[.int .i64 t702, .slice Ao17 t703.length co17], .slice A1 l1.length c1] rfl (by (try simp only [List.map_toArray, List.map_cons, List.map_nil]); first | done | rfl | (simp only [List.length_drop, List.length_take]; rfl)) ?_; (with_reducible refine (billetlaw05_Flow.calls k t702 _ _ t703 _ _ l1 t707 _ ?side1 ?side2 ?side3 ?side4 A6.out).mono ?_); (case side1 => refine (Kd.R_reads' (e := 41) (base := w.heap.size) (ok := fun k_ => True) (n := t703.length) (c := co17) ?_).2.2; exact (by (with_reducible repeat (first | apply Kd.R_alloc | apply Kd.R_drewN | apply Kd.R_drew)); exact (Kd.R_mono (Kd.R_far (p := ⟨gb706, 1, none⟩) (Kd.R_far (p := ⟨gb706, 0, none⟩) (Kd.R_types HO705.out BK706.out (by decide)) (fun _ hk => hk.2) (.int .i64 t702)) (fun _ hk => hk.2) (.slice Ao17 t703.length co17)) (fun _ h_ => h_.1)))); (case side2 => exact (Kd.R_reads' HO705.out).2.1); (case side3 => exact Kd.C_below HR1.out (by repeat (first | (with_reducible first | exact HB.out | apply below_alloc | apply pw_below_drewN | apply below_drew1 | refine below_set ?_ GE700.out | refine below_set ?_ GE706.out) | exact HB.out))); (case side4 => exact HC1.out); rintro e w18 ⟨v708, rfl, ho0, hb⟩; refine ⟨_, rfl, ?_⟩; have n0_ := Aside0.mk (Kd.R_below (by (with_reducible repeat (first | apply Kd.R_alloc | apply Kd.R_drewN | apply Kd.R_drew)); exact (Kd.R_mono (Kd.R_far (p := ⟨gb706, 1, none⟩) (Kd.R_far (p := ⟨gb706, 0, none⟩) (Kd.R_types HO705.out BK706.out (by decide)) (fun _ hk => hk.2) (.int .i64 t702)) (fun _ hk => hk.2) (.slice Ao17 t703.length co17)) (fun _ h_ => h_.1))) hb); have n1_ := Aside0.mk (Kd.R_lower ho0 (below_size (by repeat (first | (with_reducible first | exact HB.out | apply below_alloc | apply pw_below_drewN | apply below_drew1 | refine below_set ?_ GE700.out | refine below_set ?_ GE706.out) | exact HB.out)))); have n2_ := Aside0.mk (blk_below (g := gb700) (o := .cells #[.int .i64 a0_0, .slice A0_1 l0_1.length c0_1] 24 (0, 0)) (by (with_reducible repeat (first | refine blk_drewN ?_ _ | refine blk_drew ?_ | refine blk_alloc ?_ _)); refine blk_far ?_ NB700_706.out _; (with_reducible repeat (first | refine blk_drewN ?_ _ | refine blk_drew ?_ | refine blk_alloc ?_ _)); refine blk_far ?_ NB700_706.out _; (with_reducible repeat (first | refine blk_drewN ?_ _ | refine blk_drew ?_ | refine blk_alloc ?_ _)); exact BK700.out) hb); have n3_ := Aside0.mk (blk_below (g := gb706) (o := .cells #[.int .i64 t702, .slice Ao17 t703.length co17] 24 (0, 0)) (by (with_reducible repeat (first | refine blk_drewN ?_ _ | refine blk_drew ?_ | refine blk_alloc ?_ _)); refine blk_put (cs := #[.int .i64 t702, .slice none 0 0]) ?_ 1 _ rfl; (with_reducible repeat (first | refine blk_drewN ?_ _ | refine blk_drew ?_ | refine blk_alloc ?_ _)); refine blk_put (cs := #[.int .i64 0, .slice none 0 0]) ?_ 0 _ rfl; (with_reducible repeat (first | refine blk_drewN ?_ _ | refine blk_drew ?_ | refine blk_alloc ?_ _)); exact BK706.out) hb); have n4_ := Aside0.mk (below_step (by repeat (first | (with_reducible first | exact HB.out | apply below_alloc | apply pw_below_drewN | apply below_drew1 | refine below_set ?_ GE700.out | refine below_set ?_ GE706.out) | exact HB.out)) hb); clear HO705; clear BK700; clear BK706; clear HB; have HO705 := n0_; have HO709 := n1_; have BK700 := n2_; have BK706 := n3_; have HB := n4_; clear n0_ n1_ n2_ n3_ n4_; (try clear hb); (try clear hb2); (try clear hk); (try clear hi); (try clear ho0)) | ((with_reducible refine gate_callee (f := 40) rfl ?_); refine goesL_ (some 21) rfl rfl Try.func40 (by kernel_rfl) rfl #[.int .i64 a2, .int .i64 40] rfl (by (try simp only [List.map_toArray, List.map_cons, List.map_nil]); first | done | rfl | (simp only [List.length_drop, List.length_take]; rfl)) ?_; (with_reducible refine (billetlaw06_pick.calls a2 40 t710 _ A7.out).mono ?_); rintro e w' ⟨rfl, ⟨nd, rfl⟩⟩; refine ⟨_, rfl, ?_⟩; have hcz19_0 : w18.cell? ⟨gb706, 0, none⟩ = some (.int .i64 t702) := (blk_cell BK706.out 0).trans rfl; have hcz19_1 : w18.cell? ⟨gb706, 1, none⟩ = some (.slice Ao17 t703.length co17) := (blk_cell BK706.out 1).trans rfl; have hfz19_0 := blk_frozen BK706.out 0; have hfz19_1 := blk_frozen BK706.out 1; obtain ⟨Ao20, co20, eo20⟩ := Kd.R_slice HO709.out; subst eo20) | ((with_reducible refine gate_callee (f := 35) rfl ?_); refine goesL_ (some 26) rfl rfl Try.func35 (by kernel_rfl) rfl #[.agg #[.int .i64 t702, .slice Ao17 t703.length co17], .slice Ao20 t707.length co20, .int .i64 0, .int .i64 1, .int .i64 t710] rfl (by (try simp only [List.map_toArray, List.map_cons, List.map_nil]); first | done | rfl | (simp only [List.length_drop, List.length_take]; rfl)) ?_; (with_reducible refine (flow_Push.calls k t702 _ _ t703 _ _ t707 0 1 t710 t711 t714 t715 _ ?side1 ?side2 ?side3 ?side4 A8.out).mono ?_); (case side1 => repeat (first | exact (Kd.R_reads' HO705.out).2.2 | (with_reducible refine Kd.C_alloc ?_ _) | (with_reducible refine Kd.C_drewN ?_ _) | (with_reducible refine Kd.C_drew ?_))); (case side2 => exact (Kd.R_reads' HO705.out).2.1); (case side3 => repeat (first | exact (Kd.R_reads' HO709.out).2.2 | (with_reducible refine Kd.C_alloc ?_ _) | (with_reducible refine Kd.C_drewN ?_ _) | (with_reducible refine Kd.C_drew ?_))); (case side4 => exact (Kd.R_reads' HO709.out).2.1); rintro e w21 ⟨v712, rfl, ho0, hb⟩; refine ⟨_, rfl, ?_⟩; have n0_ := Aside0.mk (Kd.R_below (by (with_reducible repeat (first | apply Kd.R_alloc | apply Kd.R_drewN | apply Kd.R_drew)); exact HO705.out) hb); have n1_ := Aside0.mk (Kd.R_below (by (with_reducible repeat (first | apply Kd.R_alloc | apply Kd.R_drewN | apply Kd.R_drew)); exact HO709.out) hb); have n2_ := Aside0.mk (Kd.V_lower (Kd.V_mono (ok' := fun k_ => some k_ ≠ (.slice Ao17 t703.length co17 : Value).ownBlock ∧ some k_ ≠ (.slice Ao20 t707.length co20 : Value).ownBlock ∧ k_ ≠ gb700 ∧ k_ ≠ gb706) ho0 (fun k_ hk_ => ⟨(Kd.fresh' (Kd.R_lt (by (with_reducible repeat (first | apply Kd.R_alloc | apply Kd.R_drewN | apply Kd.R_drew)); exact HO705.out)) k_ hk_), (Kd.fresh' (Kd.R_lt (by (with_reducible repeat (first | apply Kd.R_alloc | apply Kd.R_drewN | apply Kd.R_drew)); exact HO709.out)) k_ hk_), (Kd.freshB (g := gb700) (o := .cells #[.int .i64 a0_0, .slice A0_1 l0_1.length c0_1] 24 (0, 0)) (by (with_reducible repeat (first | refine blk_drewN ?_ _ | refine blk_drew ?_ | refine blk_alloc ?_ _)); exact BK700.out) k_ hk_), (Kd.freshB (g := gb706) (o := .cells #[.int .i64 t702, .slice Ao17 t703.length co17] 24 (0, 0)) (by (with_reducible repeat (first | refine blk_drewN ?_ _ | refine blk_drew ?_ | refine blk_alloc ?_ _)); exact BK706.out) k_ hk_)⟩)) (below_size (by repeat (first | (with_reducible first | exact HB.out | apply below_alloc | apply pw_below_drewN | apply below_drew1 | refine below_set ?_ GE700.out | refine below_set ?_ GE706.out) | exact HB.out)))); have n3_ := Aside0.mk (blk_below (g := gb700) (o := .cells #[.int .i64 a0_0, .slice A0_1 l0_1.length c0_1] 24 (0, 0)) (by (with_reducible repeat (first | refine blk_drewN ?_ _ | refine blk_drew ?_ | refine blk_alloc ?_ _)); exact BK700.out) hb); have n4_ := Aside0.mk (blk_below (g := gb706) (o := .cells #[.int .i64 t702, .slice Ao17 t703.length co17] 24 (0, 0)) (by (with_reducible repeat (first | refine blk_drewN ?_ _ | refine blk_drew ?_ | refine blk_alloc ?_ _)); exact BK706.out) hb); have n5_ := Aside0.mk (below_step (by repeat (first | (with_reducible first | exact HB.out | apply below_alloc | apply pw_below_drewN | apply below_drew1 | refine below_set ?_ GE700.out | refine below_set ?_ GE706.out) | exact HB.out)) hb); clear HO705; clear HO709; clear BK700; clear BK706; clear HB; have HO705 := n0_; have HO709 := n1_; have HO713 := n2_; have BK700 := n3_; have BK706 := n4_; have HB := n5_; clear n0_ n1_ n2_ n3_ n4_ n5_; (try clear hb); (try clear hb2); (try clear hk); (try clear hi); (try clear ho0)))
 (try simp only [Act.put, List.setIfInBounds_toArray, List.set_cons_zero, List.set_cons_succ])
 go_cut [61] (fun v61 wc => ∃ (kq : Nat) (x61_8 : Bool), v61 = .bool x61_8 ∧ Aside0 (billetlaw06_FlowAdds.j0 kq t710 t711 t714 x61_8 t702 t703 = some r) ∧ Aside0 (kq ≤ k) ∧ Aside0 (Kd.V (Kd.int .i64) 3 wc w.heap.size (fun k_ => some k_ ≠ ((.slice Ao17 t703.length co17) : Value).ownBlock ∧ k_ ≠ gb700 ∧ k_ ≠ gb706) v712 t711) ∧ Aside0 (Kd.R k41 41 wc w.heap.size (fun _ => True) (.slice Ao17 t703.length co17) t703) ∧ Aside0 (wc.heap[gb700]? = some (.cells #[.int .i64 a0_0, (.slice A0_1 l0_1.length c0_1)] 24 (0, 0))) ∧ Aside0 (wc.heap[gb706]? = some (.cells #[.int .i64 t702, (.slice Ao17 t703.length co17)] 24 (0, 0))) ∧ Aside0 (Below w.heap.size w wc))
 case first =>
  have H := HC9.out
  clear HC9
  by_cases c22 : t701 = true
  ·subst c22
   have H1 : (if t715 = 0 then ((billetref05_Good.f k t702 t703 t711 0 1).bind fun t716 => (if t716 = true then (if t714 < 0 then (billetlaw06_FlowAdds.j0 k t710 t711 t714 true t702 t703) else (if t714 > t710 then (billetlaw06_FlowAdds.j0 k t710 t711 t714 true t702 t703) else ((billetref05_Value.f k t702 t703 t711 0).bind fun t717 => ((billetref05_Value.f k t702 t703 t707 0).bind fun t718 => (billetlaw06_FlowAdds.j0 k t710 t711 t714 (t717 != (wrap64 (t718 + t714))) t702 t703))))) else (billetlaw06_FlowAdds.j0 k t710 t711 t714 true t702 t703))) else (billetlaw06_FlowAdds.j0 k t710 t711 t714 true t702 t703)) = some r := by rw [if_pos rfl] at H; exact H
   clear H
   have H := H1
   clear H1
   by_cases c23 : t715 = 0
   ·rw [if_pos c23] at H
    have c23b0 : (t715 == 0) = true := beq_iff_eq.mpr c23
    have c23b1 : (t715 != 0) = false := bne_eq_false_iff_eq.mpr c23
    clear c23
    (first | rw [c23b0] | (simp only [i64_w, i32_w]; rw [c23b0]) | skip)
    replace H := Option.bind_eq_some_iff.mp H
    obtain ⟨t716, A240, H⟩ := H
    replace H : (if t716 = true then (if t714 < 0 then (billetlaw06_FlowAdds.j0 k t710 t711 t714 true t702 t703) else (if t714 > t710 then (billetlaw06_FlowAdds.j0 k t710 t711 t714 true t702 t703) else ((billetref05_Value.f k t702 t703 t711 0).bind fun t717 => ((billetref05_Value.f k t702 t703 t707 0).bind fun t718 => (billetlaw06_FlowAdds.j0 k t710 t711 t714 (t717 != (wrap64 (t718 + t714))) t702 t703))))) else (billetlaw06_FlowAdds.j0 k t710 t711 t714 true t702 t703)) = some r := H
    have A24 := Aside0.mk A240
    clear A240
    by_cases c25 : t716 = true
    ·subst c25
     have H1 : (if t714 < 0 then (billetlaw06_FlowAdds.j0 k t710 t711 t714 true t702 t703) else (if t714 > t710 then (billetlaw06_FlowAdds.j0 k t710 t711 t714 true t702 t703) else ((billetref05_Value.f k t702 t703 t711 0).bind fun t717 => ((billetref05_Value.f k t702 t703 t707 0).bind fun t718 => (billetlaw06_FlowAdds.j0 k t710 t711 t714 (t717 != (wrap64 (t718 + t714))) t702 t703))))) = some r := by rw [if_pos rfl] at H; exact H
     clear H
     have H := H1
     clear H1
     by_cases c26 : t714 < 0
     ·rw [if_pos c26] at H
      first | exact (billetlaw06_FlowAdds.j0_no (H.trans (congrArg some HT_.out))).elim
     ·rw [if_neg c26] at H
      have c26b0 : decide (t714 < 0) = false := decide_eq_false c26
      clear c26
      by_cases c30 : t714 > t710
      ·rw [if_pos c30] at H
       first | exact (billetlaw06_FlowAdds.j0_no (H.trans (congrArg some HT_.out))).elim
      ·rw [if_neg c30] at H
       have c30b0 : decide (t710 < t714) = false := decide_eq_false c30
       clear c30
       replace H := Option.bind_eq_some_iff.mp H
       obtain ⟨t717, A340, H⟩ := H
       replace H : ((billetref05_Value.f k t702 t703 t707 0).bind fun t718 => (billetlaw06_FlowAdds.j0 k t710 t711 t714 (t717 != (wrap64 (t718 + t714))) t702 t703)) = some r := H
       have A34 := Aside0.mk A340
       clear A340
       replace H := Option.bind_eq_some_iff.mp H
       obtain ⟨t718, A350, H⟩ := H
       replace H : (billetlaw06_FlowAdds.j0 k t710 t711 t714 (t717 != (wrap64 (t718 + t714))) t702 t703) = some r := H
       have A35 := Aside0.mk A350
       clear A350
       have H' := Aside0.mk H
       clear H
       try go_wp2
       have n0_ := Aside0.mk (Kd.R_drew HO705.out)
       have n1_ := Aside0.mk (Kd.R_drew HO709.out)
       have n2_ := Aside0.mk (Kd.V_drew HO713.out)
       have n3_ := Aside0.mk (blk_drew BK700.out)
       have n4_ := Aside0.mk (blk_drew BK706.out)
       have n5_ := Aside0.mk (below_drew1 HB.out)
       clear HO705
       clear HO709
       clear HO713
       clear BK700
       clear BK706
       clear HB
       have HO705 := n0_
       have HO709 := n1_
       have HO713 := n2_
       have BK700 := n3_
       have BK706 := n4_
       have HB := n5_
       clear n0_ n1_ n2_ n3_ n4_ n5_
       obtain ⟨Ao37, co37, eo37⟩ := Kd.V_slice HO713.out
       (first | subst eo37 | (injection eo37 with f1_ f2_ f3_; have f4_ := f1_.symm; have f5_ := f3_.symm; clear f1_ f2_ f3_; subst f4_; subst f5_))
       refine start_ (n := 32) (S := fun w' => w'.cell? ⟨gb706, 0, none⟩ = some (.int .i64 t702) ∧ w'.cell? ⟨gb706, 1, none⟩ = some (.slice Ao17 t703.length co17)) (ds := []) #[fF,fF,fF,fF,fF,fF,fF,fF,fF,fF,fF,fF,fF,fF,fF,fF,fF,fF,fF,fF,fF,fF,fF,fF,fF,fF,fF,fF,fF,fF,fF,fF] (by kernel_rfl) rfl rfl ⟨(blk_cell BK706.out 0).trans rfl, (blk_cell BK706.out 1).trans rfl⟩ (fun hHeld => ?_); refine with_tabW billetlaw06_FlowAdds.tab6 billetlaw06_FlowAdds.bits6 (fun HT_ HW_ => ?_)
       generalize w21.drew = w36 at HO705 HO709 HO713 BK700 BK706 HB hHeld ⊢
       refine pure_ (i := 0) (N := some 30) (v := ?_) (a' := ?_) #[tT,fF,fF,fF,fF,fF,fF,fF,fF,fF,fF,fF,fF,fF,fF,fF,fF,fF,fF,fF,fF,fF,fF,fF,fF,fF,fF,fF,fF,fF,fF,fF] rfl rfl (any_of HT_.out (by kernel_rfl)) (fun _ _ _ h => h) (Or.inl ⟨by rfl, ?_⟩) ?_ ?_
       rotate_left
       ·intro w'
        go_simp
        with_reducible rfl
       rotate_left
       ·simp only [Act.put, List.setIfInBounds_toArray, List.set_cons_zero, List.set_cons_succ, i64_w, i32_w]
        rfl
       refine pure_ (i := 1) (N := some 31) (v := ?_) (a' := ?_) #[tT,tT,fF,fF,fF,fF,fF,fF,fF,fF,fF,fF,fF,fF,fF,fF,fF,fF,fF,fF,fF,fF,fF,fF,fF,fF,fF,fF,fF,fF,fF,fF] rfl rfl (any_of HT_.out (by kernel_rfl)) (fun _ _ _ h => h) (Or.inl ⟨by rfl, ?_⟩) ?_ ?_
       rotate_left
       ·intro w'
        go_simp
        with_reducible rfl
       rotate_left
       ·simp only [Act.put, List.setIfInBounds_toArray, List.set_cons_zero, List.set_cons_succ, i64_w, i32_w]
        rfl
       refine pure_ (i := 2) (N := some 32) (v := ?_) (a' := ?_) #[tT,tT,tT,fF,fF,fF,fF,fF,fF,fF,fF,fF,fF,fF,fF,fF,fF,fF,fF,fF,fF,fF,fF,fF,fF,fF,fF,fF,fF,fF,fF,fF] rfl rfl (any_of HT_.out (by kernel_rfl)) (fun _ _ _ h => h) (Or.inl ⟨by rfl, ?_⟩) ?_ ?_
       rotate_left
       ·intro w'
        go_simp
        with_reducible rfl
       rotate_left
       ·simp only [Act.put, List.setIfInBounds_toArray, List.set_cons_zero, List.set_cons_succ, i64_w, i32_w]
        rfl
       refine pure_ (i := 3) (N := some 33) (v := ?_) (a' := ?_) #[tT,tT,tT,tT,fF,fF,fF,fF,fF,fF,fF,fF,fF,fF,fF,fF,fF,fF,fF,fF,fF,fF,fF,fF,fF,fF,fF,fF,fF,fF,fF,fF] rfl rfl (any_of HT_.out (by kernel_rfl)) (fun _ _ _ h => h) (Or.inl ⟨by rfl, ?_⟩) ?_ ?_
       rotate_left
       ·intro w'
        go_simp
        with_reducible rfl
       rotate_left
       ·simp only [Act.put, List.setIfInBounds_toArray, List.set_cons_zero, List.set_cons_succ, i64_w, i32_w]
        rfl
       refine pure_ (i := 4) (N := some 34) (v := ?_) (a' := ?_) #[tT,tT,tT,tT,tT,fF,fF,fF,fF,fF,fF,fF,fF,fF,fF,fF,fF,fF,fF,fF,fF,fF,fF,fF,fF,fF,fF,fF,fF,fF,fF,fF] rfl rfl (any_of HT_.out (by kernel_rfl)) (fun _ _ _ h => h) (Or.inl ⟨by rfl, ?_⟩) ?_ ?_
       rotate_left
       ·intro w'
        go_simp
        with_reducible rfl
       rotate_left
       ·simp only [Act.put, List.setIfInBounds_toArray, List.set_cons_zero, List.set_cons_succ, i64_w, i32_w]
        rfl
       refine pure_ (i := 5) (N := some 35) (v := ?_) (a' := ?_) #[tT,tT,tT,tT,tT,tT,fF,fF,fF,fF,fF,fF,fF,fF,fF,fF,fF,fF,fF,fF,fF,fF,fF,fF,fF,fF,fF,fF,fF,fF,fF,fF] rfl rfl (any_of HT_.out (by kernel_rfl)) (fun _ _ _ h => h) (Or.inl ⟨by rfl, ?_⟩) ?_ ?_
       rotate_left
       ·intro w'
        go_simp
        with_reducible rfl
       rotate_left
       ·simp only [Act.put, List.setIfInBounds_toArray, List.set_cons_zero, List.set_cons_succ, i64_w, i32_w]
        rfl
       refine pure_ (i := 6) (N := some 36) (v := ?_) (a' := ?_) #[tT,tT,tT,tT,tT,tT,tT,fF,fF,fF,fF,fF,fF,fF,fF,fF,fF,fF,fF,fF,fF,fF,fF,fF,fF,fF,fF,fF,fF,fF,fF,fF] rfl rfl (any_of HT_.out (by kernel_rfl)) (fun _ _ _ h => h) (Or.inl ⟨by rfl, ?_⟩) ?_ ?_
       rotate_left
       ·intro w'
        go_simp
        with_reducible rfl
       rotate_left
       ·simp only [Act.put, List.setIfInBounds_toArray, List.set_cons_zero, List.set_cons_succ, i64_w, i32_w]
        rfl
       refine pure_ (i := 8) (N := some 38) (v := ?_) (a' := ?_) #[tT,tT,tT,tT,tT,tT,tT,fF,tT,fF,fF,fF,fF,fF,fF,fF,fF,fF,fF,fF,fF,fF,fF,fF,fF,fF,fF,fF,fF,fF,fF,fF] rfl rfl (any_of HT_.out (by kernel_rfl)) (fun _ _ _ h => h) (Or.inl ⟨by rfl, ?_⟩) ?_ ?_
       rotate_left
       ·intro w'
        go_simp
        with_reducible rfl
       rotate_left
       ·simp only [Act.put, List.setIfInBounds_toArray, List.set_cons_zero, List.set_cons_succ, i64_w, i32_w]
        rfl
       refine take_ (i := 7) (N := some 37) (v := ?_) (a' := ?_) #[tT,tT,tT,tT,tT,tT,tT,tT,tT,fF,fF,fF,fF,fF,fF,fF,fF,fF,fF,fF,fF,fF,fF,fF,fF,fF,fF,fF,fF,fF,fF,fF] rfl rfl (take_ofW HT_.out HW_.out (by kernel_rfl)) (fun _ _ _ h => h) (Or.inl ⟨by rfl, ?_⟩) hHeld ?_ ?_
       rotate_left
       ·rintro w' ⟨s0, s1⟩
        go_simp
        with_reducible rfl
       rotate_left
       ·simp only [Act.put, List.setIfInBounds_toArray, List.set_cons_zero, List.set_cons_succ, i64_w, i32_w]
        rfl
       refine one_ (i := 9) (N := some 39) #[tT,tT,tT,tT,tT,tT,tT,tT,tT,tT,fF,fF,fF,fF,fF,fF,fF,fF,fF,fF,fF,fF,fF,fF,fF,fF,fF,fF,fF,fF,fF,fF] rfl rfl (one_of HT_.out (by kernel_rfl)) (by decide) (fun K hK => ?_)
       refine goes_ Try.func24 (by kernel_rfl) rfl #[.agg #[.int .i64 t702, .slice Ao17 t703.length co17], .slice Ao37 t711.length co37, .int .i64 0, .int .i64 1] (by rfl) rfl rfl (by (try simp only [List.map_toArray, List.map_cons, List.map_nil]); first | done | rfl | (simp only [List.length_drop, List.length_take]; rfl)) ?_
       with_reducible refine (billetref05_Good.calls k t702 _ _ t703 _ _ t711 0 1 true _ ?side1 ?side2 ?side3 ?side4 A24.out).mono ?_
       (case side1 => repeat (first | exact (Kd.R_reads' HO705.out).2.2 | (with_reducible refine Kd.C_alloc ?_ _) | (with_reducible refine Kd.C_drewN ?_ _) | (with_reducible refine Kd.C_drew ?_)))
       (case side2 => exact (Kd.R_reads' HO705.out).2.1)
       (case side3 => repeat (first | exact (Kd.V_reads' HO713.out).2.2 | (with_reducible refine Kd.C_alloc ?_ _) | (with_reducible refine Kd.C_drewN ?_ _) | (with_reducible refine Kd.C_drew ?_)))
       (case side4 => exact (Kd.V_reads' HO713.out).2.1)
       rintro e w38 ⟨rfl, hb⟩
       refine ⟨_, rfl, ?_⟩
       have n0_ := Aside0.mk (Kd.R_below (by (with_reducible repeat (first | apply Kd.R_alloc | apply Kd.R_drewN | apply Kd.R_drew)); exact HO705.out) hb)
       have n1_ := Aside0.mk (Kd.R_below (by (with_reducible repeat (first | apply Kd.R_alloc | apply Kd.R_drewN | apply Kd.R_drew)); exact HO709.out) hb)
       have n2_ := Aside0.mk (Kd.V_below (by (with_reducible repeat (first | apply Kd.V_alloc | apply Kd.V_drewN | apply Kd.V_drew)); exact HO713.out) hb)
       have n3_ := Aside0.mk (blk_below (g := gb700) (o := .cells #[.int .i64 a0_0, .slice A0_1 l0_1.length c0_1] 24 (0, 0)) (by (with_reducible repeat (first | refine blk_drewN ?_ _ | refine blk_drew ?_ | refine blk_alloc ?_ _)); exact BK700.out) hb)
       have n4_ := Aside0.mk (blk_below (g := gb706) (o := .cells #[.int .i64 t702, .slice Ao17 t703.length co17] 24 (0, 0)) (by (with_reducible repeat (first | refine blk_drewN ?_ _ | refine blk_drew ?_ | refine blk_alloc ?_ _)); exact BK706.out) hb)
       have n5_ := Aside0.mk (below_step (by repeat (first | (with_reducible first | exact HB.out | apply below_alloc | apply pw_below_drewN | apply below_drew1 | refine below_set ?_ GE700.out | refine below_set ?_ GE706.out) | exact HB.out)) hb)
       clear HO705
       clear HO709
       clear HO713
       clear BK700
       clear BK706
       clear HB
       have HO705 := n0_
       have HO709 := n1_
       have HO713 := n2_
       have BK700 := n3_
       have BK706 := n4_
       have HB := n5_
       clear n0_ n1_ n2_ n3_ n4_ n5_
       (try clear hb)
       (try clear hb2)
       (try clear hk)
       (try clear hi)
       refine hK.out _ _ ⟨(blk_cell BK706.out 0).trans rfl, (blk_cell BK706.out 1).trans rfl⟩ (fun hHeld => ?_)
       clear hK K
       refine norm_ (a' := ?_) ?_ ?_
       rotate_left
       ·show Act.put _ (some 39) _ = _
        simp only [Act.put, List.setIfInBounds_toArray, List.set_cons_zero, List.set_cons_succ, i64_w, i32_w]
        rfl
       refine pure_ (i := 10) (N := some 40) (v := ?_) (a' := ?_) #[tT,tT,tT,tT,tT,tT,tT,tT,tT,tT,tT,fF,fF,fF,fF,fF,fF,fF,fF,fF,fF,fF,fF,fF,fF,fF,fF,fF,fF,fF,fF,fF] rfl rfl (any_of HT_.out (by kernel_rfl)) (fun _ _ _ h => h) (Or.inl ⟨by rfl, ?_⟩) ?_ ?_
       rotate_left
       ·intro w'
        go_simp
        with_reducible rfl
       rotate_left
       ·simp only [Act.put, List.setIfInBounds_toArray, List.set_cons_zero, List.set_cons_succ, i64_w, i32_w]
        rfl
       refine pure_ (i := 11) (N := some 41) (v := ?_) (a' := ?_) #[tT,tT,tT,tT,tT,tT,tT,tT,tT,tT,tT,tT,fF,fF,fF,fF,fF,fF,fF,fF,fF,fF,fF,fF,fF,fF,fF,fF,fF,fF,fF,fF] rfl rfl (any_of HT_.out (by kernel_rfl)) (fun _ _ _ h => h) (Or.inl ⟨by rfl, ?_⟩) ?_ ?_
       rotate_left
       ·intro w'
        go_simp
        with_reducible rfl
       rotate_left
       ·simp only [Act.put, List.setIfInBounds_toArray, List.set_cons_zero, List.set_cons_succ, i64_w, i32_w]
        rfl
       refine pure_ (i := 12) (N := some 42) (v := ?_) (a' := ?_) #[tT,tT,tT,tT,tT,tT,tT,tT,tT,tT,tT,tT,tT,fF,fF,fF,fF,fF,fF,fF,fF,fF,fF,fF,fF,fF,fF,fF,fF,fF,fF,fF] rfl rfl (any_of HT_.out (by kernel_rfl)) (fun _ _ _ h => h) (Or.inl ⟨by rfl, ?_⟩) ?_ ?_
       rotate_left
       ·intro w'
        go_simp
        with_reducible rfl
       rotate_left
       ·simp only [Act.put, List.setIfInBounds_toArray, List.set_cons_zero, List.set_cons_succ, i64_w, i32_w]
        rfl
       refine pure_ (i := 13) (N := some 43) (v := ?_) (a' := ?_) #[tT,tT,tT,tT,tT,tT,tT,tT,tT,tT,tT,tT,tT,tT,fF,fF,fF,fF,fF,fF,fF,fF,fF,fF,fF,fF,fF,fF,fF,fF,fF,fF] rfl rfl (any_of HT_.out (by kernel_rfl)) (fun _ _ _ h => h) (Or.inl ⟨by rfl, ?_⟩) ?_ ?_
       rotate_left
       ·intro w'
        go_simp
        with_reducible rfl
       rotate_left
       ·simp only [Act.put, List.setIfInBounds_toArray, List.set_cons_zero, List.set_cons_succ, i64_w, i32_w]
        rfl
       refine pure_ (i := 14) (N := some 44) (v := ?_) (a' := ?_) #[tT,tT,tT,tT,tT,tT,tT,tT,tT,tT,tT,tT,tT,tT,tT,fF,fF,fF,fF,fF,fF,fF,fF,fF,fF,fF,fF,fF,fF,fF,fF,fF] rfl rfl (any_of HT_.out (by kernel_rfl)) (fun _ _ _ h => h) (Or.inl ⟨by rfl, ?_⟩) ?_ ?_
       rotate_left
       ·intro w'
        go_simp
        with_reducible rfl
       rotate_left
       ·simp only [Act.put, List.setIfInBounds_toArray, List.set_cons_zero, List.set_cons_succ, i64_w, i32_w]
        rfl
       refine pure_ (i := 15) (N := some 45) (v := ?_) (a' := ?_) #[tT,tT,tT,tT,tT,tT,tT,tT,tT,tT,tT,tT,tT,tT,tT,tT,fF,fF,fF,fF,fF,fF,fF,fF,fF,fF,fF,fF,fF,fF,fF,fF] rfl rfl (any_of HT_.out (by kernel_rfl)) (fun _ _ _ h => h) (Or.inl ⟨by rfl, ?_⟩) ?_ ?_
       rotate_left
       ·intro w'
        go_simp
        with_reducible rfl
       rotate_left
       ·simp only [Act.put, List.setIfInBounds_toArray, List.set_cons_zero, List.set_cons_succ, i64_w, i32_w]
        rfl
       refine pure_ (i := 16) (N := some 46) (v := ?_) (a' := ?_) #[tT,tT,tT,tT,tT,tT,tT,tT,tT,tT,tT,tT,tT,tT,tT,tT,tT,fF,fF,fF,fF,fF,fF,fF,fF,fF,fF,fF,fF,fF,fF,fF] rfl rfl (any_of HT_.out (by kernel_rfl)) (fun _ _ _ h => h) (Or.inl ⟨by rfl, ?_⟩) ?_ ?_
       rotate_left
       ·intro w'
        go_simp
        with_reducible rfl
       rotate_left
       ·simp only [Act.put, List.setIfInBounds_toArray, List.set_cons_zero, List.set_cons_succ, i64_w, i32_w]
        rfl
       refine pure_ (i := 17) (N := some 47) (v := ?_) (a' := ?_) #[tT,tT,tT,tT,tT,tT,tT,tT,tT,tT,tT,tT,tT,tT,tT,tT,tT,tT,fF,fF,fF,fF,fF,fF,fF,fF,fF,fF,fF,fF,fF,fF] rfl rfl (any_of HT_.out (by kernel_rfl)) (fun _ _ _ h => h) (Or.inl ⟨by rfl, ?_⟩) ?_ ?_
       rotate_left
       ·intro w'
        go_simp
        with_reducible rfl
       rotate_left
       ·simp only [Act.put, List.setIfInBounds_toArray, List.set_cons_zero, List.set_cons_succ, i64_w, i32_w]
        rfl
       refine pure_ (i := 18) (N := some 48) (v := ?_) (a' := ?_) #[tT,tT,tT,tT,tT,tT,tT,tT,tT,tT,tT,tT,tT,tT,tT,tT,tT,tT,tT,fF,fF,fF,fF,fF,fF,fF,fF,fF,fF,fF,fF,fF] rfl rfl (any_of HT_.out (by kernel_rfl)) (fun _ _ _ h => h) (Or.inl ⟨by rfl, ?_⟩) ?_ ?_
       rotate_left
       ·intro w'
        go_simp
        with_reducible rfl
       rotate_left
       ·simp only [Act.put, List.setIfInBounds_toArray, List.set_cons_zero, List.set_cons_succ, i64_w, i32_w]
        rfl
       refine pure_ (i := 19) (N := some 49) (v := ?_) (a' := ?_) #[tT,tT,tT,tT,tT,tT,tT,tT,tT,tT,tT,tT,tT,tT,tT,tT,tT,tT,tT,tT,fF,fF,fF,fF,fF,fF,fF,fF,fF,fF,fF,fF] rfl rfl (any_of HT_.out (by kernel_rfl)) (fun _ _ _ h => h) (Or.inl ⟨by rfl, ?_⟩) ?_ ?_
       rotate_left
       ·intro w'
        go_simp
        with_reducible rfl
       rotate_left
       ·simp only [Act.put, List.setIfInBounds_toArray, List.set_cons_zero, List.set_cons_succ, i64_w, i32_w]
        rfl
       refine pure_ (i := 20) (N := some 50) (v := ?_) (a' := ?_) #[tT,tT,tT,tT,tT,tT,tT,tT,tT,tT,tT,tT,tT,tT,tT,tT,tT,tT,tT,tT,tT,fF,fF,fF,fF,fF,fF,fF,fF,fF,fF,fF] rfl rfl (any_of HT_.out (by kernel_rfl)) (fun _ _ _ h => h) (Or.inl ⟨by rfl, ?_⟩) ?_ ?_
       rotate_left
       ·intro w'
        go_simp
        with_reducible rfl
       rotate_left
       ·simp only [Act.put, List.setIfInBounds_toArray, List.set_cons_zero, List.set_cons_succ, i64_w, i32_w]
        rfl
       refine pure_ (i := 21) (N := some 51) (v := ?_) (a' := ?_) #[tT,tT,tT,tT,tT,tT,tT,tT,tT,tT,tT,tT,tT,tT,tT,tT,tT,tT,tT,tT,tT,tT,fF,fF,fF,fF,fF,fF,fF,fF,fF,fF] rfl rfl (any_of HT_.out (by kernel_rfl)) (fun _ _ _ h => h) (Or.inl ⟨by rfl, ?_⟩) ?_ ?_
       rotate_left
       ·intro w'
        go_simp
        with_reducible rfl
       rotate_left
       ·simp only [Act.put, List.setIfInBounds_toArray, List.set_cons_zero, List.set_cons_succ, i64_w, i32_w]
        rfl
       refine pure_ (i := 23) (N := some 53) (v := ?_) (a' := ?_) #[tT,tT,tT,tT,tT,tT,tT,tT,tT,tT,tT,tT,tT,tT,tT,tT,tT,tT,tT,tT,tT,tT,fF,tT,fF,fF,fF,fF,fF,fF,fF,fF] rfl rfl (any_of HT_.out (by kernel_rfl)) (fun _ _ _ h => h) (Or.inl ⟨by rfl, ?_⟩) ?_ ?_
       rotate_left
       ·intro w'
        go_simp
        with_reducible rfl
       rotate_left
       ·simp only [Act.put, List.setIfInBounds_toArray, List.set_cons_zero, List.set_cons_succ, i64_w, i32_w]
        rfl
       refine pure_ (i := 26) (N := some 56) (v := ?_) (a' := ?_) #[tT,tT,tT,tT,tT,tT,tT,tT,tT,tT,tT,tT,tT,tT,tT,tT,tT,tT,tT,tT,tT,tT,fF,tT,fF,fF,tT,fF,fF,fF,fF,fF] rfl rfl (any_of HT_.out (by kernel_rfl)) (fun _ _ _ h => h) (Or.inl ⟨by rfl, ?_⟩) ?_ ?_
       rotate_left
       ·intro w'
        go_simp
        with_reducible rfl
       rotate_left
       ·simp only [Act.put, List.setIfInBounds_toArray, List.set_cons_zero, List.set_cons_succ, i64_w, i32_w]
        rfl
       refine pure_ (i := 28) (N := some 58) (v := ?_) (a' := ?_) #[tT,tT,tT,tT,tT,tT,tT,tT,tT,tT,tT,tT,tT,tT,tT,tT,tT,tT,tT,tT,tT,tT,fF,tT,fF,fF,tT,fF,tT,fF,fF,fF] rfl rfl (any_of HT_.out (by kernel_rfl)) (fun _ _ _ h => h) (Or.inl ⟨by rfl, ?_⟩) ?_ ?_
       rotate_left
       ·intro w'
        go_simp
        with_reducible rfl
       rotate_left
       ·simp only [Act.put, List.setIfInBounds_toArray, List.set_cons_zero, List.set_cons_succ, i64_w, i32_w]
        rfl
       refine take_ (i := 22) (N := some 52) (v := ?_) (a' := ?_) #[tT,tT,tT,tT,tT,tT,tT,tT,tT,tT,tT,tT,tT,tT,tT,tT,tT,tT,tT,tT,tT,tT,tT,tT,fF,fF,tT,fF,tT,fF,fF,fF] rfl rfl (take_ofW HT_.out HW_.out (by kernel_rfl)) (fun _ _ _ h => h) (Or.inl ⟨by rfl, ?_⟩) hHeld ?_ ?_
       rotate_left
       ·rintro w' ⟨s0, s1⟩
        go_simp
        with_reducible rfl
       rotate_left
       ·simp only [Act.put, List.setIfInBounds_toArray, List.set_cons_zero, List.set_cons_succ, i64_w, i32_w]
        rfl
       refine take_ (i := 25) (N := some 55) (v := ?_) (a' := ?_) #[tT,tT,tT,tT,tT,tT,tT,tT,tT,tT,tT,tT,tT,tT,tT,tT,tT,tT,tT,tT,tT,tT,tT,tT,fF,tT,tT,fF,tT,fF,fF,fF] rfl rfl (take_ofW HT_.out HW_.out (by kernel_rfl)) (fun _ _ _ h => h) (Or.inl ⟨by rfl, ?_⟩) hHeld ?_ ?_
       rotate_left
       ·rintro w' ⟨s0, s1⟩
        go_simp
        with_reducible rfl
       rotate_left
       ·simp only [Act.put, List.setIfInBounds_toArray, List.set_cons_zero, List.set_cons_succ, i64_w, i32_w]
        rfl
       refine one_ (i := 24) (N := some 54) #[tT,tT,tT,tT,tT,tT,tT,tT,tT,tT,tT,tT,tT,tT,tT,tT,tT,tT,tT,tT,tT,tT,tT,tT,tT,tT,tT,fF,tT,fF,fF,fF] rfl rfl (one_of HT_.out (by kernel_rfl)) (by decide) (fun K hK => ?_)
       refine goes_ Try.func26 (by kernel_rfl) rfl #[.agg #[.int .i64 t702, .slice Ao17 t703.length co17], .slice Ao37 t711.length co37, .int .i64 0] (by rfl) rfl rfl (by (try simp only [List.map_toArray, List.map_cons, List.map_nil]); first | done | rfl | (simp only [List.length_drop, List.length_take]; rfl)) ?_
       with_reducible refine (billetref05_Value.calls k t702 _ _ t703 _ _ t711 0 t717 _ ?side1 ?side2 ?side3 ?side4 A34.out).mono ?_
       (case side1 => repeat (first | exact (Kd.R_reads' HO705.out).2.2 | (with_reducible refine Kd.C_alloc ?_ _) | (with_reducible refine Kd.C_drewN ?_ _) | (with_reducible refine Kd.C_drew ?_)))
       (case side2 => exact (Kd.R_reads' HO705.out).2.1)
       (case side3 => repeat (first | exact (Kd.V_reads' HO713.out).2.2 | (with_reducible refine Kd.C_alloc ?_ _) | (with_reducible refine Kd.C_drewN ?_ _) | (with_reducible refine Kd.C_drew ?_)))
       (case side4 => exact (Kd.V_reads' HO713.out).2.1)
       rintro e w39 ⟨rfl, hb⟩
       refine ⟨_, rfl, ?_⟩
       have n0_ := Aside0.mk (Kd.R_below (by (with_reducible repeat (first | apply Kd.R_alloc | apply Kd.R_drewN | apply Kd.R_drew)); exact HO705.out) hb)
       have n1_ := Aside0.mk (Kd.R_below (by (with_reducible repeat (first | apply Kd.R_alloc | apply Kd.R_drewN | apply Kd.R_drew)); exact HO709.out) hb)
       have n2_ := Aside0.mk (Kd.V_below (by (with_reducible repeat (first | apply Kd.V_alloc | apply Kd.V_drewN | apply Kd.V_drew)); exact HO713.out) hb)
       have n3_ := Aside0.mk (blk_below (g := gb700) (o := .cells #[.int .i64 a0_0, .slice A0_1 l0_1.length c0_1] 24 (0, 0)) (by (with_reducible repeat (first | refine blk_drewN ?_ _ | refine blk_drew ?_ | refine blk_alloc ?_ _)); exact BK700.out) hb)
       have n4_ := Aside0.mk (blk_below (g := gb706) (o := .cells #[.int .i64 t702, .slice Ao17 t703.length co17] 24 (0, 0)) (by (with_reducible repeat (first | refine blk_drewN ?_ _ | refine blk_drew ?_ | refine blk_alloc ?_ _)); exact BK706.out) hb)
       have n5_ := Aside0.mk (below_step (by repeat (first | (with_reducible first | exact HB.out | apply below_alloc | apply pw_below_drewN | apply below_drew1 | refine below_set ?_ GE700.out | refine below_set ?_ GE706.out) | exact HB.out)) hb)
       clear HO705
       clear HO709
       clear HO713
       clear BK700
       clear BK706
       clear HB
       have HO705 := n0_
       have HO709 := n1_
       have HO713 := n2_
       have BK700 := n3_
       have BK706 := n4_
       have HB := n5_
       clear n0_ n1_ n2_ n3_ n4_ n5_
       (try clear hb)
       (try clear hb2)
       (try clear hk)
       (try clear hi)
       refine hK.out _ _ ⟨(blk_cell BK706.out 0).trans rfl, (blk_cell BK706.out 1).trans rfl⟩ (fun hHeld => ?_)
       clear hK K
       refine norm_ (a' := ?_) ?_ ?_
       rotate_left
       ·show Act.put _ (some 54) _ = _
        simp only [Act.put, List.setIfInBounds_toArray, List.set_cons_zero, List.set_cons_succ, i64_w, i32_w]
        rfl
       refine one_ (i := 27) (N := some 57) #[tT,tT,tT,tT,tT,tT,tT,tT,tT,tT,tT,tT,tT,tT,tT,tT,tT,tT,tT,tT,tT,tT,tT,tT,tT,tT,tT,tT,tT,fF,fF,fF] rfl rfl (one_of HT_.out (by kernel_rfl)) (by decide) (fun K hK => ?_)
       refine goes_ Try.func26 (by kernel_rfl) rfl #[.agg #[.int .i64 t702, .slice Ao17 t703.length co17], .slice Ao20 t707.length co20, .int .i64 0] (by rfl) rfl rfl (by (try simp only [List.map_toArray, List.map_cons, List.map_nil]); first | done | rfl | (simp only [List.length_drop, List.length_take]; rfl)) ?_
       with_reducible refine (billetref05_Value.calls k t702 _ _ t703 _ _ t707 0 t718 _ ?side1 ?side2 ?side3 ?side4 A35.out).mono ?_
       (case side1 => repeat (first | exact (Kd.R_reads' HO705.out).2.2 | (with_reducible refine Kd.C_alloc ?_ _) | (with_reducible refine Kd.C_drewN ?_ _) | (with_reducible refine Kd.C_drew ?_)))
       (case side2 => exact (Kd.R_reads' HO705.out).2.1)
       (case side3 => repeat (first | exact (Kd.R_reads' HO709.out).2.2 | (with_reducible refine Kd.C_alloc ?_ _) | (with_reducible refine Kd.C_drewN ?_ _) | (with_reducible refine Kd.C_drew ?_)))
       (case side4 => exact (Kd.R_reads' HO709.out).2.1)
       rintro e w40 ⟨rfl, hb⟩
       refine ⟨_, rfl, ?_⟩
       have n0_ := Aside0.mk (Kd.R_below (by (with_reducible repeat (first | apply Kd.R_alloc | apply Kd.R_drewN | apply Kd.R_drew)); exact HO705.out) hb)
       have n1_ := Aside0.mk (Kd.R_below (by (with_reducible repeat (first | apply Kd.R_alloc | apply Kd.R_drewN | apply Kd.R_drew)); exact HO709.out) hb)
       have n2_ := Aside0.mk (Kd.V_below (by (with_reducible repeat (first | apply Kd.V_alloc | apply Kd.V_drewN | apply Kd.V_drew)); exact HO713.out) hb)
       have n3_ := Aside0.mk (blk_below (g := gb700) (o := .cells #[.int .i64 a0_0, .slice A0_1 l0_1.length c0_1] 24 (0, 0)) (by (with_reducible repeat (first | refine blk_drewN ?_ _ | refine blk_drew ?_ | refine blk_alloc ?_ _)); exact BK700.out) hb)
       have n4_ := Aside0.mk (blk_below (g := gb706) (o := .cells #[.int .i64 t702, .slice Ao17 t703.length co17] 24 (0, 0)) (by (with_reducible repeat (first | refine blk_drewN ?_ _ | refine blk_drew ?_ | refine blk_alloc ?_ _)); exact BK706.out) hb)
       have n5_ := Aside0.mk (below_step (by repeat (first | (with_reducible first | exact HB.out | apply below_alloc | apply pw_below_drewN | apply below_drew1 | refine below_set ?_ GE700.out | refine below_set ?_ GE706.out) | exact HB.out)) hb)
       clear HO705
       clear HO709
       clear HO713
       clear BK700
       clear BK706
       clear HB
       have HO705 := n0_
       have HO709 := n1_
       have HO713 := n2_
       have BK700 := n3_
       have BK706 := n4_
       have HB := n5_
       clear n0_ n1_ n2_ n3_ n4_ n5_
       (try clear hb)
       (try clear hb2)
       (try clear hk)
       (try clear hi)
       refine hK.out _ _ ⟨(blk_cell BK706.out 0).trans rfl, (blk_cell BK706.out 1).trans rfl⟩ (fun hHeld => ?_)
       clear hK K
       refine norm_ (a' := ?_) ?_ ?_
       rotate_left
       ·show Act.put _ (some 57) _ = _
        simp only [Act.put, List.setIfInBounds_toArray, List.set_cons_zero, List.set_cons_succ, i64_w, i32_w]
        rfl
       refine pure_ (i := 29) (N := some 59) (v := ?_) (a' := ?_) #[tT,tT,tT,tT,tT,tT,tT,tT,tT,tT,tT,tT,tT,tT,tT,tT,tT,tT,tT,tT,tT,tT,tT,tT,tT,tT,tT,tT,tT,tT,fF,fF] rfl rfl (any_of HT_.out (by kernel_rfl)) (fun _ _ _ h => h) (Or.inl ⟨by rfl, ?_⟩) ?_ ?_
       rotate_left
       ·intro w'
        go_simp
        with_reducible rfl
       rotate_left
       ·simp only [Act.put, List.setIfInBounds_toArray, List.set_cons_zero, List.set_cons_succ, i64_w, i32_w]
        rfl
       refine pure_ (i := 30) (N := some 60) (v := ?_) (a' := ?_) #[tT,tT,tT,tT,tT,tT,tT,tT,tT,tT,tT,tT,tT,tT,tT,tT,tT,tT,tT,tT,tT,tT,tT,tT,tT,tT,tT,tT,tT,tT,tT,fF] rfl rfl (any_of HT_.out (by kernel_rfl)) (fun _ _ _ h => h) (Or.inl ⟨by rfl, ?_⟩) ?_ ?_
       rotate_left
       ·intro w'
        go_simp
        with_reducible rfl
       rotate_left
       ·simp only [Act.put, List.setIfInBounds_toArray, List.set_cons_zero, List.set_cons_succ, i64_w, i32_w]
        rfl
       refine pure_ (i := 31) (N := some 61) (v := ?_) (a' := ?_) #[tT,tT,tT,tT,tT,tT,tT,tT,tT,tT,tT,tT,tT,tT,tT,tT,tT,tT,tT,tT,tT,tT,tT,tT,tT,tT,tT,tT,tT,tT,tT,tT] rfl rfl (any_of HT_.out (by kernel_rfl)) (fun _ _ _ h => h) (Or.inl ⟨by rfl, ?_⟩) ?_ ?_
       rotate_left
       ·intro w'
        go_simp
        with_reducible rfl
       rotate_left
       ·simp only [Act.put, List.setIfInBounds_toArray, List.set_cons_zero, List.set_cons_succ, i64_w, i32_w]
        rfl
       refine done_ (done_of HT_.out (by kernel_rfl)) ?_
       try go_wp2
       go_meet
       case rel => exact ⟨_, ((t717 != (wrap64 (t718 + t714)))), (by first | rfl | (simp; done) | (simp [*]; done)), H', ⟨by first | omega | exact Nat.le_refl _⟩, ⟨by (with_reducible repeat (first | apply Kd.V_alloc | apply Kd.V_drewN | apply Kd.V_drew)); exact Kd.V_mono HO713.out (fun _ hk => ⟨hk.1, ⟨hk.2.2.1, hk.2.2.2⟩⟩)⟩, ⟨by (with_reducible repeat (first | apply Kd.R_alloc | apply Kd.R_drewN | apply Kd.R_drew)); exact HO705.out⟩, ⟨by (with_reducible repeat (first | refine blk_drewN ?_ _ | refine blk_drew ?_ | refine blk_alloc ?_ _)); exact BK700.out⟩, ⟨by (with_reducible repeat (first | refine blk_drewN ?_ _ | refine blk_drew ?_ | refine blk_alloc ?_ _)); exact BK706.out⟩, ⟨by repeat (first | (with_reducible first | exact HB.out | apply below_alloc | apply pw_below_drewN | apply below_drew1 | refine below_set ?_ GE700.out | refine below_set ?_ GE706.out) | exact HB.out)⟩⟩
    ·replace c25 := Bool.eq_false_iff.mpr c25
     subst c25
     have H1 : (billetlaw06_FlowAdds.j0 k t710 t711 t714 true t702 t703) = some r := by rw [if_neg (show ¬ (false = true) by decide)] at H; exact H
     clear H
     have H := H1
     clear H1
     first | exact (billetlaw06_FlowAdds.j0_no (H.trans (congrArg some HT_.out))).elim
   ·rw [if_neg c23] at H
    first | exact (billetlaw06_FlowAdds.j0_no (H.trans (congrArg some HT_.out))).elim
  ·replace c22 := Bool.eq_false_iff.mpr c22
   subst c22
   have H1 : (billetlaw06_FlowAdds.j0 k t710 t711 t714 true t702 t703) = some r := by rw [if_neg (show ¬ (false = true) by decide)] at H; exact H
   clear H
   have H := H1
   clear H1
   first | exact (billetlaw06_FlowAdds.j0_no (H.trans (congrArg some HT_.out))).elim
 case rest =>
  clear HC9
  try clear c2
  try clear p2
  try clear c22
  try clear c23
  try clear c23b0
  try clear c23b1
  try clear c24
  obtain ⟨kq, x61_8, rfl, HA, HJ8, HO_10, HO_707001, BK700, BK706, HB⟩ := hcut
  cases kq with
  | zero => exact absurd HA.out (by simp [billetlaw06_FlowAdds.j0])
  | succ kj8 =>
   have H := HA.out
   clear HA
   simp only [billetlaw06_FlowAdds.j0] at H
   by_cases c46 : x61_8 = true
   ·subst c46
    have H1 : (some false) = some r := by rw [if_pos rfl] at H; exact H
    clear H
    have H := H1
    clear H1
    exact absurd (H.trans (congrArg some HT_.out)) (by simp)
   ·replace c46 := Bool.eq_false_iff.mpr c46
    subst c46
    have H1 : ((billetref05_Reach.f kj8 t702 t703 t711 0).bind fun t719 => (if t714 = t710 then (some true) else (if 1 < (t719.length : Int) then (if rdOf false t719 1 = true then (some false) else ((billetref05_Cut.f kj8 t702 t703 t719).bind fun t723 => ((billetref05_Value.f kj8 t702 t703 t711 0).bind fun t724 => (some (t723 == t724))))) else (none)))) = some r := by rw [if_neg (show ¬ (false = true) by decide)] at H; exact H
    clear H
    have H := H1
    clear H1
    replace H := Option.bind_eq_some_iff.mp H
    obtain ⟨t719, A470, H⟩ := H
    replace H : (if t714 = t710 then (some true) else (if 1 < (t719.length : Int) then (if rdOf false t719 1 = true then (some false) else ((billetref05_Cut.f kj8 t702 t703 t719).bind fun t723 => ((billetref05_Value.f kj8 t702 t703 t711 0).bind fun t724 => (some (t723 == t724))))) else (none))) = some r := H
    have A47 := Aside0.mk A470
    clear A470
    by_cases c48 : t714 = t710
    ·rw [if_pos c48] at H
     have c48b0 : (t714 == t710) = true := beq_iff_eq.mpr c48
     have c48b1 : (t714 != t710) = false := bne_eq_false_iff_eq.mpr c48
     clear c48
     obtain rfl := Option.some.inj H
     have hnb49 := NB706_700.out
     have hnc49 := NB700_706.out
     have hcz50_0 : wc.cell? ⟨gb706, 0, none⟩ = some (.int .i64 t702) := (blk_cell BK706.out 0).trans rfl
     have hcz50_1 : wc.cell? ⟨gb706, 1, none⟩ = some (.slice Ao17 t703.length co17) := (blk_cell BK706.out 1).trans rfl
     have hfz50_0 := blk_frozen BK706.out 0
     have hfz50_1 := blk_frozen BK706.out 1
     obtain ⟨Ao51, co51, eo51⟩ := Kd.V_slice HO_10.out
     subst eo51
     try go_wp2_with (first | ((with_reducible refine gate_callee (f := 21) rfl ?_); refine goesL_ (some 64) rfl rfl Try.func21 (by kernel_rfl) rfl #[.agg #[.int .i64 t702, .slice Ao17 t703.length co17], .slice Ao51 t711.length co51, .int .i64 0] rfl (by (try simp only [List.map_toArray, List.map_cons, List.map_nil]); first | done | rfl | (simp only [List.length_drop, List.length_take]; rfl)) ?_; (with_reducible refine (billetref05_Reach.calls kj8 t702 _ _ t703 _ _ t711 0 t719 _ ?side1 ?side2 ?side3 ?side4 A47.out).mono ?_); (case side1 => repeat (first | exact (Kd.R_reads' HO_707001.out).2.2 | (with_reducible refine Kd.C_alloc ?_ _) | (with_reducible refine Kd.C_drewN ?_ _) | (with_reducible refine Kd.C_drew ?_))); (case side2 => exact (Kd.R_reads' HO_707001.out).2.1); (case side3 => repeat (first | exact (Kd.V_reads' HO_10.out).2.2 | (with_reducible refine Kd.C_alloc ?_ _) | (with_reducible refine Kd.C_drewN ?_ _) | (with_reducible refine Kd.C_drew ?_))); (case side4 => exact (Kd.V_reads' HO_10.out).2.1); rintro e w52 ⟨v720, rfl, ho0, hb⟩; refine ⟨_, rfl, ?_⟩; have n0_ := Aside0.mk (Kd.V_elder' (by (with_reducible repeat (first | apply Kd.V_alloc | apply Kd.V_drewN | apply Kd.V_drew)); exact HO_10.out) (Kd.R_base ho0) hb); have n1_ := Aside0.mk (Kd.R_below (by (with_reducible repeat (first | apply Kd.R_alloc | apply Kd.R_drewN | apply Kd.R_drew)); exact HO_707001.out) hb); have n2_ := Aside0.mk (Kd.R_lower ho0 (below_size (by repeat (first | (with_reducible first | exact HB.out | apply below_alloc | apply pw_below_drewN | apply below_drew1 | refine below_set ?_ GE700.out | refine below_set ?_ GE706.out) | exact HB.out)))); have n3_ := Aside0.mk (blk_below (g := gb700) (o := .cells #[.int .i64 a0_0, .slice A0_1 l0_1.length c0_1] 24 (0, 0)) (by (with_reducible repeat (first | refine blk_drewN ?_ _ | refine blk_drew ?_ | refine blk_alloc ?_ _)); exact BK700.out) hb); have n4_ := Aside0.mk (blk_below (g := gb706) (o := .cells #[.int .i64 t702, .slice Ao17 t703.length co17] 24 (0, 0)) (by (with_reducible repeat (first | refine blk_drewN ?_ _ | refine blk_drew ?_ | refine blk_alloc ?_ _)); exact BK706.out) hb); have n5_ := Aside0.mk (below_step (by repeat (first | (with_reducible first | exact HB.out | apply below_alloc | apply pw_below_drewN | apply below_drew1 | refine below_set ?_ GE700.out | refine below_set ?_ GE706.out) | exact HB.out)) hb); clear HO_10; clear HO_707001; clear BK700; clear BK706; clear HB; have HO_10 := n0_; have HO_707001 := n1_; have HO721 := n2_; have BK700 := n3_; have BK706 := n4_; have HB := n5_; clear n0_ n1_ n2_ n3_ n4_ n5_; (try clear hb); (try clear hb2); (try clear hk); (try clear hi); (try clear ho0)))
     have n0_ := Aside0.mk (Kd.V_drew HO_10.out)
     have n1_ := Aside0.mk (Kd.R_drew HO_707001.out)
     have n2_ := Aside0.mk (Kd.R_drew HO721.out)
     have n3_ := Aside0.mk (blk_drew BK700.out)
     have n4_ := Aside0.mk (blk_drew BK706.out)
     have n5_ := Aside0.mk (below_drew1 HB.out)
     clear HO_10
     clear HO_707001
     clear HO721
     clear BK700
     clear BK706
     clear HB
     have HO_10 := n0_
     have HO_707001 := n1_
     have HO721 := n2_
     have BK700 := n3_
     have BK706 := n4_
     have HB := n5_
     clear n0_ n1_ n2_ n3_ n4_ n5_
     refine start_ (n := 19) (S := fun w' => True) (ds := []) #[fF,fF,fF,fF,fF,fF,fF,fF,fF,fF,fF,fF,fF,fF,fF,fF,fF,fF,fF] (by kernel_rfl) rfl rfl trivial (fun hHeld => ?_); refine with_tabW billetlaw06_FlowAdds.tab9 billetlaw06_FlowAdds.bits9 (fun HT_ HW_ => ?_)
     generalize w52.drew = w53 at HO_10 HO_707001 HO721 BK700 BK706 HB hHeld ⊢
     refine pure_ (i := 0) (N := some 65) (v := ?_) (a' := ?_) #[tT,fF,fF,fF,fF,fF,fF,fF,fF,fF,fF,fF,fF,fF,fF,fF,fF,fF,fF] rfl rfl (any_of HT_.out (by kernel_rfl)) (fun _ _ _ h => h) (Or.inl ⟨by rfl, ?_⟩) ?_ ?_
     rotate_left
     ·intro w'
      go_simp
      with_reducible rfl
     rotate_left
     ·simp only [Act.put, List.setIfInBounds_toArray, List.set_cons_zero, List.set_cons_succ, i64_w, i32_w]
      rfl
     refine pure_ (i := 1) (N := some 66) (v := ?_) (a' := ?_) #[tT,tT,fF,fF,fF,fF,fF,fF,fF,fF,fF,fF,fF,fF,fF,fF,fF,fF,fF] rfl rfl (any_of HT_.out (by kernel_rfl)) (fun _ _ _ h => h) (Or.inl ⟨by rfl, ?_⟩) ?_ ?_
     rotate_left
     ·intro w'
      go_simp
      with_reducible rfl
     rotate_left
     ·simp only [Act.put, List.setIfInBounds_toArray, List.set_cons_zero, List.set_cons_succ, i64_w, i32_w]
      rfl
     refine pure_ (i := 2) (N := some 67) (v := ?_) (a' := ?_) #[tT,tT,tT,fF,fF,fF,fF,fF,fF,fF,fF,fF,fF,fF,fF,fF,fF,fF,fF] rfl rfl (any_of HT_.out (by kernel_rfl)) (fun _ _ _ h => h) (Or.inl ⟨by rfl, ?_⟩) ?_ ?_
     rotate_left
     ·intro w'
      go_simp
      with_reducible rfl
     rotate_left
     ·simp only [Act.put, List.setIfInBounds_toArray, List.set_cons_zero, List.set_cons_succ, i64_w, i32_w]
      rfl
     refine pure_ (i := 3) (N := some 68) (v := ?_) (a' := ?_) #[tT,tT,tT,tT,fF,fF,fF,fF,fF,fF,fF,fF,fF,fF,fF,fF,fF,fF,fF] rfl rfl (any_of HT_.out (by kernel_rfl)) (fun _ _ _ h => h) (Or.inl ⟨by rfl, ?_⟩) ?_ ?_
     rotate_left
     ·intro w'
      go_simp
      with_reducible rfl
     rotate_left
     ·simp only [Act.put, List.setIfInBounds_toArray, List.set_cons_zero, List.set_cons_succ, i64_w, i32_w]
      rfl
     refine pure_ (i := 4) (N := some 69) (v := undef) (a' := ?_) #[tT,tT,tT,tT,tT,fF,fF,fF,fF,fF,fF,fF,fF,fF,fF,fF,fF,fF,fF] rfl rfl (any_of HT_.out (by kernel_rfl)) (fun _ _ _ h => h) (Or.inr ⟨by rfl, rfl⟩) ?_ ?_
     rotate_left
     ·simp only [Act.put, List.setIfInBounds_toArray, List.set_cons_zero, List.set_cons_succ, i64_w, i32_w]
      rfl
     refine pure_ (i := 5) (N := some 70) (v := undef) (a' := ?_) #[tT,tT,tT,tT,tT,tT,fF,fF,fF,fF,fF,fF,fF,fF,fF,fF,fF,fF,fF] rfl rfl (any_of HT_.out (by kernel_rfl)) (fun _ _ _ h => h) (Or.inr ⟨by rfl, rfl⟩) ?_ ?_
     rotate_left
     ·simp only [Act.put, List.setIfInBounds_toArray, List.set_cons_zero, List.set_cons_succ, i64_w, i32_w]
      rfl
     refine pure_ (i := 6) (N := some 71) (v := undef) (a' := ?_) #[tT,tT,tT,tT,tT,tT,tT,fF,fF,fF,fF,fF,fF,fF,fF,fF,fF,fF,fF] rfl rfl (any_of HT_.out (by kernel_rfl)) (fun _ _ _ h => h) (Or.inr ⟨by rfl, rfl⟩) ?_ ?_
     rotate_left
     ·simp only [Act.put, List.setIfInBounds_toArray, List.set_cons_zero, List.set_cons_succ, i64_w, i32_w]
      rfl
     refine pure_ (i := 7) (N := some 72) (v := undef) (a' := ?_) #[tT,tT,tT,tT,tT,tT,tT,tT,fF,fF,fF,fF,fF,fF,fF,fF,fF,fF,fF] rfl rfl (any_of HT_.out (by kernel_rfl)) (fun _ _ _ h => h) (Or.inr ⟨by rfl, rfl⟩) ?_ ?_
     rotate_left
     ·simp only [Act.put, List.setIfInBounds_toArray, List.set_cons_zero, List.set_cons_succ, i64_w, i32_w]
      rfl
     refine pure_ (i := 8) (N := some 73) (v := undef) (a' := ?_) #[tT,tT,tT,tT,tT,tT,tT,tT,tT,fF,fF,fF,fF,fF,fF,fF,fF,fF,fF] rfl rfl (any_of HT_.out (by kernel_rfl)) (fun _ _ _ h => h) (Or.inr ⟨by rfl, rfl⟩) ?_ ?_
     rotate_left
     ·simp only [Act.put, List.setIfInBounds_toArray, List.set_cons_zero, List.set_cons_succ, i64_w, i32_w]
      rfl
     refine pure_ (i := 9) (N := some 74) (v := undef) (a' := ?_) #[tT,tT,tT,tT,tT,tT,tT,tT,tT,tT,fF,fF,fF,fF,fF,fF,fF,fF,fF] rfl rfl (any_of HT_.out (by kernel_rfl)) (fun _ _ _ h => h) (Or.inr ⟨by rfl, rfl⟩) ?_ ?_
     rotate_left
     ·simp only [Act.put, List.setIfInBounds_toArray, List.set_cons_zero, List.set_cons_succ, i64_w, i32_w]
      rfl
     refine pure_ (i := 10) (N := some 75) (v := undef) (a' := ?_) #[tT,tT,tT,tT,tT,tT,tT,tT,tT,tT,tT,fF,fF,fF,fF,fF,fF,fF,fF] rfl rfl (any_of HT_.out (by kernel_rfl)) (fun _ _ _ h => h) (Or.inr ⟨by rfl, rfl⟩) ?_ ?_
     rotate_left
     ·simp only [Act.put, List.setIfInBounds_toArray, List.set_cons_zero, List.set_cons_succ, i64_w, i32_w]
      rfl
     refine pure_ (i := 11) (N := some 76) (v := undef) (a' := ?_) #[tT,tT,tT,tT,tT,tT,tT,tT,tT,tT,tT,tT,fF,fF,fF,fF,fF,fF,fF] rfl rfl (any_of HT_.out (by kernel_rfl)) (fun _ _ _ h => h) (Or.inr ⟨by rfl, rfl⟩) ?_ ?_
     rotate_left
     ·simp only [Act.put, List.setIfInBounds_toArray, List.set_cons_zero, List.set_cons_succ, i64_w, i32_w]
      rfl
     refine pure_ (i := 12) (N := some 77) (v := undef) (a' := ?_) #[tT,tT,tT,tT,tT,tT,tT,tT,tT,tT,tT,tT,tT,fF,fF,fF,fF,fF,fF] rfl rfl (any_of HT_.out (by kernel_rfl)) (fun _ _ _ h => h) (Or.inr ⟨by rfl, rfl⟩) ?_ ?_
     rotate_left
     ·simp only [Act.put, List.setIfInBounds_toArray, List.set_cons_zero, List.set_cons_succ, i64_w, i32_w]
      rfl
     refine pure_ (i := 13) (N := some 78) (v := undef) (a' := ?_) #[tT,tT,tT,tT,tT,tT,tT,tT,tT,tT,tT,tT,tT,tT,fF,fF,fF,fF,fF] rfl rfl (any_of HT_.out (by kernel_rfl)) (fun _ _ _ h => h) (Or.inr ⟨by rfl, rfl⟩) ?_ ?_
     rotate_left
     ·simp only [Act.put, List.setIfInBounds_toArray, List.set_cons_zero, List.set_cons_succ, i64_w, i32_w]
      rfl
     refine pure_ (i := 14) (N := some 79) (v := undef) (a' := ?_) #[tT,tT,tT,tT,tT,tT,tT,tT,tT,tT,tT,tT,tT,tT,tT,fF,fF,fF,fF] rfl rfl (any_of HT_.out (by kernel_rfl)) (fun _ _ _ h => h) (Or.inr ⟨by rfl, rfl⟩) ?_ ?_
     rotate_left
     ·simp only [Act.put, List.setIfInBounds_toArray, List.set_cons_zero, List.set_cons_succ, i64_w, i32_w]
      rfl
     refine pure_ (i := 15) (N := some 80) (v := undef) (a' := ?_) #[tT,tT,tT,tT,tT,tT,tT,tT,tT,tT,tT,tT,tT,tT,tT,tT,fF,fF,fF] rfl rfl (any_of HT_.out (by kernel_rfl)) (fun _ _ _ h => h) (Or.inr ⟨by rfl, rfl⟩) ?_ ?_
     rotate_left
     ·simp only [Act.put, List.setIfInBounds_toArray, List.set_cons_zero, List.set_cons_succ, i64_w, i32_w]
      rfl
     refine pure_ (i := 16) (N := some 81) (v := undef) (a' := ?_) #[tT,tT,tT,tT,tT,tT,tT,tT,tT,tT,tT,tT,tT,tT,tT,tT,tT,fF,fF] rfl rfl (any_of HT_.out (by kernel_rfl)) (fun _ _ _ h => h) (Or.inr ⟨by rfl, rfl⟩) ?_ ?_
     rotate_left
     ·simp only [Act.put, List.setIfInBounds_toArray, List.set_cons_zero, List.set_cons_succ, i64_w, i32_w]
      rfl
     refine pure_ (i := 17) (N := some 82) (v := ?_) (a' := ?_) #[tT,tT,tT,tT,tT,tT,tT,tT,tT,tT,tT,tT,tT,tT,tT,tT,tT,tT,fF] rfl rfl (any_of HT_.out (by kernel_rfl)) (fun _ _ _ h => h) (Or.inl ⟨by rfl, ?_⟩) ?_ ?_
     rotate_left
     ·intro w'
      go_simp
      with_reducible rfl
     rotate_left
     ·simp only [Act.put, List.setIfInBounds_toArray, List.set_cons_zero, List.set_cons_succ, i64_w, i32_w]
      rfl
     refine pure_ (i := 18) (N := some 6) (v := ?_) (a' := ?_) #[tT,tT,tT,tT,tT,tT,tT,tT,tT,tT,tT,tT,tT,tT,tT,tT,tT,tT,tT] rfl rfl (any_of HT_.out (by kernel_rfl)) (fun _ _ _ h => h) (Or.inl ⟨by rfl, ?_⟩) ?_ ?_
     rotate_left
     ·intro w'
      go_simp
      with_reducible rfl
     rotate_left
     ·simp only [Act.put, List.setIfInBounds_toArray, List.set_cons_zero, List.set_cons_succ, i64_w, i32_w]
      rfl
     refine done_ (done_of HT_.out (by kernel_rfl)) ?_
     try go_wp2
     go_ret
     exact ⟨by first | rfl | (simp [errW_none, errW_some] <;> rfl) | (simp [*, errW_none, errW_some] <;> rfl), by repeat (first | (with_reducible first | exact HB.out | apply below_alloc | apply pw_below_drewN | apply below_drew1 | refine below_set ?_ GE700.out | refine below_set ?_ GE706.out) | exact HB.out)⟩
    ·rw [if_neg c48] at H
     have c48b0 : (t714 == t710) = false := beq_eq_false_iff_ne.mpr c48
     have c48b1 : (t714 != t710) = true := bne_iff_ne.mpr c48
     by_cases c54 : 1 < (t719.length : Int)
     ·rw [if_pos c54] at H
      have c54b0 : decide (1 < (t719.length : Int)) = true := decide_eq_true c54
      have c54b1 : decide (1 < t719.length) = true := decide_eq_true (by omega)
      clear c54
      obtain ⟨bq55, hbq55⟩ : ∃ b_ : Bool, b_ = (rdOf false t719 1) := ⟨_, rfl⟩
      replace H : (if bq55 = true then (some false) else ((billetref05_Cut.f kj8 t702 t703 t719).bind fun t723 => ((billetref05_Value.f kj8 t702 t703 t711 0).bind fun t724 => (some (t723 == t724))))) = some r := by rw [← hbq55] at H; exact H
      have Nbq55 := Aside0.mk hbq55
      clear hbq55
      by_cases c56 : bq55 = true
      ·subst c56
       have H1 : (some false) = some r := by rw [if_pos rfl] at H; exact H
       clear H
       have H := H1
       clear H1
       exact absurd (H.trans (congrArg some HT_.out)) (by simp)
      ·replace c56 := Bool.eq_false_iff.mpr c56
       subst c56
       have H1 : ((billetref05_Cut.f kj8 t702 t703 t719).bind fun t723 => ((billetref05_Value.f kj8 t702 t703 t711 0).bind fun t724 => (some (t723 == t724)))) = some r := by rw [if_neg (show ¬ (false = true) by decide)] at H; exact H
       clear H
       have H := H1
       clear H1
       replace H := Option.bind_eq_some_iff.mp H
       obtain ⟨t723, A630, H⟩ := H
       replace H : ((billetref05_Value.f kj8 t702 t703 t711 0).bind fun t724 => (some (t723 == t724))) = some r := H
       have A63 := Aside0.mk A630
       clear A630
       replace H := Option.bind_eq_some_iff.mp H
       obtain ⟨t724, A640, H⟩ := H
       replace H : (some (t723 == t724)) = some r := H
       have A64 := Aside0.mk A640
       clear A640
       obtain rfl := Option.some.inj H
       have hnb65 := NB706_700.out
       have hnc65 := NB700_706.out
       have hcz66_0 : wc.cell? ⟨gb706, 0, none⟩ = some (.int .i64 t702) := (blk_cell BK706.out 0).trans rfl
       have hcz66_1 : wc.cell? ⟨gb706, 1, none⟩ = some (.slice Ao17 t703.length co17) := (blk_cell BK706.out 1).trans rfl
       have hfz66_0 := blk_frozen BK706.out 0
       have hfz66_1 := blk_frozen BK706.out 1
       obtain ⟨Ao67, co67, eo67⟩ := Kd.V_slice HO_10.out
       subst eo67
       try go_wp2_with (first | ((with_reducible refine gate_callee (f := 21) rfl ?_); refine goesL_ (some 64) rfl rfl Try.func21 (by kernel_rfl) rfl #[.agg #[.int .i64 t702, .slice Ao17 t703.length co17], .slice Ao67 t711.length co67, .int .i64 0] rfl (by (try simp only [List.map_toArray, List.map_cons, List.map_nil]); first | done | rfl | (simp only [List.length_drop, List.length_take]; rfl)) ?_; (with_reducible refine (billetref05_Reach.calls kj8 t702 _ _ t703 _ _ t711 0 t719 _ ?side1 ?side2 ?side3 ?side4 A47.out).mono ?_); (case side1 => repeat (first | exact (Kd.R_reads' HO_707001.out).2.2 | (with_reducible refine Kd.C_alloc ?_ _) | (with_reducible refine Kd.C_drewN ?_ _) | (with_reducible refine Kd.C_drew ?_))); (case side2 => exact (Kd.R_reads' HO_707001.out).2.1); (case side3 => repeat (first | exact (Kd.V_reads' HO_10.out).2.2 | (with_reducible refine Kd.C_alloc ?_ _) | (with_reducible refine Kd.C_drewN ?_ _) | (with_reducible refine Kd.C_drew ?_))); (case side4 => exact (Kd.V_reads' HO_10.out).2.1); rintro e w68 ⟨v720, rfl, ho0, hb⟩; refine ⟨_, rfl, ?_⟩; have n0_ := Aside0.mk (Kd.V_elder' (by (with_reducible repeat (first | apply Kd.V_alloc | apply Kd.V_drewN | apply Kd.V_drew)); exact HO_10.out) (Kd.R_base ho0) hb); have n1_ := Aside0.mk (Kd.R_below (by (with_reducible repeat (first | apply Kd.R_alloc | apply Kd.R_drewN | apply Kd.R_drew)); exact HO_707001.out) hb); have n2_ := Aside0.mk (Kd.R_lower ho0 (below_size (by repeat (first | (with_reducible first | exact HB.out | apply below_alloc | apply pw_below_drewN | apply below_drew1 | refine below_set ?_ GE700.out | refine below_set ?_ GE706.out) | exact HB.out)))); have n3_ := Aside0.mk (blk_below (g := gb700) (o := .cells #[.int .i64 a0_0, .slice A0_1 l0_1.length c0_1] 24 (0, 0)) (by (with_reducible repeat (first | refine blk_drewN ?_ _ | refine blk_drew ?_ | refine blk_alloc ?_ _)); exact BK700.out) hb); have n4_ := Aside0.mk (blk_below (g := gb706) (o := .cells #[.int .i64 t702, .slice Ao17 t703.length co17] 24 (0, 0)) (by (with_reducible repeat (first | refine blk_drewN ?_ _ | refine blk_drew ?_ | refine blk_alloc ?_ _)); exact BK706.out) hb); have n5_ := Aside0.mk (below_step (by repeat (first | (with_reducible first | exact HB.out | apply below_alloc | apply pw_below_drewN | apply below_drew1 | refine below_set ?_ GE700.out | refine below_set ?_ GE706.out) | exact HB.out)) hb); clear HO_10; clear HO_707001; clear BK700; clear BK706; clear HB; have HO_10 := n0_; have HO_707001 := n1_; have HO721 := n2_; have BK700 := n3_; have BK706 := n4_; have HB := n5_; clear n0_ n1_ n2_ n3_ n4_ n5_; (try clear hb); (try clear hb2); (try clear hk); (try clear hi); (try clear ho0)))
       have n0_ := Aside0.mk (Kd.V_drew HO_10.out)
       have n1_ := Aside0.mk (Kd.R_drew HO_707001.out)
       have n2_ := Aside0.mk (Kd.R_drew HO721.out)
       have n3_ := Aside0.mk (blk_drew BK700.out)
       have n4_ := Aside0.mk (blk_drew BK706.out)
       have n5_ := Aside0.mk (below_drew1 HB.out)
       clear HO_10
       clear HO_707001
       clear HO721
       clear BK700
       clear BK706
       clear HB
       have HO_10 := n0_
       have HO_707001 := n1_
       have HO721 := n2_
       have BK700 := n3_
       have BK706 := n4_
       have HB := n5_
       clear n0_ n1_ n2_ n3_ n4_ n5_
       obtain ⟨Ao70, co70, eo70⟩ := Kd.R_slice HO721.out
       (first | subst eo70 | (injection eo70 with f1_ f2_ f3_; have f4_ := f1_.symm; have f5_ := f3_.symm; clear f1_ f2_ f3_; subst f4_; subst f5_))
       have p722 : 0 ≤ (1 : Int) := (by omega)
       have q722 : 1 < (t719.length : Int) := of_decide_eq_true (by first | (with_reducible assumption) | assumption)
       obtain ⟨ad722, e722, hx722_0⟩ := Kd.at_bool (Kd.R_reads' HO721.out).2.2 1 p722 q722
       (try rw [← Nbq55.out] at hx722_0)
       cases e722
       (try simp only [show (1 : Int).toNat = 1 from rfl, Nat.reduceMul, Nat.reduceEqDiff, Go.Addr.add, ↓reduceIte] at hx722_0)
       have qi722 : (1 < t719.length) = True := eq_true (by omega)
       (try rw [show ((1 : Int)).toNat = 1 from rfl] at hx722_0)
       replace p722 := eq_true p722
       replace q722 := eq_true q722
       refine start_ (n := 19) (S := fun w' => w'.cell? ⟨gb706, 0, none⟩ = some (.int .i64 t702) ∧ w'.cell? ⟨gb706, 1, none⟩ = some (.slice Ao17 t703.length co17) ∧ w'.cell? ⟨ad722.block, ad722.off + 1, none⟩ = some (.bool false)) (ds := []) #[fF,fF,fF,fF,fF,fF,fF,fF,fF,fF,fF,fF,fF,fF,fF,fF,fF,fF,fF] (by kernel_rfl) rfl rfl ⟨(blk_cell BK706.out 0).trans rfl, (blk_cell BK706.out 1).trans rfl, hx722_0⟩ (fun hHeld => ?_); refine with_tabW billetlaw06_FlowAdds.tab9 billetlaw06_FlowAdds.bits9 (fun HT_ HW_ => ?_)
       generalize w68.drew = w69 at HO_10 HO_707001 HO721 BK700 BK706 HB hx722_0 hHeld ⊢
       refine pure_ (i := 0) (N := some 65) (v := ?_) (a' := ?_) #[tT,fF,fF,fF,fF,fF,fF,fF,fF,fF,fF,fF,fF,fF,fF,fF,fF,fF,fF] rfl rfl (any_of HT_.out (by kernel_rfl)) (fun _ _ _ h => h) (Or.inl ⟨by rfl, ?_⟩) ?_ ?_
       rotate_left
       ·intro w'
        go_simp
        with_reducible rfl
       rotate_left
       ·simp only [Act.put, List.setIfInBounds_toArray, List.set_cons_zero, List.set_cons_succ, i64_w, i32_w]
        rfl
       refine pure_ (i := 1) (N := some 66) (v := ?_) (a' := ?_) #[tT,tT,fF,fF,fF,fF,fF,fF,fF,fF,fF,fF,fF,fF,fF,fF,fF,fF,fF] rfl rfl (any_of HT_.out (by kernel_rfl)) (fun _ _ _ h => h) (Or.inl ⟨by rfl, ?_⟩) ?_ ?_
       rotate_left
       ·intro w'
        go_simp
        with_reducible rfl
       rotate_left
       ·simp only [Act.put, List.setIfInBounds_toArray, List.set_cons_zero, List.set_cons_succ, i64_w, i32_w]
        rfl
       refine pure_ (i := 2) (N := some 67) (v := ?_) (a' := ?_) #[tT,tT,tT,fF,fF,fF,fF,fF,fF,fF,fF,fF,fF,fF,fF,fF,fF,fF,fF] rfl rfl (any_of HT_.out (by kernel_rfl)) (fun _ _ _ h => h) (Or.inl ⟨by rfl, ?_⟩) ?_ ?_
       rotate_left
       ·intro w'
        go_simp
        with_reducible rfl
       rotate_left
       ·simp only [Act.put, List.setIfInBounds_toArray, List.set_cons_zero, List.set_cons_succ, i64_w, i32_w]
        rfl
       refine pure_ (i := 3) (N := some 68) (v := ?_) (a' := ?_) #[tT,tT,tT,tT,fF,fF,fF,fF,fF,fF,fF,fF,fF,fF,fF,fF,fF,fF,fF] rfl rfl (any_of HT_.out (by kernel_rfl)) (fun _ _ _ h => h) (Or.inl ⟨by rfl, ?_⟩) ?_ ?_
       rotate_left
       ·intro w'
        go_simp
        with_reducible rfl
       rotate_left
       ·simp only [Act.put, List.setIfInBounds_toArray, List.set_cons_zero, List.set_cons_succ, i64_w, i32_w]
        rfl
       refine pure_ (i := 4) (N := some 69) (v := ?_) (a' := ?_) #[tT,tT,tT,tT,tT,fF,fF,fF,fF,fF,fF,fF,fF,fF,fF,fF,fF,fF,fF] rfl rfl (any_of HT_.out (by kernel_rfl)) (fun _ _ _ h => h) (Or.inl ⟨by rfl, ?_⟩) ?_ ?_
       rotate_left
       ·intro w'
        go_simp
        with_reducible rfl
       rotate_left
       ·simp only [Act.put, List.setIfInBounds_toArray, List.set_cons_zero, List.set_cons_succ, i64_w, i32_w]
        rfl
       refine pure_ (i := 5) (N := some 70) (v := ?_) (a' := ?_) #[tT,tT,tT,tT,tT,tT,fF,fF,fF,fF,fF,fF,fF,fF,fF,fF,fF,fF,fF] rfl rfl (any_of HT_.out (by kernel_rfl)) (fun _ _ _ h => h) (Or.inl ⟨by rfl, ?_⟩) ?_ ?_
       rotate_left
       ·intro w'
        go_simp
        with_reducible rfl
       rotate_left
       ·simp only [Act.put, List.setIfInBounds_toArray, List.set_cons_zero, List.set_cons_succ, i64_w, i32_w]
        rfl
       refine take_ (i := 6) (N := some 71) (v := ?_) (a' := ?_) #[tT,tT,tT,tT,tT,tT,tT,fF,fF,fF,fF,fF,fF,fF,fF,fF,fF,fF,fF] rfl rfl (take_ofW HT_.out HW_.out (by kernel_rfl)) (fun _ _ _ h => h) (Or.inl ⟨by rfl, ?_⟩) hHeld ?_ ?_
       rotate_left
       ·rintro w' ⟨s0, s1, s2⟩
        go_simp
        with_reducible rfl
       rotate_left
       ·simp only [Act.put, List.setIfInBounds_toArray, List.set_cons_zero, List.set_cons_succ, i64_w, i32_w]
        rfl
       refine pure_ (i := 7) (N := some 72) (v := ?_) (a' := ?_) #[tT,tT,tT,tT,tT,tT,tT,tT,fF,fF,fF,fF,fF,fF,fF,fF,fF,fF,fF] rfl rfl (any_of HT_.out (by kernel_rfl)) (fun _ _ _ h => h) (Or.inl ⟨by rfl, ?_⟩) ?_ ?_
       rotate_left
       ·intro w'
        go_simp
        with_reducible rfl
       rotate_left
       ·simp only [Act.put, List.setIfInBounds_toArray, List.set_cons_zero, List.set_cons_succ, i64_w, i32_w]
        rfl
       refine pure_ (i := 8) (N := some 73) (v := ?_) (a' := ?_) #[tT,tT,tT,tT,tT,tT,tT,tT,tT,fF,fF,fF,fF,fF,fF,fF,fF,fF,fF] rfl rfl (any_of HT_.out (by kernel_rfl)) (fun _ _ _ h => h) (Or.inl ⟨by rfl, ?_⟩) ?_ ?_
       rotate_left
       ·intro w'
        go_simp
        with_reducible rfl
       rotate_left
       ·simp only [Act.put, List.setIfInBounds_toArray, List.set_cons_zero, List.set_cons_succ, i64_w, i32_w]
        rfl
       refine pure_ (i := 10) (N := some 75) (v := ?_) (a' := ?_) #[tT,tT,tT,tT,tT,tT,tT,tT,tT,fF,tT,fF,fF,fF,fF,fF,fF,fF,fF] rfl rfl (any_of HT_.out (by kernel_rfl)) (fun _ _ _ h => h) (Or.inl ⟨by rfl, ?_⟩) ?_ ?_
       rotate_left
       ·intro w'
        go_simp
        with_reducible rfl
       rotate_left
       ·simp only [Act.put, List.setIfInBounds_toArray, List.set_cons_zero, List.set_cons_succ, i64_w, i32_w]
        rfl
       refine pure_ (i := 13) (N := some 78) (v := ?_) (a' := ?_) #[tT,tT,tT,tT,tT,tT,tT,tT,tT,fF,tT,fF,fF,tT,fF,fF,fF,fF,fF] rfl rfl (any_of HT_.out (by kernel_rfl)) (fun _ _ _ h => h) (Or.inl ⟨by rfl, ?_⟩) ?_ ?_
       rotate_left
       ·intro w'
        go_simp
        with_reducible rfl
       rotate_left
       ·simp only [Act.put, List.setIfInBounds_toArray, List.set_cons_zero, List.set_cons_succ, i64_w, i32_w]
        rfl
       refine take_ (i := 9) (N := some 74) (v := ?_) (a' := ?_) #[tT,tT,tT,tT,tT,tT,tT,tT,tT,tT,tT,fF,fF,tT,fF,fF,fF,fF,fF] rfl rfl (take_ofW HT_.out HW_.out (by kernel_rfl)) (fun _ _ _ h => h) (Or.inl ⟨by rfl, ?_⟩) hHeld ?_ ?_
       rotate_left
       ·rintro w' ⟨s0, s1, s2⟩
        go_simp
        with_reducible rfl
       rotate_left
       ·simp only [Act.put, List.setIfInBounds_toArray, List.set_cons_zero, List.set_cons_succ, i64_w, i32_w]
        rfl
       refine take_ (i := 12) (N := some 77) (v := ?_) (a' := ?_) #[tT,tT,tT,tT,tT,tT,tT,tT,tT,tT,tT,fF,tT,tT,fF,fF,fF,fF,fF] rfl rfl (take_ofW HT_.out HW_.out (by kernel_rfl)) (fun _ _ _ h => h) (Or.inl ⟨by rfl, ?_⟩) hHeld ?_ ?_
       rotate_left
       ·rintro w' ⟨s0, s1, s2⟩
        go_simp
        with_reducible rfl
       rotate_left
       ·simp only [Act.put, List.setIfInBounds_toArray, List.set_cons_zero, List.set_cons_succ, i64_w, i32_w]
        rfl
       refine one_ (i := 11) (N := some 76) #[tT,tT,tT,tT,tT,tT,tT,tT,tT,tT,tT,tT,tT,tT,fF,fF,fF,fF,fF] rfl rfl (one_of HT_.out (by kernel_rfl)) (by decide) (fun K hK => ?_)
       refine goes_ Try.func29 (by kernel_rfl) rfl #[.agg #[.int .i64 t702, .slice Ao17 t703.length co17], .slice (some ad722) t719.length co70] (by rfl) rfl rfl (by (try simp only [List.map_toArray, List.map_cons, List.map_nil]); first | done | rfl | (simp only [List.length_drop, List.length_take]; rfl)) ?_
       with_reducible refine (billetref05_Cut.calls kj8 t702 _ _ t703 _ _ t719 t723 _ ?side1 ?side2 ?side3 ?side4 A63.out).mono ?_
       (case side1 => repeat (first | exact (Kd.R_reads' HO_707001.out).2.2 | (with_reducible refine Kd.C_alloc ?_ _) | (with_reducible refine Kd.C_drewN ?_ _) | (with_reducible refine Kd.C_drew ?_)))
       (case side2 => exact (Kd.R_reads' HO_707001.out).2.1)
       (case side3 => repeat (first | exact (Kd.R_reads' HO721.out).2.2 | (with_reducible refine Kd.C_alloc ?_ _) | (with_reducible refine Kd.C_drewN ?_ _) | (with_reducible refine Kd.C_drew ?_)))
       (case side4 => exact (Kd.R_reads' HO721.out).2.1)
       rintro e w71 ⟨rfl, hb⟩
       have HS2_ := (hb.cell (World.block_lt_of_cell? _ _ (hHeld.2.2))).trans (hHeld.2.2)
       refine ⟨_, rfl, ?_⟩
       have n0_ := Aside0.mk (Kd.V_below (by (with_reducible repeat (first | apply Kd.V_alloc | apply Kd.V_drewN | apply Kd.V_drew)); exact HO_10.out) hb)
       have n1_ := Aside0.mk (Kd.R_below (by (with_reducible repeat (first | apply Kd.R_alloc | apply Kd.R_drewN | apply Kd.R_drew)); exact HO_707001.out) hb)
       have n2_ := Aside0.mk (Kd.R_below (by (with_reducible repeat (first | apply Kd.R_alloc | apply Kd.R_drewN | apply Kd.R_drew)); exact HO721.out) hb)
       have n3_ := Aside0.mk (blk_below (g := gb700) (o := .cells #[.int .i64 a0_0, .slice A0_1 l0_1.length c0_1] 24 (0, 0)) (by (with_reducible repeat (first | refine blk_drewN ?_ _ | refine blk_drew ?_ | refine blk_alloc ?_ _)); exact BK700.out) hb)
       have n4_ := Aside0.mk (blk_below (g := gb706) (o := .cells #[.int .i64 t702, .slice Ao17 t703.length co17] 24 (0, 0)) (by (with_reducible repeat (first | refine blk_drewN ?_ _ | refine blk_drew ?_ | refine blk_alloc ?_ _)); exact BK706.out) hb)
       have n5_ := Aside0.mk (below_step (by repeat (first | (with_reducible first | exact HB.out | apply below_alloc | apply pw_below_drewN | apply below_drew1 | refine below_set ?_ GE700.out | refine below_set ?_ GE706.out) | exact HB.out)) hb)
       clear HO_10
       clear HO_707001
       clear HO721
       clear BK700
       clear BK706
       clear HB
       have HO_10 := n0_
       have HO_707001 := n1_
       have HO721 := n2_
       have BK700 := n3_
       have BK706 := n4_
       have HB := n5_
       clear n0_ n1_ n2_ n3_ n4_ n5_
       (try clear hb)
       (try clear hb2)
       (try clear hk)
       (try clear hi)
       refine hK.out _ _ ⟨(blk_cell BK706.out 0).trans rfl, (blk_cell BK706.out 1).trans rfl, HS2_⟩ (fun hHeld => ?_)
       clear hK K
       refine norm_ (a' := ?_) ?_ ?_
       rotate_left
       ·show Act.put _ (some 76) _ = _
        simp only [Act.put, List.setIfInBounds_toArray, List.set_cons_zero, List.set_cons_succ, i64_w, i32_w]
        rfl
       refine one_ (i := 14) (N := some 79) #[tT,tT,tT,tT,tT,tT,tT,tT,tT,tT,tT,tT,tT,tT,tT,fF,fF,fF,fF] rfl rfl (one_of HT_.out (by kernel_rfl)) (by decide) (fun K hK => ?_)
       refine goes_ Try.func26 (by kernel_rfl) rfl #[.agg #[.int .i64 t702, .slice Ao17 t703.length co17], .slice Ao67 t711.length co67, .int .i64 0] (by rfl) rfl rfl (by (try simp only [List.map_toArray, List.map_cons, List.map_nil]); first | done | rfl | (simp only [List.length_drop, List.length_take]; rfl)) ?_
       with_reducible refine (billetref05_Value.calls kj8 t702 _ _ t703 _ _ t711 0 t724 _ ?side1 ?side2 ?side3 ?side4 A64.out).mono ?_
       (case side1 => repeat (first | exact (Kd.R_reads' HO_707001.out).2.2 | (with_reducible refine Kd.C_alloc ?_ _) | (with_reducible refine Kd.C_drewN ?_ _) | (with_reducible refine Kd.C_drew ?_)))
       (case side2 => exact (Kd.R_reads' HO_707001.out).2.1)
       (case side3 => repeat (first | exact (Kd.V_reads' HO_10.out).2.2 | (with_reducible refine Kd.C_alloc ?_ _) | (with_reducible refine Kd.C_drewN ?_ _) | (with_reducible refine Kd.C_drew ?_)))
       (case side4 => exact (Kd.V_reads' HO_10.out).2.1)
       rintro e w72 ⟨rfl, hb⟩
       have HS2_ := (hb.cell (World.block_lt_of_cell? _ _ (hHeld.2.2))).trans (hHeld.2.2)
       refine ⟨_, rfl, ?_⟩
       have n0_ := Aside0.mk (Kd.V_below (by (with_reducible repeat (first | apply Kd.V_alloc | apply Kd.V_drewN | apply Kd.V_drew)); exact HO_10.out) hb)
       have n1_ := Aside0.mk (Kd.R_below (by (with_reducible repeat (first | apply Kd.R_alloc | apply Kd.R_drewN | apply Kd.R_drew)); exact HO_707001.out) hb)
       have n2_ := Aside0.mk (Kd.R_below (by (with_reducible repeat (first | apply Kd.R_alloc | apply Kd.R_drewN | apply Kd.R_drew)); exact HO721.out) hb)
       have n3_ := Aside0.mk (blk_below (g := gb700) (o := .cells #[.int .i64 a0_0, .slice A0_1 l0_1.length c0_1] 24 (0, 0)) (by (with_reducible repeat (first | refine blk_drewN ?_ _ | refine blk_drew ?_ | refine blk_alloc ?_ _)); exact BK700.out) hb)
       have n4_ := Aside0.mk (blk_below (g := gb706) (o := .cells #[.int .i64 t702, .slice Ao17 t703.length co17] 24 (0, 0)) (by (with_reducible repeat (first | refine blk_drewN ?_ _ | refine blk_drew ?_ | refine blk_alloc ?_ _)); exact BK706.out) hb)
       have n5_ := Aside0.mk (below_step (by repeat (first | (with_reducible first | exact HB.out | apply below_alloc | apply pw_below_drewN | apply below_drew1 | refine below_set ?_ GE700.out | refine below_set ?_ GE706.out) | exact HB.out)) hb)
       clear HO_10
       clear HO_707001
       clear HO721
       clear BK700
       clear BK706
       clear HB
       have HO_10 := n0_
       have HO_707001 := n1_
       have HO721 := n2_
       have BK700 := n3_
       have BK706 := n4_
       have HB := n5_
       clear n0_ n1_ n2_ n3_ n4_ n5_
       (try clear hb)
       (try clear hb2)
       (try clear hk)
       (try clear hi)
       refine hK.out _ _ ⟨(blk_cell BK706.out 0).trans rfl, (blk_cell BK706.out 1).trans rfl, HS2_⟩ (fun hHeld => ?_)
       clear hK K
       refine norm_ (a' := ?_) ?_ ?_
       rotate_left
       ·show Act.put _ (some 79) _ = _
        simp only [Act.put, List.setIfInBounds_toArray, List.set_cons_zero, List.set_cons_succ, i64_w, i32_w]
        rfl
       refine pure_ (i := 15) (N := some 80) (v := ?_) (a' := ?_) #[tT,tT,tT,tT,tT,tT,tT,tT,tT,tT,tT,tT,tT,tT,tT,tT,fF,fF,fF] rfl rfl (any_of HT_.out (by kernel_rfl)) (fun _ _ _ h => h) (Or.inl ⟨by rfl, ?_⟩) ?_ ?_
       rotate_left
       ·intro w'
        go_simp
        with_reducible rfl
       rotate_left
       ·simp only [Act.put, List.setIfInBounds_toArray, List.set_cons_zero, List.set_cons_succ, i64_w, i32_w]
        rfl
       refine pure_ (i := 16) (N := some 81) (v := ?_) (a' := ?_) #[tT,tT,tT,tT,tT,tT,tT,tT,tT,tT,tT,tT,tT,tT,tT,tT,tT,fF,fF] rfl rfl (any_of HT_.out (by kernel_rfl)) (fun _ _ _ h => h) (Or.inl ⟨by rfl, ?_⟩) ?_ ?_
       rotate_left
       ·intro w'
        go_simp
        with_reducible rfl
       rotate_left
       ·simp only [Act.put, List.setIfInBounds_toArray, List.set_cons_zero, List.set_cons_succ, i64_w, i32_w]
        rfl
       refine pure_ (i := 17) (N := some 82) (v := ?_) (a' := ?_) #[tT,tT,tT,tT,tT,tT,tT,tT,tT,tT,tT,tT,tT,tT,tT,tT,tT,tT,fF] rfl rfl (any_of HT_.out (by kernel_rfl)) (fun _ _ _ h => h) (Or.inl ⟨by rfl, ?_⟩) ?_ ?_
       rotate_left
       ·intro w'
        go_simp
        with_reducible rfl
       rotate_left
       ·simp only [Act.put, List.setIfInBounds_toArray, List.set_cons_zero, List.set_cons_succ, i64_w, i32_w]
        rfl
       refine pure_ (i := 18) (N := some 6) (v := ?_) (a' := ?_) #[tT,tT,tT,tT,tT,tT,tT,tT,tT,tT,tT,tT,tT,tT,tT,tT,tT,tT,tT] rfl rfl (any_of HT_.out (by kernel_rfl)) (fun _ _ _ h => h) (Or.inl ⟨by rfl, ?_⟩) ?_ ?_
       rotate_left
       ·intro w'
        go_simp
        with_reducible rfl
       rotate_left
       ·simp only [Act.put, List.setIfInBounds_toArray, List.set_cons_zero, List.set_cons_succ, i64_w, i32_w]
        rfl
       refine done_ (done_of HT_.out (by kernel_rfl)) ?_
       try go_wp2
       go_ret
       exact ⟨by first | rfl | (simp [errW_none, errW_some] <;> rfl) | (simp [*, errW_none, errW_some] <;> rfl), by repeat (first | (with_reducible first | exact HB.out | apply below_alloc | apply pw_below_drewN | apply below_drew1 | refine below_set ?_ GE700.out | refine below_set ?_ GE706.out) | exact HB.out)⟩
     ·rw [if_neg c54] at H
      exact absurd H (by simp)
end Go.Proofs.Ytfmfojogcghkkaa.P
