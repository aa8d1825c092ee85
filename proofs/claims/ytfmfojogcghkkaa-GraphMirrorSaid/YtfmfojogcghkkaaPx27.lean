-- Laid by a program of this session (wip/tools/genx.py) out of the kit's print of the translation.
import Derived.Test.YtfmfojogcghkkaaPx0
import Derived.Test.YtfmfojogcghkkaaPx1
import Derived.Test.YtfmfojogcghkkaaPx9
import Derived.Test.YtfmfojogcghkkaaPx10
import Derived.Test.YtfmfojogcghkkaaPx12
import Derived.Test.YtfmfojogcghkkaaPx13
import Derived.Test.YtfmfojogcghkkaaPx21
import Derived.Test.YtfmfojogcghkkaaPx22
import Derived.Test.YtfmfojogcghkkaaPx26
namespace Go.Proofs.Ytfmfojogcghkkaa.P
open Go.RowKit Go.Proofs.YtfmfojogcghkkaaW.PrintWords Go.Proofs.YtfmfojogcghkkaaW.PrintLast Go.Proofs.YtfmfojogcghkkaaW.PrintMore
attribute [local go_sem] max2_int min2_int max_two min_two max_three min_three max_four min_four   -- for this text's walks alone
set_option linter.unusedVariables false
set_option linter.unusedSimpArgs false

/-! ### billetlaw05_GraphMirror: function 7 -/
def billetlaw05_GraphMirror.l0 : Nat → List Bool → Bool → List Int → List Bool → List Bool → Int → Int → List (S41) → Int → List (S41) → Option (Bool)
 | 0, _, _, _, _, _, _, _, _, _, _ => none
 | k + 1, x2, x7, x9, x11, x12, x13, x402000, x402001, x410000, x410001 => if x13 < x402000 then (if x13 < (x2.length : Int) then (if 0 ≤ x13 then (if x13 < (x11.length : Int) then ((some (x11.set (x13 : Int).toNat (rdOf false x2 x13) : List Bool)).bind fun y417 => (if x13 < (x12.length : Int) then (billetlaw05_GraphMirror.l0 k x2 x7 x9 y417 (x12.set (x13 : Int).toNat (!(rdOf false y417 x13))) (wrap64 (x13 + 1)) x402000 x402001 x410000 x410001) else (none))) else (none)) else (none)) else (if 0 ≤ x13 then (if x13 < (x11.length : Int) then ((some (x11.set (x13 : Int).toNat false : List Bool)).bind fun y420 => (if x13 < (x12.length : Int) then (billetlaw05_GraphMirror.l0 k x2 x7 x9 y420 (x12.set (x13 : Int).toNat (!(rdOf false y420 x13))) (wrap64 (x13 + 1)) x402000 x402001 x410000 x410001) else (none))) else (none)) else (none))) else (if x7 = true then ((graph_Right.f k x410000 x410001).bind fun t423 => (if t423 = true then ((graph_Good.f k x410000 x410001 x9 1 0).bind fun t424 => (if t424 = true then ((graph_Value.f k x410000 x410001 x9 1).bind fun t425 => ((graph_Value.f k x402000 x402001 x9 0).bind fun t426 => (if t425 = t426 then ((graph_Cut.f k x410000 x410001 x12).bind fun t427 => ((graph_Cut.f k x402000 x402001 x11).bind fun t428 => (some (t427 == t428)))) else (some false)))) else (some false))) else (some false))) else (some false))
def billetlaw05_GraphMirror.f (k : Nat) (a0_0 : Int) (l0_1 : List (S41)) (l1 : List Int) (l2 : List Bool) : Option (Bool) := (billetlaw05_awake.f k).bind fun t396 => ((billetlaw05_Fit.f k a0_0 l0_1).bind fun bt397 => ((billetlaw05_Flow.f k bt397.1 bt397.2 l1).bind fun t402 => ((billetlaw05_mirrored.f k bt397.1 bt397.2).bind fun bt405 => (if 0 ≤ bt397.1 then (if (bt397.1 : Int).toNat ≤ 281474976710656 then (billetlaw05_GraphMirror.l0 k l2 t396 t402 (List.replicate (bt397.1 : Int).toNat false) (List.replicate (bt397.1 : Int).toNat false) 0 bt397.1 bt397.2 bt405.1 bt405.2) else (none)) else (none)))))
theorem billetlaw05_GraphMirror.mono_l : ∀ k, (∀ y0 y1 y2 y3 y4 y5 y6 y7 y8 y9, LeO (billetlaw05_GraphMirror.l0 k y0 y1 y2 y3 y4 y5 y6 y7 y8 y9) (billetlaw05_GraphMirror.l0 (k + 1) y0 y1 y2 y3 y4 y5 y6 y7 y8 y9))
 | 0 => fun _ _ _ _ _ _ _ _ _ _ r h => by simp [billetlaw05_GraphMirror.l0] at h
 | k + 1 => by
  have ih0 := billetlaw05_GraphMirror.mono_l k
  ·intro y0 y1 y2 y3 y4 y5 y6 y7 y8 y9
   unfold billetlaw05_GraphMirror.l0
   repeat' first
   | (with_reducible exact ih0 _ _ _ _ _ _ _ _ _ _)
   | (with_reducible exact billetlaw05_Fit.mono _ _ _)
   | (with_reducible exact billetlaw05_Flow.mono _ _ _ _)
   | (with_reducible exact billetlaw05_awake.mono _)
   | (with_reducible exact billetlaw05_mirrored.mono _ _ _)
   | (with_reducible exact graph_Cut.mono _ _ _ _)
   | (with_reducible exact graph_Good.mono _ _ _ _ _ _)
   | (with_reducible exact graph_Right.mono _ _ _)
   | (with_reducible exact graph_Value.mono _ _ _ _ _)
   | (with_reducible exact LeO.refl _)
   | (with_reducible exact LeO.none _)
   | (with_reducible refine LeO.ite ?_ ?_)
   | (with_reducible refine LeO.bind ?_ (fun _ => ?_))
   | exact ih0 _ _ _ _ _ _ _ _ _ _
   | exact billetlaw05_Fit.mono _ _ _
   | exact billetlaw05_Flow.mono _ _ _ _
   | exact billetlaw05_awake.mono _
   | exact billetlaw05_mirrored.mono _ _ _
   | exact graph_Cut.mono _ _ _ _
   | exact graph_Good.mono _ _ _ _ _ _
   | exact graph_Right.mono _ _ _
   | exact graph_Value.mono _ _ _ _ _
   | exact LeO.none _
   | refine LeO.ite ?_ ?_
   | refine LeO.bind ?_ (fun _ => ?_)
theorem billetlaw05_GraphMirror.mono : ∀ a0 a1 a2 a3 k, LeO (billetlaw05_GraphMirror.f k a0 a1 a2 a3) (billetlaw05_GraphMirror.f (k + 1) a0 a1 a2 a3) := by
 intro a0 a1 a2 a3 k
 have ih0 := billetlaw05_GraphMirror.mono_l k
 unfold billetlaw05_GraphMirror.f
 repeat' first
   | (with_reducible exact ih0 _ _ _ _ _ _ _ _ _ _)
   | (with_reducible exact billetlaw05_Fit.mono _ _ _)
   | (with_reducible exact billetlaw05_Flow.mono _ _ _ _)
   | (with_reducible exact billetlaw05_awake.mono _)
   | (with_reducible exact billetlaw05_mirrored.mono _ _ _)
   | (with_reducible exact graph_Cut.mono _ _ _ _)
   | (with_reducible exact graph_Good.mono _ _ _ _ _ _)
   | (with_reducible exact graph_Right.mono _ _ _)
   | (with_reducible exact graph_Value.mono _ _ _ _ _)
   | (with_reducible exact LeO.refl _)
   | (with_reducible exact LeO.none _)
   | (with_reducible refine LeO.ite ?_ ?_)
   | (with_reducible refine LeO.bind ?_ (fun _ => ?_))
   | exact ih0 _ _ _ _ _ _ _ _ _ _
   | exact billetlaw05_Fit.mono _ _ _
   | exact billetlaw05_Flow.mono _ _ _ _
   | exact billetlaw05_awake.mono _
   | exact billetlaw05_mirrored.mono _ _ _
   | exact graph_Cut.mono _ _ _ _
   | exact graph_Good.mono _ _ _ _ _ _
   | exact graph_Right.mono _ _ _
   | exact graph_Value.mono _ _ _ _ _
   | exact LeO.none _
   | refine LeO.ite ?_ ?_
   | refine LeO.bind ?_ (fun _ => ?_)
def billetlaw05_GraphMirror.T12 : Bool × List (List Nat × List Nat) := (true, [([], []), ([0], [0]), ([1], [1]), ([2, 1, 1], [1, 2]), ([1, 3], [1, 3]), ([4, 3], [4]), ([5], [5]), ([5], [5]), ([6, 7, 5, 5], [5, 6, 7]), ([5, 8], [5, 8]), ([9, 8], [9]), ([10], [10]), ([10], [10]), ([11, 12, 10, 10], [10, 11, 12]), ([10], [10]), ([10], [10]), ([14, 15, 13, 10], [10, 14, 15]), ([13, 16, 10], [10, 13, 16]), ([10, 17], [10, 17]), ([18, 16], [18]), ([19], [19]), ([19], [19]), ([20, 21, 19, 19], [19, 20, 21]), ([19], [19]), ([19], [19]), ([23, 24, 22, 19], [19, 23, 24]), ([22, 25, 19], [19, 22, 25]), ([19, 26], [19, 26]), ([27, 25, 0, 1, 2, 3, 4, 5, 6, 7, 8, 9, 10, 11, 12, 13, 14, 15, 16, 17, 18, 19, 20, 21, 22, 23, 24, 25, 26, 27], [27])])
def billetlaw05_GraphMirror.B12 : List Nat := [0, 1, 3, 7, 15, 31, 63, 63, 255, 511, 1023, 2047, 2047, 8191, 2047, 2047, 65535, 131071, 262143, 524287, 1048575, 1048575, 4194303, 1048575, 1048575, 33554431, 67108863, 134217727, 268435455]
theorem billetlaw05_GraphMirror.tab12 : rtab .any (opsOf Try.f7 12) = billetlaw05_GraphMirror.T12 := by kernel_rfl
theorem billetlaw05_GraphMirror.bits12 : waitsOk billetlaw05_GraphMirror.T12.2 billetlaw05_GraphMirror.B12 = true := by kernel_rfl
set_option maxHeartbeats 8000000 in
set_option maxRecDepth 100000 in
theorem billetlaw05_GraphMirror.calls (k : Nat) (a0_0 : Int) (A0_1 : Option Addr) (c0_1 : Nat) (l0_1 : List (S41)) (A1 : Option Addr) (c1 : Nat) (l1 : List Int) (A2 : Option Addr) (c2 : Nat) (l2 : List Bool) (r : Bool) (w : World) (hr0_1 : Kd.C k41 w A0_1 l0_1.length l0_1) (hc0_1 : l0_1.length ≤ c0_1) (hr1 : Kd.C (Kd.int .i64) w A1 l1.length l1) (hc1 : l1.length ≤ c1) (hr2 : Kd.C Kd.bool w A2 l2.length l2) (hc2 : l2.length ≤ c2) (h : billetlaw05_GraphMirror.f k a0_0 l0_1 l1 l2 = some r) (hT_ : r = true) :
  Calls Try.prog 7 #[.agg #[.int .i64 a0_0, .slice A0_1 l0_1.length c0_1], .slice A1 l1.length c1, .slice A2 l2.length c2] w fun e w' => e = .returned (.bool r) ∧ Below w.heap.size w w' := by
 have HT_ := Aside0.mk hT_
 clear hT_
 have hu24 := Try.underlying24
 have HR0_1 := Aside0.mk hr0_1
 have HC0_1 := Aside0.mk hc0_1
 clear hr0_1 hc0_1
 have HR1 := Aside0.mk hr1
 have HC1 := Aside0.mk hc1
 clear hr1 hc1
 have HR2 := Aside0.mk hr2
 have HC2 := Aside0.mk hc2
 clear hr2 hc2
 have HB := Aside0.mk (Below.refl w.heap.size w)
 have H : ((billetlaw05_awake.f k).bind fun t396 => ((billetlaw05_Fit.f k a0_0 l0_1).bind fun bt397 => ((billetlaw05_Flow.f k bt397.1 bt397.2 l1).bind fun t402 => ((billetlaw05_mirrored.f k bt397.1 bt397.2).bind fun bt405 => (if 0 ≤ bt397.1 then (if (bt397.1 : Int).toNat ≤ 281474976710656 then (billetlaw05_GraphMirror.l0 k l2 t396 t402 (List.replicate (bt397.1 : Int).toNat false) (List.replicate (bt397.1 : Int).toNat false) 0 bt397.1 bt397.2 bt405.1 bt405.2) else (none)) else (none)))))) = some r := h
 clear h
 replace H := Option.bind_eq_some_iff.mp H
 obtain ⟨t396, A40, H⟩ := H
 replace H : ((billetlaw05_Fit.f k a0_0 l0_1).bind fun bt397 => ((billetlaw05_Flow.f k bt397.1 bt397.2 l1).bind fun t402 => ((billetlaw05_mirrored.f k bt397.1 bt397.2).bind fun bt405 => (if 0 ≤ bt397.1 then (if (bt397.1 : Int).toNat ≤ 281474976710656 then (billetlaw05_GraphMirror.l0 k l2 t396 t402 (List.replicate (bt397.1 : Int).toNat false) (List.replicate (bt397.1 : Int).toNat false) 0 bt397.1 bt397.2 bt405.1 bt405.2) else (none)) else (none))))) = some r := H
 have A4 := Aside0.mk A40
 clear A40
 replace H := Option.bind_eq_some_iff.mp H
 obtain ⟨⟨t397, t398⟩, A50, H⟩ := H
 replace H : ((billetlaw05_Flow.f k t397 t398 l1).bind fun t402 => ((billetlaw05_mirrored.f k t397 t398).bind fun bt405 => (if 0 ≤ t397 then (if (t397 : Int).toNat ≤ 281474976710656 then (billetlaw05_GraphMirror.l0 k l2 t396 t402 (List.replicate (t397 : Int).toNat false) (List.replicate (t397 : Int).toNat false) 0 t397 t398 bt405.1 bt405.2) else (none)) else (none)))) = some r := H
 have A5 := Aside0.mk A50
 clear A50
 replace H := Option.bind_eq_some_iff.mp H
 obtain ⟨t402, A60, H⟩ := H
 replace H : ((billetlaw05_mirrored.f k t397 t398).bind fun bt405 => (if 0 ≤ t397 then (if (t397 : Int).toNat ≤ 281474976710656 then (billetlaw05_GraphMirror.l0 k l2 t396 t402 (List.replicate (t397 : Int).toNat false) (List.replicate (t397 : Int).toNat false) 0 t397 t398 bt405.1 bt405.2) else (none)) else (none))) = some r := H
 have A6 := Aside0.mk A60
 clear A60
 replace H := Option.bind_eq_some_iff.mp H
 obtain ⟨⟨t405, t406⟩, A70, H⟩ := H
 replace H : (if 0 ≤ t397 then (if (t397 : Int).toNat ≤ 281474976710656 then (billetlaw05_GraphMirror.l0 k l2 t396 t402 (List.replicate (t397 : Int).toNat false) (List.replicate (t397 : Int).toNat false) 0 t397 t398 t405 t406) else (none)) else (none)) = some r := H
 have A7 := Aside0.mk A70
 clear A70
 by_cases c8 : 0 ≤ t397
 ·rw [if_pos c8] at H
  have c8b0 := eq_true c8
  have c8b1 : decide (0 ≤ t397) = true := decide_eq_true c8
  clear c8
  by_cases c9 : (t397 : Int).toNat ≤ 281474976710656
  ·rw [if_pos c9] at H
   have c9b0 := eq_true c9
   have c9b1 : decide ((t397 : Int).toNat ≤ 281474976710656) = true := decide_eq_true c9
   clear c9
   obtain ⟨y410, hy410⟩ : ∃ y_ : List Bool, y_ = (List.replicate (t397 : Int).toNat false) := ⟨_, rfl⟩
   replace H : (billetlaw05_GraphMirror.l0 k l2 t396 t402 y410 (List.replicate (t397 : Int).toNat false) 0 t397 t398 t405 t406) = some r := by first | (rw [hy410]; with_reducible exact H) | (have H2_ := (Option.bind_some _ _).symm.trans H; rw [hy410]; with_reducible exact H2_) | (have H2_ := (Option.bind_some _ _).symm.trans H; with_reducible exact H2_) | with_reducible exact H | (rw [hy410]; exact H) | exact H
   have Ny410 := Aside0.mk hy410
   clear hy410
   obtain ⟨y413, hy413⟩ : ∃ y_ : List Bool, y_ = (List.replicate (t397 : Int).toNat false) := ⟨_, rfl⟩
   replace H : (billetlaw05_GraphMirror.l0 k l2 t396 t402 y410 y413 0 t397 t398 t405 t406) = some r := by first | (rw [hy413]; with_reducible exact H) | (have H2_ := (Option.bind_some _ _).symm.trans H; rw [hy413]; with_reducible exact H2_) | (have H2_ := (Option.bind_some _ _).symm.trans H; with_reducible exact H2_) | with_reducible exact H | (rw [hy413]; exact H) | exact H
   have Ny413 := Aside0.mk hy413
   clear hy413
   have H' := Aside0.mk H
   clear H
   go_enter Try.func7, Try.ntmps7
   go_wp2_with (first | ((with_reducible refine gate_dst (N := 3) rfl ?_); refine box_event ?hg (N := 3) ?hd (cs := #[.int .i64 a0_0, .slice A0_1 l0_1.length c0_1]) (t := 24) ?hr ?_; (case hd => rfl); (case hg => rfl); (case hr => first | (go_simp; done) | (go_simp; rfl)); intro gb395 hg w10 hbox hb; have n0_ := Aside0.mk (below_step (by repeat (first | (with_reducible first | exact HB.out | apply below_alloc | apply pw_below_drewN | apply below_drew1) | exact HB.out)) hb); have n1_ := Aside0.mk (hbox); have n2_ := Aside0.mk ((by rw [hg]; exact (below_size (by repeat (first | (with_reducible first | exact HB.out | apply below_alloc | apply pw_below_drewN | apply below_drew1) | exact HB.out))) : w.heap.size ≤ gb395)); have n3_ := Aside0.mk ((by rw [hg]; exact (below_size (by repeat (first | (with_reducible first | exact HB.out | apply below_alloc | apply pw_below_drewN | apply below_drew1) | exact HB.out))) : w.heap.size ≤ gb395)); clear HB; have HB := n0_; have BK395 := n1_; have GW395 := n2_; have GE395 := n3_; clear n0_ n1_ n2_ n3_; clear hb hbox hg) | ((with_reducible refine gate_callee (f := 18) rfl ?_); refine goesL_ (some 14) rfl rfl Try.func18 (by kernel_rfl) rfl #[] rfl (by (try simp only [List.map_toArray, List.map_cons, List.map_nil]); first | done | rfl | (simp only [List.length_drop, List.length_take]; rfl)) ?_; (with_reducible refine (billetlaw05_awake.calls k  t396 _ A4.out).mono ?_); rintro e w11 ⟨rfl, hb⟩; refine ⟨_, rfl, ?_⟩; have n0_ := Aside0.mk (blk_below (g := gb395) (o := .cells #[.int .i64 a0_0, .slice A0_1 l0_1.length c0_1] 24 (0, 0)) (by (with_reducible repeat (first | refine blk_drewN ?_ _ | refine blk_drew ?_ | refine blk_alloc ?_ _)); exact BK395.out) hb); have n1_ := Aside0.mk (below_step (by repeat (first | (with_reducible first | exact HB.out | apply below_alloc | apply pw_below_drewN | apply below_drew1 | refine below_set ?_ GE395.out) | exact HB.out)) hb); clear BK395; clear HB; have BK395 := n0_; have HB := n1_; clear n0_ n1_; (try clear hb); (try clear hb2); (try clear hk); (try clear hi); have hcz12_0 : w11.cell? ⟨gb395, 0, none⟩ = some (.int .i64 a0_0) := (blk_cell BK395.out 0).trans rfl; have hcz12_1 : w11.cell? ⟨gb395, 1, none⟩ = some (.slice A0_1 l0_1.length c0_1) := (blk_cell BK395.out 1).trans rfl; have hfz12_0 := blk_frozen BK395.out 0; have hfz12_1 := blk_frozen BK395.out 1) | ((with_reducible refine gate_callee (f := 30) rfl ?_); refine goesL_ (some 16) rfl rfl Try.func30 (by kernel_rfl) rfl #[.agg #[.int .i64 a0_0, .slice A0_1 l0_1.length c0_1]] rfl (by (try simp only [List.map_toArray, List.map_cons, List.map_nil]); first | done | rfl | (simp only [List.length_drop, List.length_take]; rfl)) ?_; (with_reducible refine (billetlaw05_Fit.calls k a0_0 _ _ l0_1 t397 t398 _ ?side1 ?side2 A5.out).mono ?_); (case side1 => repeat (first | exact (Kd.C_below HR0_1.out HB.out) | (with_reducible refine Kd.C_alloc ?_ _) | (with_reducible refine Kd.C_drewN ?_ _) | (with_reducible refine Kd.C_drew ?_))); (case side2 => exact HC0_1.out); rintro e w13 ⟨v399, rfl, ho0, hb⟩; refine ⟨_, rfl, ?_⟩; have n0_ := Aside0.mk (Kd.R_lower ho0 (below_size (by repeat (first | (with_reducible first | exact HB.out | apply below_alloc | apply pw_below_drewN | apply below_drew1 | refine below_set ?_ GE395.out) | exact HB.out)))); have n1_ := Aside0.mk (blk_below (g := gb395) (o := .cells #[.int .i64 a0_0, .slice A0_1 l0_1.length c0_1] 24 (0, 0)) (by (with_reducible repeat (first | refine blk_drewN ?_ _ | refine blk_drew ?_ | refine blk_alloc ?_ _)); exact BK395.out) hb); have n2_ := Aside0.mk (below_step (by repeat (first | (with_reducible first | exact HB.out | apply below_alloc | apply pw_below_drewN | apply below_drew1 | refine below_set ?_ GE395.out) | exact HB.out)) hb); clear BK395; clear HB; have HO400 := n0_; have BK395 := n1_; have HB := n2_; clear n0_ n1_ n2_; (try clear hb); (try clear hb2); (try clear hk); (try clear hi); (try clear ho0)) | ((with_reducible refine gate_dst (N := 8) rfl ?_); refine box_event ?hg (N := 8) ?hd (cs := #[.int .i64 0, .slice none 0 0]) (t := 24) ?hr ?_; (case hd => rfl); (case hg => rfl); (case hr => first | (go_simp; done) | (go_simp; rfl)); intro gb401 hg w14 hbox hb; have n0_ := Aside0.mk (Kd.R_below (by (with_reducible repeat (first | apply Kd.R_alloc | apply Kd.R_drewN | apply Kd.R_drew)); exact HO400.out) hb); have n1_ := Aside0.mk (blk_below (g := gb395) (o := .cells #[.int .i64 a0_0, .slice A0_1 l0_1.length c0_1] 24 (0, 0)) (by (with_reducible repeat (first | refine blk_drewN ?_ _ | refine blk_drew ?_ | refine blk_alloc ?_ _)); exact BK395.out) hb); have n2_ := Aside0.mk (below_step (by repeat (first | (with_reducible first | exact HB.out | apply below_alloc | apply pw_below_drewN | apply below_drew1 | refine below_set ?_ GE395.out) | exact HB.out)) hb); have n3_ := Aside0.mk (hbox); have n4_ := Aside0.mk ((by rw [hg]; exact (below_size (by repeat (first | (with_reducible first | exact HB.out | apply below_alloc | apply pw_below_drewN | apply below_drew1 | refine below_set ?_ GE395.out) | exact HB.out))) : w.heap.size ≤ gb401)); have n5_ := Aside0.mk ((by rw [hg]; exact (below_size (by repeat (first | (with_reducible first | exact HB.out | apply below_alloc | apply pw_below_drewN | apply below_drew1 | refine below_set ?_ GE395.out) | exact HB.out))) : w.heap.size ≤ gb401)); have n6_ := Aside0.mk ((by rw [hg]; exact Nat.ne_of_lt (blk_lt (g := gb395) (o := .cells #[.int .i64 a0_0, .slice A0_1 l0_1.length c0_1] 24 (0, 0)) (by (with_reducible repeat (first | refine blk_drewN ?_ _ | refine blk_drew ?_ | refine blk_alloc ?_ _)); exact BK395.out)) : gb395 ≠ gb401)); have n7_ := Aside0.mk ((by rw [hg]; exact Nat.ne_of_gt (blk_lt (g := gb395) (o := .cells #[.int .i64 a0_0, .slice A0_1 l0_1.length c0_1] 24 (0, 0)) (by (with_reducible repeat (first | refine blk_drewN ?_ _ | refine blk_drew ?_ | refine blk_alloc ?_ _)); exact BK395.out)) : gb401 ≠ gb395)); clear HO400; clear BK395; clear HB; have HO400 := n0_; have BK395 := n1_; have HB := n2_; have BK401 := n3_; have GW401 := n4_; have GE401 := n5_; have NB395_401 := n6_; have NB401_395 := n7_; clear n0_ n1_ n2_ n3_ n4_ n5_ n6_ n7_; clear hb hbox hg; have hnb15 := NB401_395.out; have hnc15 := NB395_401.out; have hcz16_0 : w14.cell? ⟨gb401, 0, none⟩ = some (.int .i64 0) := (blk_cell BK401.out 0).trans rfl; have hcz16_1 : w14.cell? ⟨gb401, 1, none⟩ = some (.slice none 0 0) := (blk_cell BK401.out 1).trans rfl; have hfz16_0 := blk_frozen BK401.out 0; have hfz16_1 := blk_frozen BK401.out 1; obtain ⟨Ao17, co17, eo17⟩ := Kd.R_slice HO400.out; subst eo17) | ((with_reducible refine gate_callee (f := 31) rfl ?_); refine goesL_ (some 19) rfl rfl Try.func31 (by kernel_rfl) rfl #[.agg #[.int .i64 t397, .slice Ao17 t398.length co17], .slice A1 l1.length c1] rfl (by (try simp only [List.map_toArray, List.map_cons, List.map_nil]); first | done | rfl | (simp only [List.length_drop, List.length_take]; rfl)) ?_; (with_reducible refine (billetlaw05_Flow.calls k t397 _ _ t398 _ _ l1 t402 _ ?side1 ?side2 ?side3 ?side4 A6.out).mono ?_); (case side1 => refine (Kd.R_reads' (e := 41) (base := w.heap.size) (ok := fun k_ => True) (n := t398.length) (c := co17) ?_).2.2; exact (by (with_reducible repeat (first | apply Kd.R_alloc | apply Kd.R_drewN | apply Kd.R_drew)); exact (Kd.R_mono (Kd.R_far (p := ⟨gb401, 1, none⟩) (Kd.R_far (p := ⟨gb401, 0, none⟩) (Kd.R_types HO400.out BK401.out (by decide)) (fun _ hk => hk.2) (.int .i64 t397)) (fun _ hk => hk.2) (.slice Ao17 t398.length co17)) (fun _ h_ => h_.1)))); (case side2 => exact (Kd.R_reads' HO400.out).2.1); (case side3 => exact Kd.C_below HR1.out (by repeat (first | (with_reducible first | exact HB.out | apply below_alloc | apply pw_below_drewN | apply below_drew1 | refine below_set ?_ GE395.out | refine below_set ?_ GE401.out) | exact HB.out))); (case side4 => exact HC1.out); rintro e w18 ⟨v403, rfl, ho0, hb⟩; refine ⟨_, rfl, ?_⟩; have n0_ := Aside0.mk (Kd.R_below (by (with_reducible repeat (first | apply Kd.R_alloc | apply Kd.R_drewN | apply Kd.R_drew)); exact (Kd.R_mono (Kd.R_far (p := ⟨gb401, 1, none⟩) (Kd.R_far (p := ⟨gb401, 0, none⟩) (Kd.R_types HO400.out BK401.out (by decide)) (fun _ hk => hk.2) (.int .i64 t397)) (fun _ hk => hk.2) (.slice Ao17 t398.length co17)) (fun _ h_ => h_.1))) hb); have n1_ := Aside0.mk (Kd.R_lower ho0 (below_size (by repeat (first | (with_reducible first | exact HB.out | apply below_alloc | apply pw_below_drewN | apply below_drew1 | refine below_set ?_ GE395.out | refine below_set ?_ GE401.out) | exact HB.out)))); have n2_ := Aside0.mk (blk_below (g := gb395) (o := .cells #[.int .i64 a0_0, .slice A0_1 l0_1.length c0_1] 24 (0, 0)) (by (with_reducible repeat (first | refine blk_drewN ?_ _ | refine blk_drew ?_ | refine blk_alloc ?_ _)); refine blk_far ?_ NB395_401.out _; (with_reducible repeat (first | refine blk_drewN ?_ _ | refine blk_drew ?_ | refine blk_alloc ?_ _)); refine blk_far ?_ NB395_401.out _; (with_reducible repeat (first | refine blk_drewN ?_ _ | refine blk_drew ?_ | refine blk_alloc ?_ _)); exact BK395.out) hb); have n3_ := Aside0.mk (blk_below (g := gb401) (o := .cells #[.int .i64 t397, .slice Ao17 t398.length co17] 24 (0, 0)) (by (with_reducible repeat (first | refine blk_drewN ?_ _ | refine blk_drew ?_ | refine blk_alloc ?_ _)); refine blk_put (cs := #[.int .i64 t397, .slice none 0 0]) ?_ 1 _ rfl; (with_reducible repeat (first | refine blk_drewN ?_ _ | refine blk_drew ?_ | refine blk_alloc ?_ _)); refine blk_put (cs := #[.int .i64 0, .slice none 0 0]) ?_ 0 _ rfl; (with_reducible repeat (first | refine blk_drewN ?_ _ | refine blk_drew ?_ | refine blk_alloc ?_ _)); exact BK401.out) hb); have n4_ := Aside0.mk (below_step (by repeat (first | (with_reducible first | exact HB.out | apply below_alloc | apply pw_below_drewN | apply below_drew1 | refine below_set ?_ GE395.out | refine below_set ?_ GE401.out) | exact HB.out)) hb); clear HO400; clear BK395; clear BK401; clear HB; have HO400 := n0_; have HO404 := n1_; have BK395 := n2_; have BK401 := n3_; have HB := n4_; clear n0_ n1_ n2_ n3_ n4_; (try clear hb); (try clear hb2); (try clear hk); (try clear hi); (try clear ho0); have hcz19_0 : w18.cell? ⟨gb401, 0, none⟩ = some (.int .i64 t397) := (blk_cell BK401.out 0).trans rfl; have hcz19_1 : w18.cell? ⟨gb401, 1, none⟩ = some (.slice Ao17 t398.length co17) := (blk_cell BK401.out 1).trans rfl; have hfz19_0 := blk_frozen BK401.out 0; have hfz19_1 := blk_frozen BK401.out 1) | ((with_reducible refine gate_callee (f := 33) rfl ?_); refine goesL_ (some 21) rfl rfl Try.func33 (by kernel_rfl) rfl #[.agg #[.int .i64 t397, .slice Ao17 t398.length co17]] rfl (by (try simp only [List.map_toArray, List.map_cons, List.map_nil]); first | done | rfl | (simp only [List.length_drop, List.length_take]; rfl)) ?_; (with_reducible refine (billetlaw05_mirrored.calls k t397 _ _ t398 t405 t406 _ ?side1 ?side2 A7.out).mono ?_); (case side1 => repeat (first | exact (Kd.R_reads' HO400.out).2.2 | (with_reducible refine Kd.C_alloc ?_ _) | (with_reducible refine Kd.C_drewN ?_ _) | (with_reducible refine Kd.C_drew ?_))); (case side2 => exact (Kd.R_reads' HO400.out).2.1); rintro e w20 ⟨v407, rfl, ho0, hb⟩; refine ⟨_, rfl, ?_⟩; have n0_ := Aside0.mk (Kd.R_elder' (by (with_reducible repeat (first | apply Kd.R_alloc | apply Kd.R_drewN | apply Kd.R_drew)); exact HO400.out) (Kd.R_base ho0) hb); have n1_ := Aside0.mk (Kd.R_below (by (with_reducible repeat (first | apply Kd.R_alloc | apply Kd.R_drewN | apply Kd.R_drew)); exact HO404.out) hb); have n2_ := Aside0.mk (Kd.R_lower (Kd.R_new' ho0 (Kd.R_lt (by (with_reducible repeat (first | apply Kd.R_alloc | apply Kd.R_drewN | apply Kd.R_drew)); exact HO400.out))) (below_size (by repeat (first | (with_reducible first | exact HB.out | apply below_alloc | apply pw_below_drewN | apply below_drew1 | refine below_set ?_ GE395.out | refine below_set ?_ GE401.out) | exact HB.out)))); have n3_ := Aside0.mk (blk_below (g := gb395) (o := .cells #[.int .i64 a0_0, .slice A0_1 l0_1.length c0_1] 24 (0, 0)) (by (with_reducible repeat (first | refine blk_drewN ?_ _ | refine blk_drew ?_ | refine blk_alloc ?_ _)); exact BK395.out) hb); have n4_ := Aside0.mk (blk_below (g := gb401) (o := .cells #[.int .i64 t397, .slice Ao17 t398.length co17] 24 (0, 0)) (by (with_reducible repeat (first | refine blk_drewN ?_ _ | refine blk_drew ?_ | refine blk_alloc ?_ _)); exact BK401.out) hb); have n5_ := Aside0.mk (below_step (by repeat (first | (with_reducible first | exact HB.out | apply below_alloc | apply pw_below_drewN | apply below_drew1 | refine below_set ?_ GE395.out | refine below_set ?_ GE401.out) | exact HB.out)) hb); clear HO400; clear HO404; clear BK395; clear BK401; clear HB; have HO400 := n0_; have HO404 := n1_; have HO408 := n2_; have BK395 := n3_; have BK401 := n4_; have HB := n5_; clear n0_ n1_ n2_ n3_ n4_ n5_; (try clear hb); (try clear hb2); (try clear hk); (try clear hi); (try clear ho0)) | ((with_reducible refine gate_dst (N := 10) rfl ?_); refine box_event ?hg (N := 10) ?hd (cs := #[.int .i64 0, .slice none 0 0]) (t := 24) ?hr ?_; (case hd => rfl); (case hg => rfl); (case hr => first | (go_simp; done) | (go_simp; rfl)); intro gb409 hg w21 hbox hb; have n0_ := Aside0.mk (Kd.R_below (by (with_reducible repeat (first | apply Kd.R_alloc | apply Kd.R_drewN | apply Kd.R_drew)); exact HO400.out) hb); have n1_ := Aside0.mk (Kd.R_below (by (with_reducible repeat (first | apply Kd.R_alloc | apply Kd.R_drewN | apply Kd.R_drew)); exact HO404.out) hb); have n2_ := Aside0.mk (Kd.R_below (by (with_reducible repeat (first | apply Kd.R_alloc | apply Kd.R_drewN | apply Kd.R_drew)); exact HO408.out) hb); have n3_ := Aside0.mk (blk_below (g := gb395) (o := .cells #[.int .i64 a0_0, .slice A0_1 l0_1.length c0_1] 24 (0, 0)) (by (with_reducible repeat (first | refine blk_drewN ?_ _ | refine blk_drew ?_ | refine blk_alloc ?_ _)); exact BK395.out) hb); have n4_ := Aside0.mk (blk_below (g := gb401) (o := .cells #[.int .i64 t397, .slice Ao17 t398.length co17] 24 (0, 0)) (by (with_reducible repeat (first | refine blk_drewN ?_ _ | refine blk_drew ?_ | refine blk_alloc ?_ _)); exact BK401.out) hb); have n5_ := Aside0.mk (below_step (by repeat (first | (with_reducible first | exact HB.out | apply below_alloc | apply pw_below_drewN | apply below_drew1 | refine below_set ?_ GE395.out | refine below_set ?_ GE401.out) | exact HB.out)) hb); have n6_ := Aside0.mk (hbox); have n7_ := Aside0.mk ((by rw [hg]; exact (below_size (by repeat (first | (with_reducible first | exact HB.out | apply below_alloc | apply pw_below_drewN | apply below_drew1 | refine below_set ?_ GE395.out | refine below_set ?_ GE401.out) | exact HB.out))) : w.heap.size ≤ gb409)); have n8_ := Aside0.mk ((by rw [hg]; exact (below_size (by repeat (first | (with_reducible first | exact HB.out | apply below_alloc | apply pw_below_drewN | apply below_drew1 | refine below_set ?_ GE395.out | refine below_set ?_ GE401.out) | exact HB.out))) : w.heap.size ≤ gb409)); have n9_ := Aside0.mk ((by rw [hg]; exact Nat.ne_of_lt (blk_lt (g := gb395) (o := .cells #[.int .i64 a0_0, .slice A0_1 l0_1.length c0_1] 24 (0, 0)) (by (with_reducible repeat (first | refine blk_drewN ?_ _ | refine blk_drew ?_ | refine blk_alloc ?_ _)); exact BK395.out)) : gb395 ≠ gb409)); have n10_ := Aside0.mk ((by rw [hg]; exact Nat.ne_of_gt (blk_lt (g := gb395) (o := .cells #[.int .i64 a0_0, .slice A0_1 l0_1.length c0_1] 24 (0, 0)) (by (with_reducible repeat (first | refine blk_drewN ?_ _ | refine blk_drew ?_ | refine blk_alloc ?_ _)); exact BK395.out)) : gb409 ≠ gb395)); have n11_ := Aside0.mk ((by rw [hg]; exact Nat.ne_of_lt (blk_lt (g := gb401) (o := .cells #[.int .i64 t397, .slice Ao17 t398.length co17] 24 (0, 0)) (by (with_reducible repeat (first | refine blk_drewN ?_ _ | refine blk_drew ?_ | refine blk_alloc ?_ _)); exact BK401.out)) : gb401 ≠ gb409)); have n12_ := Aside0.mk ((by rw [hg]; exact Nat.ne_of_gt (blk_lt (g := gb401) (o := .cells #[.int .i64 t397, .slice Ao17 t398.length co17] 24 (0, 0)) (by (with_reducible repeat (first | refine blk_drewN ?_ _ | refine blk_drew ?_ | refine blk_alloc ?_ _)); exact BK401.out)) : gb409 ≠ gb401)); clear HO400; clear HO404; clear HO408; clear BK395; clear BK401; clear HB; have HO400 := n0_; have HO404 := n1_; have HO408 := n2_; have BK395 := n3_; have BK401 := n4_; have HB := n5_; have BK409 := n6_; have GW409 := n7_; have GE409 := n8_; have NB395_409 := n9_; have NB409_395 := n10_; have NB401_409 := n11_; have NB409_401 := n12_; clear n0_ n1_ n2_ n3_ n4_ n5_ n6_ n7_ n8_ n9_ n10_ n11_ n12_; clear hb hbox hg; have hnb22 := NB409_395.out; have hnc22 := NB395_409.out; have hnb23 := NB409_401.out; have hnc23 := NB401_409.out; have hcz24_0 : w21.cell? ⟨gb409, 0, none⟩ = some (.int .i64 0) := (blk_cell BK409.out 0).trans rfl; have hcz24_1 : w21.cell? ⟨gb409, 1, none⟩ = some (.slice none 0 0) := (blk_cell BK409.out 1).trans rfl; have hfz24_0 := blk_frozen BK409.out 0; have hfz24_1 := blk_frozen BK409.out 1; obtain ⟨Ao25, co25, eo25⟩ := Kd.R_slice HO408.out; subst eo25; have hcz26_0 : w21.cell? ⟨gb401, 0, none⟩ = some (.int .i64 t397) := (blk_cell BK401.out 0).trans rfl; have hcz26_1 : w21.cell? ⟨gb401, 1, none⟩ = some (.slice Ao17 t398.length co17) := (blk_cell BK401.out 1).trans rfl; have hfz26_0 := blk_frozen BK401.out 0; have hfz26_1 := blk_frozen BK401.out 1) | ((with_reducible refine gate_dst (N := 24) rfl ?_); refine Kd.R_make Kd.bool _ 4 rfl (N := 24) rfl 26 _ _ rfl t397 rfl rfl Try.underlying26 (.bool false) 1 info4 rfl (by decide) (by omega) false (ok := fun _ => True) (okp := fun _ => True) rfl (fun _ hk => hk) trivial (of_decide_eq_true (by first | (with_reducible assumption) | assumption)) (Nat.le_trans (Nat.mul_le_mul_right _ (of_decide_eq_true (by first | (with_reducible assumption) | assumption) : t397.toNat ≤ 281474976710656)) (by omega)) (Below.refl _ _) (Nat.le_refl _) ?_; intro v411 w27 ho28 hb hg_ hnew_; clear hg_ hnew_; (first | rw [← Ny410.out] at ho28 | (simp only [Int.reduceToNat] at ho28; rw [← Ny410.out] at ho28)); have n0_ := Aside0.mk (Kd.R_below (by (with_reducible repeat (first | apply Kd.R_alloc | apply Kd.R_drewN | apply Kd.R_drew)); exact (Kd.R_mono (Kd.R_far (p := ⟨gb409, 1, none⟩) (Kd.R_far (p := ⟨gb409, 0, none⟩) (Kd.R_types HO400.out BK409.out (by decide)) (fun _ hk => hk.2) (.int .i64 t405)) (fun _ hk => hk.2) (.slice Ao25 t406.length co25)) (fun _ h_ => h_.1))) hb); have n1_ := Aside0.mk (Kd.R_below (by (with_reducible repeat (first | apply Kd.R_alloc | apply Kd.R_drewN | apply Kd.R_drew)); exact (Kd.R_mono (Kd.R_far (p := ⟨gb409, 1, none⟩) (Kd.R_far (p := ⟨gb409, 0, none⟩) (Kd.R_types HO404.out BK409.out (by decide)) (fun _ hk => hk.2) (.int .i64 t405)) (fun _ hk => hk.2) (.slice Ao25 t406.length co25)) (fun _ h_ => h_.1))) hb); have n2_ := Aside0.mk (Kd.R_below (by (with_reducible repeat (first | apply Kd.R_alloc | apply Kd.R_drewN | apply Kd.R_drew)); exact (Kd.R_mono (Kd.R_far (p := ⟨gb409, 1, none⟩) (Kd.R_far (p := ⟨gb409, 0, none⟩) (Kd.R_types HO408.out BK409.out (by decide)) (fun _ hk => hk.2) (.int .i64 t405)) (fun _ hk => hk.2) (.slice Ao25 t406.length co25)) (fun _ h_ => h_.1))) hb); have n3_ := Aside0.mk (Kd.R_lower ho28 (below_size (by repeat (first | (with_reducible first | exact HB.out | apply below_alloc | apply pw_below_drewN | apply below_drew1 | refine below_set ?_ GE395.out | refine below_set ?_ GE401.out | refine below_set ?_ GE409.out) | exact HB.out)))); have n4_ := Aside0.mk (blk_below (g := gb395) (o := .cells #[.int .i64 a0_0, .slice A0_1 l0_1.length c0_1] 24 (0, 0)) (by (with_reducible repeat (first | refine blk_drewN ?_ _ | refine blk_drew ?_ | refine blk_alloc ?_ _)); refine blk_far ?_ NB395_409.out _; (with_reducible repeat (first | refine blk_drewN ?_ _ | refine blk_drew ?_ | refine blk_alloc ?_ _)); refine blk_far ?_ NB395_409.out _; (with_reducible repeat (first | refine blk_drewN ?_ _ | refine blk_drew ?_ | refine blk_alloc ?_ _)); exact BK395.out) hb); have n5_ := Aside0.mk (blk_below (g := gb401) (o := .cells #[.int .i64 t397, .slice Ao17 t398.length co17] 24 (0, 0)) (by (with_reducible repeat (first | refine blk_drewN ?_ _ | refine blk_drew ?_ | refine blk_alloc ?_ _)); refine blk_far ?_ NB401_409.out _; (with_reducible repeat (first | refine blk_drewN ?_ _ | refine blk_drew ?_ | refine blk_alloc ?_ _)); refine blk_far ?_ NB401_409.out _; (with_reducible repeat (first | refine blk_drewN ?_ _ | refine blk_drew ?_ | refine blk_alloc ?_ _)); exact BK401.out) hb); have n6_ := Aside0.mk (blk_below (g := gb409) (o := .cells #[.int .i64 t405, .slice Ao25 t406.length co25] 24 (0, 0)) (by (with_reducible repeat (first | refine blk_drewN ?_ _ | refine blk_drew ?_ | refine blk_alloc ?_ _)); refine blk_put (cs := #[.int .i64 t405, .slice none 0 0]) ?_ 1 _ rfl; (with_reducible repeat (first | refine blk_drewN ?_ _ | refine blk_drew ?_ | refine blk_alloc ?_ _)); refine blk_put (cs := #[.int .i64 0, .slice none 0 0]) ?_ 0 _ rfl; (with_reducible repeat (first | refine blk_drewN ?_ _ | refine blk_drew ?_ | refine blk_alloc ?_ _)); exact BK409.out) hb); have n7_ := Aside0.mk (below_step (by repeat (first | (with_reducible first | exact HB.out | apply below_alloc | apply pw_below_drewN | apply below_drew1 | refine below_set ?_ GE395.out | refine below_set ?_ GE401.out | refine below_set ?_ GE409.out) | exact HB.out)) hb); clear HO400; clear HO404; clear HO408; clear BK395; clear BK401; clear BK409; clear HB; have HO400 := n0_; have HO404 := n1_; have HO408 := n2_; have HO412 := n3_; have BK395 := n4_; have BK401 := n5_; have BK409 := n6_; have HB := n7_; clear n0_ n1_ n2_ n3_ n4_ n5_ n6_ n7_; clear hb ho28; have hcz29_0 : w27.cell? ⟨gb401, 0, none⟩ = some (.int .i64 t397) := (blk_cell BK401.out 0).trans rfl; have hcz29_1 : w27.cell? ⟨gb401, 1, none⟩ = some (.slice Ao17 t398.length co17) := (blk_cell BK401.out 1).trans rfl; have hfz29_0 := blk_frozen BK401.out 0; have hfz29_1 := blk_frozen BK401.out 1) | ((with_reducible refine gate_dst (N := 27) rfl ?_); refine Kd.R_make Kd.bool _ 4 rfl (N := 27) rfl 26 _ _ rfl t397 rfl rfl Try.underlying26 (.bool false) 1 info4 rfl (by decide) (by omega) false (ok := fun _ => True) (okp := fun _ => True) rfl (fun _ hk => hk) trivial (of_decide_eq_true (by first | (with_reducible assumption) | assumption)) (Nat.le_trans (Nat.mul_le_mul_right _ (of_decide_eq_true (by first | (with_reducible assumption) | assumption) : t397.toNat ≤ 281474976710656)) (by omega)) (Below.refl _ _) (Nat.le_refl _) ?_; intro v414 w30 ho31 hb hg_ hnew_; clear hg_ hnew_; (first | rw [← Ny413.out] at ho31 | (simp only [Int.reduceToNat] at ho31; rw [← Ny413.out] at ho31)); have n0_ := Aside0.mk (Kd.R_below (by (with_reducible repeat (first | apply Kd.R_alloc | apply Kd.R_drewN | apply Kd.R_drew)); exact HO400.out) hb); have n1_ := Aside0.mk (Kd.R_below (by (with_reducible repeat (first | apply Kd.R_alloc | apply Kd.R_drewN | apply Kd.R_drew)); exact HO404.out) hb); have n2_ := Aside0.mk (Kd.R_below (by (with_reducible repeat (first | apply Kd.R_alloc | apply Kd.R_drewN | apply Kd.R_drew)); exact HO408.out) hb); have n3_ := Aside0.mk (Kd.R_elder' (by (with_reducible repeat (first | apply Kd.R_alloc | apply Kd.R_drewN | apply Kd.R_drew)); exact HO412.out) (Kd.R_base ho31) hb); have n4_ := Aside0.mk (Kd.R_lower (Kd.R_new' ho31 (Kd.R_lt (by (with_reducible repeat (first | apply Kd.R_alloc | apply Kd.R_drewN | apply Kd.R_drew)); exact HO412.out))) (below_size (by repeat (first | (with_reducible first | exact HB.out | apply below_alloc | apply pw_below_drewN | apply below_drew1 | refine below_set ?_ GE395.out | refine below_set ?_ GE401.out | refine below_set ?_ GE409.out) | exact HB.out)))); have n5_ := Aside0.mk (blk_below (g := gb395) (o := .cells #[.int .i64 a0_0, .slice A0_1 l0_1.length c0_1] 24 (0, 0)) (by (with_reducible repeat (first | refine blk_drewN ?_ _ | refine blk_drew ?_ | refine blk_alloc ?_ _)); exact BK395.out) hb); have n6_ := Aside0.mk (blk_below (g := gb401) (o := .cells #[.int .i64 t397, .slice Ao17 t398.length co17] 24 (0, 0)) (by (with_reducible repeat (first | refine blk_drewN ?_ _ | refine blk_drew ?_ | refine blk_alloc ?_ _)); exact BK401.out) hb); have n7_ := Aside0.mk (blk_below (g := gb409) (o := .cells #[.int .i64 t405, .slice Ao25 t406.length co25] 24 (0, 0)) (by (with_reducible repeat (first | refine blk_drewN ?_ _ | refine blk_drew ?_ | refine blk_alloc ?_ _)); exact BK409.out) hb); have n8_ := Aside0.mk (below_step (by repeat (first | (with_reducible first | exact HB.out | apply below_alloc | apply pw_below_drewN | apply below_drew1 | refine below_set ?_ GE395.out | refine below_set ?_ GE401.out | refine below_set ?_ GE409.out) | exact HB.out)) hb); clear HO400; clear HO404; clear HO408; clear HO412; clear BK395; clear BK401; clear BK409; clear HB; have HO400 := n0_; have HO404 := n1_; have HO408 := n2_; have HO412 := n3_; have HO415 := n4_; have BK395 := n5_; have BK401 := n6_; have BK409 := n7_; have HB := n8_; clear n0_ n1_ n2_ n3_ n4_ n5_ n6_ n7_ n8_; clear hb ho31))
   go_loopg [13] k (fun kq v13 w' => ∃ (x11_1 : List Bool) (x12_1 : List Bool) (x13_1 : Int), v13 = .int .i64 x13_1 ∧ Aside0 (billetlaw05_GraphMirror.l0 kq l2 t396 t402 x11_1 x12_1 x13_1 t397 t398 t405 t406 = some r) ∧ Aside0 (kq ≤ k) ∧ Aside0 (Kd.R (Kd.int .i64) 3 w' w.heap.size (fun _ => True) v403 t402) ∧ Aside0 (Kd.R Kd.bool 4 w' w.heap.size (fun k_ => some k_ ≠ (v414 : Value).ownBlock) v411 x11_1) ∧ Aside0 (Kd.R Kd.bool 4 w' w.heap.size (fun k_ => some k_ ≠ (v411 : Value).ownBlock) v414 x12_1) ∧ Aside0 (Kd.R k41 41 w' w.heap.size (fun k_ => some k_ ≠ ((.slice Ao25 t406.length co25) : Value).ownBlock) (.slice Ao17 t398.length co17) t398) ∧ Aside0 (Kd.R k41 41 w' w.heap.size (fun k_ => some k_ ≠ ((.slice Ao17 t398.length co17) : Value).ownBlock) (.slice Ao25 t406.length co25) t406) ∧ Aside0 (w'.heap[gb395]? = some (.cells #[.int .i64 a0_0, (.slice A0_1 l0_1.length c0_1)] 24 (0, 0))) ∧ Aside0 (w'.heap[gb401]? = some (.cells #[.int .i64 t397, (.slice Ao17 t398.length co17)] 24 (0, 0))) ∧ Aside0 (w'.heap[gb409]? = some (.cells #[.int .i64 t405, (.slice Ao25 t406.length co25)] 24 (0, 0))) ∧ Aside0 (Below w.heap.size w w'))
   case atStart => exact ⟨(y410), (y413), (0), (by first | rfl | (simp; done) | (simp [*]; done)), H', ⟨Nat.le_refl _⟩, ⟨by (with_reducible repeat (first | apply Kd.R_alloc | apply Kd.R_drewN | apply Kd.R_drew)); exact HO404.out⟩, ⟨by (with_reducible repeat (first | apply Kd.R_alloc | apply Kd.R_drewN | apply Kd.R_drew)); exact Kd.R_mono HO412.out (fun _ hk => hk.2)⟩, ⟨by (with_reducible repeat (first | apply Kd.R_alloc | apply Kd.R_drewN | apply Kd.R_drew)); exact Kd.R_mono HO415.out (fun _ hk => hk.2)⟩, ⟨by (with_reducible repeat (first | apply Kd.R_alloc | apply Kd.R_drewN | apply Kd.R_drew)); exact Kd.R_mono HO400.out (fun _ hk => hk.2)⟩, ⟨by (with_reducible repeat (first | apply Kd.R_alloc | apply Kd.R_drewN | apply Kd.R_drew)); exact Kd.R_mono HO408.out (fun _ hk => hk.2)⟩, ⟨by (with_reducible repeat (first | refine blk_drewN ?_ _ | refine blk_drew ?_ | refine blk_alloc ?_ _)); exact BK395.out⟩, ⟨by (with_reducible repeat (first | refine blk_drewN ?_ _ | refine blk_drew ?_ | refine blk_alloc ?_ _)); exact BK401.out⟩, ⟨by (with_reducible repeat (first | refine blk_drewN ?_ _ | refine blk_drew ?_ | refine blk_alloc ?_ _)); exact BK409.out⟩, ⟨by repeat (first | (with_reducible first | exact HB.out | apply below_alloc | apply pw_below_drewN | apply below_drew1 | refine below_set ?_ GE395.out | refine below_set ?_ GE401.out | refine below_set ?_ GE409.out) | exact HB.out)⟩⟩
   case round =>
    clear H'
    try clear c1
    try clear c2
    try clear p2
    try clear c3
    try clear c7
    try clear c8
    try clear c8b0
    try clear c8b1
    try clear c9
    try clear c9b0
    try clear c9b1
    try clear c15
    try clear c18
    try clear c22
    try clear c23
    try clear c30
    try clear c31
    try clear hcz12_0
    try clear hcz12_1
    try clear hcz16_0
    try clear hcz16_1
    try clear hcz19_0
    try clear hcz19_1
    try clear hcz24_0
    try clear hcz24_1
    try clear hcz26_0
    try clear hcz26_1
    try clear hcz29_0
    try clear hcz29_1
    try clear hfz12_0
    try clear hfz12_1
    try clear hfz16_0
    try clear hfz16_1
    try clear hfz19_0
    try clear hfz19_1
    try clear hfz24_0
    try clear hfz24_1
    try clear hfz26_0
    try clear hfz26_1
    try clear hfz29_0
    try clear hfz29_1
    obtain ⟨x11_1, x12_1, x13_1, rfl, HA, HK1, HO_9, HO_11, HO_12, HO_402001, HO_410001, BK395, BK401, BK409, HB⟩ := hrel
    cases gk with
    | zero => exact absurd HA.out (by simp [billetlaw05_GraphMirror.l0])
    | succ k1 =>
     have H := HA.out
     clear HA
     simp only [billetlaw05_GraphMirror.l0] at H
     by_cases c32 : x13_1 < t397
     ·rw [if_pos c32] at H
      have c32b0 : decide (x13_1 < t397) = true := decide_eq_true c32
      clear c32
      by_cases c33 : x13_1 < (l2.length : Int)
      ·rw [if_pos c33] at H
       have c33b0 : decide (x13_1 < (l2.length : Int)) = true := decide_eq_true c33
       clear c33
       by_cases c34 : 0 ≤ x13_1
       ·rw [if_pos c34] at H
        have c34b0 : decide (0 ≤ x13_1) = true := decide_eq_true c34
        clear c34
        by_cases c35 : x13_1 < (x11_1.length : Int)
        ·rw [if_pos c35] at H
         have c35b0 : decide (x13_1 < (x11_1.length : Int)) = true := decide_eq_true c35
         clear c35
         obtain ⟨y417, hy417⟩ : ∃ y_ : List Bool, y_ = (x11_1.set (x13_1 : Int).toNat (rdOf false l2 x13_1)) := ⟨_, rfl⟩
         replace H : (if x13_1 < (x12_1.length : Int) then (billetlaw05_GraphMirror.l0 k1 l2 t396 t402 y417 (x12_1.set (x13_1 : Int).toNat (!(rdOf false y417 x13_1))) (wrap64 (x13_1 + 1)) t397 t398 t405 t406) else (none)) = some r := by first | (rw [hy417]; with_reducible exact H) | (have H2_ := (Option.bind_some _ _).symm.trans H; rw [hy417]; with_reducible exact H2_) | (have H2_ := (Option.bind_some _ _).symm.trans H; with_reducible exact H2_) | with_reducible exact H | (rw [hy417]; exact H) | exact H
         have Ny417 := Aside0.mk hy417
         clear hy417
         by_cases c37 : x13_1 < (x12_1.length : Int)
         ·rw [if_pos c37] at H
          have c37b0 : decide (x13_1 < (x12_1.length : Int)) = true := decide_eq_true c37
          clear c37
          obtain ⟨y419, hy419⟩ : ∃ y_ : List Bool, y_ = (x12_1.set (x13_1 : Int).toNat (!(rdOf false y417 x13_1))) := ⟨_, rfl⟩
          replace H : (billetlaw05_GraphMirror.l0 k1 l2 t396 t402 y417 y419 (wrap64 (x13_1 + 1)) t397 t398 t405 t406) = some r := by first | (rw [hy419]; with_reducible exact H) | (have H2_ := (Option.bind_some _ _).symm.trans H; rw [hy419]; with_reducible exact H2_) | (have H2_ := (Option.bind_some _ _).symm.trans H; with_reducible exact H2_) | with_reducible exact H | (rw [hy419]; exact H) | exact H
          have Ny419 := Aside0.mk hy419
          clear hy419
          have H' := Aside0.mk H
          clear H
          have hnb39 := NB401_395.out
          have hnc39 := NB395_401.out
          have hnb40 := NB401_409.out
          have hnc40 := NB409_401.out
          have hcz41_0 : wr.cell? ⟨gb401, 0, none⟩ = some (.int .i64 t397) := (blk_cell BK401.out 0).trans rfl
          have hcz41_1 : wr.cell? ⟨gb401, 1, none⟩ = some (.slice Ao17 t398.length co17) := (blk_cell BK401.out 1).trans rfl
          have hfz41_0 := blk_frozen BK401.out 0
          have hfz41_1 := blk_frozen BK401.out 1
          have p416 : 0 ≤ (x13_1 : Int) := of_decide_eq_true (by first | (with_reducible assumption) | assumption)
          have q416 : x13_1 < (l2.length : Int) := of_decide_eq_true (by first | (with_reducible assumption) | assumption)
          obtain ⟨ad416, e416, hx416_0⟩ := Kd.at_bool HR2.out x13_1 p416 q416
          cases e416
          replace hx416_0 := (HB.out.cell (World.block_lt_of_cell? w _ hx416_0)).trans hx416_0
          replace p416 := eq_true p416
          replace q416 := eq_true q416
          have p36 : 0 ≤ (x13_1 : Int) := of_decide_eq_true (by first | (with_reducible assumption) | assumption)
          have q36 : (x13_1 : Int) < ((x11_1.length : Int) : Int) := of_decide_eq_true (by first | (with_reducible assumption) | assumption)
          obtain ⟨go36, co36, eo36, gb36, gl36, cl36, HG36⟩ := Kd.R_form HO_11.out (by omega)
          (first | cases eo36 | (injection eo36 with ea_ en_ ec_; (first | subst ea_ | (injection ea_ with ea_; subst ea_)); subst ec_; clear en_))
          have GB36 := Aside0.mk gb36
          have GG36 := Aside0.mk HG36
          clear gb36 gl36 HG36
          obtain ⟨hx36_0, hf36_0⟩ := Kd.R_celln false HO_11.out (x13_1 : Int) p36 q36
          replace p36 := eq_true p36
          replace q36 := eq_true q36
          have HP42 := Kd.R_putg HO_11.out (x13_1 : Int) (rdOf false l2 x13_1)
          go_wp2_with (first | ((with_reducible refine gate_store (t := 4) (p := 46) rfl ?_); refine store_event (t := 4) (p := 46) (v := ?vo_w43) (w1 := (wr.setCell ⟨go36, (x13_1 : Int).toNat, none⟩ (.bool (rdOf false l2 x13_1)))) ?hg ?ho ?hn ?hr ?_; (case ho => rfl); (case hg => rfl); (case hn => rfl); (case hr => first | (go_simp; done) | (go_simp; rfl)); intro w43 hw; have hg : wr.grownBy w43 (some go36) := (by rw [hw]; exact HP42.2); have hp_ : Kd.R Kd.bool 4 w43 w.heap.size (fun k_ => some k_ ≠ (v414 : Value).ownBlock) (.slice (some ⟨go36, 0, none⟩) x11_1.length co36) y417 := (by rw [hw, Ny417.out]; exact HP42.1); clear HP42; have n0_ := Aside0.mk (Kd.R_over' (v := (.slice (some ⟨go36, 0, none⟩) x11_1.length co36)) (by (with_reducible repeat (first | apply Kd.R_alloc | apply Kd.R_drewN | apply Kd.R_drew)); exact HO_9.out) (Kd.R_typed HO_11.out) (by decide) hg); have n1_ := Aside0.mk (hp_); have n2_ := Aside0.mk (Kd.R_after (v := (.slice (some ⟨go36, 0, none⟩) x11_1.length co36)) (v1 := (.slice (some ⟨go36, 0, none⟩) x11_1.length co36)) (ok := (fun _ => True)) (by (with_reducible repeat (first | apply Kd.R_alloc | apply Kd.R_drewN | apply Kd.R_drew)); exact Kd.R_mono HO_12.out (fun _ hk => ⟨trivial, hk⟩)) hg (.inl rfl)); have n3_ := Aside0.mk (Kd.R_over' (v := (.slice (some ⟨go36, 0, none⟩) x11_1.length co36)) (by (with_reducible repeat (first | apply Kd.R_alloc | apply Kd.R_drewN | apply Kd.R_drew)); exact HO_402001.out) (Kd.R_typed HO_11.out) (by decide) hg); have n4_ := Aside0.mk (Kd.R_over' (v := (.slice (some ⟨go36, 0, none⟩) x11_1.length co36)) (by (with_reducible repeat (first | apply Kd.R_alloc | apply Kd.R_drewN | apply Kd.R_drew)); exact HO_410001.out) (Kd.R_typed HO_11.out) (by decide) hg); have n5_ := Aside0.mk (blk_grown (g := gb395) (o := .cells #[.int .i64 a0_0, .slice A0_1 l0_1.length c0_1] 24 (0, 0)) (by (with_reducible repeat (first | refine blk_drewN ?_ _ | refine blk_drew ?_ | refine blk_alloc ?_ _)); exact BK395.out) hg (Kd.R_ne HO_11.out BK395.out (by decide))); have n6_ := Aside0.mk (blk_grown (g := gb401) (o := .cells #[.int .i64 t397, .slice Ao17 t398.length co17] 24 (0, 0)) (by (with_reducible repeat (first | refine blk_drewN ?_ _ | refine blk_drew ?_ | refine blk_alloc ?_ _)); exact BK401.out) hg (Kd.R_ne HO_11.out BK401.out (by decide))); have n7_ := Aside0.mk (blk_grown (g := gb409) (o := .cells #[.int .i64 t405, .slice Ao25 t406.length co25] 24 (0, 0)) (by (with_reducible repeat (first | refine blk_drewN ?_ _ | refine blk_drew ?_ | refine blk_alloc ?_ _)); exact BK409.out) hg (Kd.R_ne HO_11.out BK409.out (by decide))); have n8_ := Aside0.mk ((by rw [hw]; exact below_set (HB.out) GB36.out : Below w.heap.size w w43)); clear HO_9; clear HO_11; clear HO_12; clear HO_402001; clear HO_410001; clear BK395; clear BK401; clear BK409; clear HB; have HO_9 := n0_; have HO_11 := n1_; have HO_12 := n2_; have HO_402001 := n3_; have HO_410001 := n4_; have BK395 := n5_; have BK401 := n6_; have BK409 := n7_; have HB := n8_; clear n0_ n1_ n2_ n3_ n4_ n5_ n6_ n7_ n8_; clear hg hw hp_; have p418 : 0 ≤ (x13_1 : Int) := of_decide_eq_true (by first | (with_reducible assumption) | assumption); have q418 : x13_1 < (y417.length : Int) := (by have h_ : (x13_1 : Int) < ((x11_1.length : Int) : Int) := of_decide_eq_true (by first | (with_reducible assumption) | assumption); first | (have e_ := (Kd.R_reads' HO_11.out).1; omega) | simpa only [Ny417.out, List.length_set] using h_); have ql418 : ((x13_1 : Int) < ((x11_1.length : Int) : Int)) = True := eq_true (of_decide_eq_true (by first | (with_reducible assumption) | assumption)); obtain ⟨ad418, e418, hx418_0⟩ := Kd.at_bool (Kd.R_reads' HO_11.out).2.2 x13_1 p418 q418; obtain rfl : (⟨go36, 0, none⟩ : Addr) = ad418 := (by injection e418); (first | simp only [add_plain] at hx418_0 | simp only [add_at] at hx418_0 | simp only [Addr.add, Nat.zero_add] at hx418_0 | skip); replace p418 := eq_true p418; replace q418 := eq_true q418; have p38 : 0 ≤ (x13_1 : Int) := of_decide_eq_true (by first | (with_reducible assumption) | assumption); have q38 : (x13_1 : Int) < ((x12_1.length : Int) : Int) := of_decide_eq_true (by first | (with_reducible assumption) | assumption); obtain ⟨go38, co38, eo38, gb38, gl38, cl38, HG38⟩ := Kd.R_form HO_12.out (by omega); (first | cases eo38 | (injection eo38 with ea_ en_ ec_; (first | subst ea_ | (injection ea_ with ea_; subst ea_)); subst ec_; clear en_)); have GB38 := Aside0.mk gb38; have GG38 := Aside0.mk HG38; clear gb38 gl38 HG38; obtain ⟨hx38_0, hf38_0⟩ := Kd.R_celln false HO_12.out (x13_1 : Int) p38 q38; replace p38 := eq_true p38; replace q38 := eq_true q38; have n_ := Aside0.mk (Kd.R_mono (ok' := (fun k_ => some k_ ≠ (.slice (some ⟨go36, 0, none⟩) x11_1.length co36 : Value).ownBlock)) HO_12.out (fun k_ hk => hk.2)); clear HO_12; have HO_12 := n_; clear n_; obtain ⟨hy44_, hz44_⟩ := Kd.R_celln false HO_12.out (x13_1 : Int) (of_decide_eq_true (by first | (with_reducible assumption) | assumption)) (of_decide_eq_true (by first | (with_reducible assumption) | assumption)); have HP44 := Kd.R_putg HO_12.out (x13_1 : Int) (!(rdOf false y417 x13_1))) | ((with_reducible refine gate_store (t := 4) (p := 54) rfl ?_); refine store_event (t := 4) (p := 54) (v := ?vo_w45) (w1 := (w43.setCell ⟨go38, (x13_1 : Int).toNat, none⟩ (.bool (!(rdOf false y417 x13_1))))) ?hg ?ho ?hn ?hr ?_; (case ho => rfl); (case hg => rfl); (case hn => rfl); (case hr => first | (go_simp; done) | (go_simp; rfl)); intro w45 hw; have hg : w43.grownBy w45 (some go38) := (by rw [hw]; exact HP44.2); have hp_ : Kd.R Kd.bool 4 w45 w.heap.size (fun k_ => some k_ ≠ (.slice (some ⟨go36, 0, none⟩) x11_1.length co36 : Value).ownBlock) (.slice (some ⟨go38, 0, none⟩) x12_1.length co38) y419 := (by rw [hw, Ny419.out]; exact HP44.1); clear HP44; have n0_ := Aside0.mk (Kd.R_over' (v := (.slice (some ⟨go38, 0, none⟩) x12_1.length co38)) (by (with_reducible repeat (first | apply Kd.R_alloc | apply Kd.R_drewN | apply Kd.R_drew)); exact HO_9.out) (Kd.R_typed HO_12.out) (by decide) hg); have n1_ := Aside0.mk (Kd.R_after (v := (.slice (some ⟨go38, 0, none⟩) x12_1.length co38)) (v1 := (.slice (some ⟨go38, 0, none⟩) x12_1.length co38)) (ok := (fun _ => True)) (by (with_reducible repeat (first | apply Kd.R_alloc | apply Kd.R_drewN | apply Kd.R_drew)); exact Kd.R_mono HO_11.out (fun _ hk => ⟨trivial, hk⟩)) hg (.inl rfl)); have n2_ := Aside0.mk (hp_); have n3_ := Aside0.mk (Kd.R_over' (v := (.slice (some ⟨go38, 0, none⟩) x12_1.length co38)) (by (with_reducible repeat (first | apply Kd.R_alloc | apply Kd.R_drewN | apply Kd.R_drew)); exact HO_402001.out) (Kd.R_typed HO_12.out) (by decide) hg); have n4_ := Aside0.mk (Kd.R_over' (v := (.slice (some ⟨go38, 0, none⟩) x12_1.length co38)) (by (with_reducible repeat (first | apply Kd.R_alloc | apply Kd.R_drewN | apply Kd.R_drew)); exact HO_410001.out) (Kd.R_typed HO_12.out) (by decide) hg); have n5_ := Aside0.mk (blk_grown (g := gb395) (o := .cells #[.int .i64 a0_0, .slice A0_1 l0_1.length c0_1] 24 (0, 0)) (by (with_reducible repeat (first | refine blk_drewN ?_ _ | refine blk_drew ?_ | refine blk_alloc ?_ _)); exact BK395.out) hg (Kd.R_ne HO_12.out BK395.out (by decide))); have n6_ := Aside0.mk (blk_grown (g := gb401) (o := .cells #[.int .i64 t397, .slice Ao17 t398.length co17] 24 (0, 0)) (by (with_reducible repeat (first | refine blk_drewN ?_ _ | refine blk_drew ?_ | refine blk_alloc ?_ _)); exact BK401.out) hg (Kd.R_ne HO_12.out BK401.out (by decide))); have n7_ := Aside0.mk (blk_grown (g := gb409) (o := .cells #[.int .i64 t405, .slice Ao25 t406.length co25] 24 (0, 0)) (by (with_reducible repeat (first | refine blk_drewN ?_ _ | refine blk_drew ?_ | refine blk_alloc ?_ _)); exact BK409.out) hg (Kd.R_ne HO_12.out BK409.out (by decide))); have n8_ := Aside0.mk ((by rw [hw]; exact below_set (HB.out) GB38.out : Below w.heap.size w w45)); clear HO_9; clear HO_11; clear HO_12; clear HO_402001; clear HO_410001; clear BK395; clear BK401; clear BK409; clear HB; have HO_9 := n0_; have HO_11 := n1_; have HO_12 := n2_; have HO_402001 := n3_; have HO_410001 := n4_; have BK395 := n5_; have BK401 := n6_; have BK409 := n7_; have HB := n8_; clear n0_ n1_ n2_ n3_ n4_ n5_ n6_ n7_ n8_; clear hg hw hp_))
          go_roundg k1
          case measure => have := HK1.out; omega
          case rel => exact ⟨(y417), (y419), (wrap64 (x13_1 + 1)), (by first | rfl | (simp; done) | (simp [*]; done)), H', ⟨by have := HK1.out; omega⟩, ⟨by (with_reducible repeat (first | apply Kd.R_alloc | apply Kd.R_drewN | apply Kd.R_drew)); exact HO_9.out⟩, ⟨by (with_reducible repeat (first | apply Kd.R_alloc | apply Kd.R_drewN | apply Kd.R_drew)); exact Kd.R_mono HO_11.out (fun _ hk => hk.2)⟩, ⟨by (with_reducible repeat (first | apply Kd.R_alloc | apply Kd.R_drewN | apply Kd.R_drew)); exact HO_12.out⟩, ⟨by (with_reducible repeat (first | apply Kd.R_alloc | apply Kd.R_drewN | apply Kd.R_drew)); exact HO_402001.out⟩, ⟨by (with_reducible repeat (first | apply Kd.R_alloc | apply Kd.R_drewN | apply Kd.R_drew)); exact HO_410001.out⟩, ⟨by (with_reducible repeat (first | refine blk_drewN ?_ _ | refine blk_drew ?_ | refine blk_alloc ?_ _)); exact BK395.out⟩, ⟨by (with_reducible repeat (first | refine blk_drewN ?_ _ | refine blk_drew ?_ | refine blk_alloc ?_ _)); exact BK401.out⟩, ⟨by (with_reducible repeat (first | refine blk_drewN ?_ _ | refine blk_drew ?_ | refine blk_alloc ?_ _)); exact BK409.out⟩, ⟨by repeat (first | (with_reducible first | exact HB.out | apply below_alloc | apply pw_below_drewN | apply below_drew1 | refine below_set ?_ GE395.out | refine below_set ?_ GE401.out | refine below_set ?_ GE409.out) | exact HB.out)⟩⟩
         ·rw [if_neg c37] at H
          exact absurd H (by simp)
        ·rw [if_neg c35] at H
         exact absurd H (by simp)
       ·rw [if_neg c34] at H
        exact absurd H (by simp)
      ·rw [if_neg c33] at H
       have c33b0 : decide (x13_1 < (l2.length : Int)) = false := decide_eq_false c33
       clear c33
       by_cases c46 : 0 ≤ x13_1
       ·rw [if_pos c46] at H
        have c46b0 : decide (0 ≤ x13_1) = true := decide_eq_true c46
        clear c46
        by_cases c47 : x13_1 < (x11_1.length : Int)
        ·rw [if_pos c47] at H
         have c47b0 : decide (x13_1 < (x11_1.length : Int)) = true := decide_eq_true c47
         clear c47
         obtain ⟨y420, hy420⟩ : ∃ y_ : List Bool, y_ = (x11_1.set (x13_1 : Int).toNat false) := ⟨_, rfl⟩
         replace H : (if x13_1 < (x12_1.length : Int) then (billetlaw05_GraphMirror.l0 k1 l2 t396 t402 y420 (x12_1.set (x13_1 : Int).toNat (!(rdOf false y420 x13_1))) (wrap64 (x13_1 + 1)) t397 t398 t405 t406) else (none)) = some r := by first | (rw [hy420]; with_reducible exact H) | (have H2_ := (Option.bind_some _ _).symm.trans H; rw [hy420]; with_reducible exact H2_) | (have H2_ := (Option.bind_some _ _).symm.trans H; with_reducible exact H2_) | with_reducible exact H | (rw [hy420]; exact H) | exact H
         have Ny420 := Aside0.mk hy420
         clear hy420
         by_cases c49 : x13_1 < (x12_1.length : Int)
         ·rw [if_pos c49] at H
          have c49b0 : decide (x13_1 < (x12_1.length : Int)) = true := decide_eq_true c49
          clear c49
          obtain ⟨y422, hy422⟩ : ∃ y_ : List Bool, y_ = (x12_1.set (x13_1 : Int).toNat (!(rdOf false y420 x13_1))) := ⟨_, rfl⟩
          replace H : (billetlaw05_GraphMirror.l0 k1 l2 t396 t402 y420 y422 (wrap64 (x13_1 + 1)) t397 t398 t405 t406) = some r := by first | (rw [hy422]; with_reducible exact H) | (have H2_ := (Option.bind_some _ _).symm.trans H; rw [hy422]; with_reducible exact H2_) | (have H2_ := (Option.bind_some _ _).symm.trans H; with_reducible exact H2_) | with_reducible exact H | (rw [hy422]; exact H) | exact H
          have Ny422 := Aside0.mk hy422
          clear hy422
          have H' := Aside0.mk H
          clear H
          have hnb51 := NB401_395.out
          have hnc51 := NB395_401.out
          have hnb52 := NB401_409.out
          have hnc52 := NB409_401.out
          have hcz53_0 : wr.cell? ⟨gb401, 0, none⟩ = some (.int .i64 t397) := (blk_cell BK401.out 0).trans rfl
          have hcz53_1 : wr.cell? ⟨gb401, 1, none⟩ = some (.slice Ao17 t398.length co17) := (blk_cell BK401.out 1).trans rfl
          have hfz53_0 := blk_frozen BK401.out 0
          have hfz53_1 := blk_frozen BK401.out 1
          have p48 : 0 ≤ (x13_1 : Int) := of_decide_eq_true (by first | (with_reducible assumption) | assumption)
          have q48 : (x13_1 : Int) < ((x11_1.length : Int) : Int) := of_decide_eq_true (by first | (with_reducible assumption) | assumption)
          obtain ⟨go48, co48, eo48, gb48, gl48, cl48, HG48⟩ := Kd.R_form HO_11.out (by omega)
          (first | cases eo48 | (injection eo48 with ea_ en_ ec_; (first | subst ea_ | (injection ea_ with ea_; subst ea_)); subst ec_; clear en_))
          have GB48 := Aside0.mk gb48
          have GG48 := Aside0.mk HG48
          clear gb48 gl48 HG48
          obtain ⟨hx48_0, hf48_0⟩ := Kd.R_celln false HO_11.out (x13_1 : Int) p48 q48
          replace p48 := eq_true p48
          replace q48 := eq_true q48
          have HP54 := Kd.R_putg HO_11.out (x13_1 : Int) false
          go_wp2_with (first | ((with_reducible refine gate_store (t := 4) (p := 46) rfl ?_); refine store_event (t := 4) (p := 46) (v := ?vo_w55) (w1 := (wr.setCell ⟨go48, (x13_1 : Int).toNat, none⟩ (.bool false))) ?hg ?ho ?hn ?hr ?_; (case ho => rfl); (case hg => rfl); (case hn => rfl); (case hr => first | (go_simp; done) | (go_simp; rfl)); intro w55 hw; have hg : wr.grownBy w55 (some go48) := (by rw [hw]; exact HP54.2); have hp_ : Kd.R Kd.bool 4 w55 w.heap.size (fun k_ => some k_ ≠ (v414 : Value).ownBlock) (.slice (some ⟨go48, 0, none⟩) x11_1.length co48) y420 := (by rw [hw, Ny420.out]; exact HP54.1); clear HP54; have n0_ := Aside0.mk (Kd.R_over' (v := (.slice (some ⟨go48, 0, none⟩) x11_1.length co48)) (by (with_reducible repeat (first | apply Kd.R_alloc | apply Kd.R_drewN | apply Kd.R_drew)); exact HO_9.out) (Kd.R_typed HO_11.out) (by decide) hg); have n1_ := Aside0.mk (hp_); have n2_ := Aside0.mk (Kd.R_after (v := (.slice (some ⟨go48, 0, none⟩) x11_1.length co48)) (v1 := (.slice (some ⟨go48, 0, none⟩) x11_1.length co48)) (ok := (fun _ => True)) (by (with_reducible repeat (first | apply Kd.R_alloc | apply Kd.R_drewN | apply Kd.R_drew)); exact Kd.R_mono HO_12.out (fun _ hk => ⟨trivial, hk⟩)) hg (.inl rfl)); have n3_ := Aside0.mk (Kd.R_over' (v := (.slice (some ⟨go48, 0, none⟩) x11_1.length co48)) (by (with_reducible repeat (first | apply Kd.R_alloc | apply Kd.R_drewN | apply Kd.R_drew)); exact HO_402001.out) (Kd.R_typed HO_11.out) (by decide) hg); have n4_ := Aside0.mk (Kd.R_over' (v := (.slice (some ⟨go48, 0, none⟩) x11_1.length co48)) (by (with_reducible repeat (first | apply Kd.R_alloc | apply Kd.R_drewN | apply Kd.R_drew)); exact HO_410001.out) (Kd.R_typed HO_11.out) (by decide) hg); have n5_ := Aside0.mk (blk_grown (g := gb395) (o := .cells #[.int .i64 a0_0, .slice A0_1 l0_1.length c0_1] 24 (0, 0)) (by (with_reducible repeat (first | refine blk_drewN ?_ _ | refine blk_drew ?_ | refine blk_alloc ?_ _)); exact BK395.out) hg (Kd.R_ne HO_11.out BK395.out (by decide))); have n6_ := Aside0.mk (blk_grown (g := gb401) (o := .cells #[.int .i64 t397, .slice Ao17 t398.length co17] 24 (0, 0)) (by (with_reducible repeat (first | refine blk_drewN ?_ _ | refine blk_drew ?_ | refine blk_alloc ?_ _)); exact BK401.out) hg (Kd.R_ne HO_11.out BK401.out (by decide))); have n7_ := Aside0.mk (blk_grown (g := gb409) (o := .cells #[.int .i64 t405, .slice Ao25 t406.length co25] 24 (0, 0)) (by (with_reducible repeat (first | refine blk_drewN ?_ _ | refine blk_drew ?_ | refine blk_alloc ?_ _)); exact BK409.out) hg (Kd.R_ne HO_11.out BK409.out (by decide))); have n8_ := Aside0.mk ((by rw [hw]; exact below_set (HB.out) GB48.out : Below w.heap.size w w55)); clear HO_9; clear HO_11; clear HO_12; clear HO_402001; clear HO_410001; clear BK395; clear BK401; clear BK409; clear HB; have HO_9 := n0_; have HO_11 := n1_; have HO_12 := n2_; have HO_402001 := n3_; have HO_410001 := n4_; have BK395 := n5_; have BK401 := n6_; have BK409 := n7_; have HB := n8_; clear n0_ n1_ n2_ n3_ n4_ n5_ n6_ n7_ n8_; clear hg hw hp_; have p421 : 0 ≤ (x13_1 : Int) := of_decide_eq_true (by first | (with_reducible assumption) | assumption); have q421 : x13_1 < (y420.length : Int) := (by have h_ : (x13_1 : Int) < ((x11_1.length : Int) : Int) := of_decide_eq_true (by first | (with_reducible assumption) | assumption); first | (have e_ := (Kd.R_reads' HO_11.out).1; omega) | simpa only [Ny420.out, List.length_set] using h_); have ql421 : ((x13_1 : Int) < ((x11_1.length : Int) : Int)) = True := eq_true (of_decide_eq_true (by first | (with_reducible assumption) | assumption)); obtain ⟨ad421, e421, hx421_0⟩ := Kd.at_bool (Kd.R_reads' HO_11.out).2.2 x13_1 p421 q421; obtain rfl : (⟨go48, 0, none⟩ : Addr) = ad421 := (by injection e421); (first | simp only [add_plain] at hx421_0 | simp only [add_at] at hx421_0 | simp only [Addr.add, Nat.zero_add] at hx421_0 | skip); replace p421 := eq_true p421; replace q421 := eq_true q421; have p50 : 0 ≤ (x13_1 : Int) := of_decide_eq_true (by first | (with_reducible assumption) | assumption); have q50 : (x13_1 : Int) < ((x12_1.length : Int) : Int) := of_decide_eq_true (by first | (with_reducible assumption) | assumption); obtain ⟨go50, co50, eo50, gb50, gl50, cl50, HG50⟩ := Kd.R_form HO_12.out (by omega); (first | cases eo50 | (injection eo50 with ea_ en_ ec_; (first | subst ea_ | (injection ea_ with ea_; subst ea_)); subst ec_; clear en_)); have GB50 := Aside0.mk gb50; have GG50 := Aside0.mk HG50; clear gb50 gl50 HG50; obtain ⟨hx50_0, hf50_0⟩ := Kd.R_celln false HO_12.out (x13_1 : Int) p50 q50; replace p50 := eq_true p50; replace q50 := eq_true q50; have n_ := Aside0.mk (Kd.R_mono (ok' := (fun k_ => some k_ ≠ (.slice (some ⟨go48, 0, none⟩) x11_1.length co48 : Value).ownBlock)) HO_12.out (fun k_ hk => hk.2)); clear HO_12; have HO_12 := n_; clear n_; obtain ⟨hy56_, hz56_⟩ := Kd.R_celln false HO_12.out (x13_1 : Int) (of_decide_eq_true (by first | (with_reducible assumption) | assumption)) (of_decide_eq_true (by first | (with_reducible assumption) | assumption)); have HP56 := Kd.R_putg HO_12.out (x13_1 : Int) (!(rdOf false y420 x13_1))) | ((with_reducible refine gate_store (t := 4) (p := 54) rfl ?_); refine store_event (t := 4) (p := 54) (v := ?vo_w57) (w1 := (w55.setCell ⟨go50, (x13_1 : Int).toNat, none⟩ (.bool (!(rdOf false y420 x13_1))))) ?hg ?ho ?hn ?hr ?_; (case ho => rfl); (case hg => rfl); (case hn => rfl); (case hr => first | (go_simp; done) | (go_simp; rfl)); intro w57 hw; have hg : w55.grownBy w57 (some go50) := (by rw [hw]; exact HP56.2); have hp_ : Kd.R Kd.bool 4 w57 w.heap.size (fun k_ => some k_ ≠ (.slice (some ⟨go48, 0, none⟩) x11_1.length co48 : Value).ownBlock) (.slice (some ⟨go50, 0, none⟩) x12_1.length co50) y422 := (by rw [hw, Ny422.out]; exact HP56.1); clear HP56; have n0_ := Aside0.mk (Kd.R_over' (v := (.slice (some ⟨go50, 0, none⟩) x12_1.length co50)) (by (with_reducible repeat (first | apply Kd.R_alloc | apply Kd.R_drewN | apply Kd.R_drew)); exact HO_9.out) (Kd.R_typed HO_12.out) (by decide) hg); have n1_ := Aside0.mk (Kd.R_after (v := (.slice (some ⟨go50, 0, none⟩) x12_1.length co50)) (v1 := (.slice (some ⟨go50, 0, none⟩) x12_1.length co50)) (ok := (fun _ => True)) (by (with_reducible repeat (first | apply Kd.R_alloc | apply Kd.R_drewN | apply Kd.R_drew)); exact Kd.R_mono HO_11.out (fun _ hk => ⟨trivial, hk⟩)) hg (.inl rfl)); have n2_ := Aside0.mk (hp_); have n3_ := Aside0.mk (Kd.R_over' (v := (.slice (some ⟨go50, 0, none⟩) x12_1.length co50)) (by (with_reducible repeat (first | apply Kd.R_alloc | apply Kd.R_drewN | apply Kd.R_drew)); exact HO_402001.out) (Kd.R_typed HO_12.out) (by decide) hg); have n4_ := Aside0.mk (Kd.R_over' (v := (.slice (some ⟨go50, 0, none⟩) x12_1.length co50)) (by (with_reducible repeat (first | apply Kd.R_alloc | apply Kd.R_drewN | apply Kd.R_drew)); exact HO_410001.out) (Kd.R_typed HO_12.out) (by decide) hg); have n5_ := Aside0.mk (blk_grown (g := gb395) (o := .cells #[.int .i64 a0_0, .slice A0_1 l0_1.length c0_1] 24 (0, 0)) (by (with_reducible repeat (first | refine blk_drewN ?_ _ | refine blk_drew ?_ | refine blk_alloc ?_ _)); exact BK395.out) hg (Kd.R_ne HO_12.out BK395.out (by decide))); have n6_ := Aside0.mk (blk_grown (g := gb401) (o := .cells #[.int .i64 t397, .slice Ao17 t398.length co17] 24 (0, 0)) (by (with_reducible repeat (first | refine blk_drewN ?_ _ | refine blk_drew ?_ | refine blk_alloc ?_ _)); exact BK401.out) hg (Kd.R_ne HO_12.out BK401.out (by decide))); have n7_ := Aside0.mk (blk_grown (g := gb409) (o := .cells #[.int .i64 t405, .slice Ao25 t406.length co25] 24 (0, 0)) (by (with_reducible repeat (first | refine blk_drewN ?_ _ | refine blk_drew ?_ | refine blk_alloc ?_ _)); exact BK409.out) hg (Kd.R_ne HO_12.out BK409.out (by decide))); have n8_ := Aside0.mk ((by rw [hw]; exact below_set (HB.out) GB50.out : Below w.heap.size w w57)); clear HO_9; clear HO_11; clear HO_12; clear HO_402001; clear HO_410001; clear BK395; clear BK401; clear BK409; clear HB; have HO_9 := n0_; have HO_11 := n1_; have HO_12 := n2_; have HO_402001 := n3_; have HO_410001 := n4_; have BK395 := n5_; have BK401 := n6_; have BK409 := n7_; have HB := n8_; clear n0_ n1_ n2_ n3_ n4_ n5_ n6_ n7_ n8_; clear hg hw hp_))
          go_roundg k1
          case measure => have := HK1.out; omega
          case rel => exact ⟨(y420), (y422), (wrap64 (x13_1 + 1)), (by first | rfl | (simp; done) | (simp [*]; done)), H', ⟨by have := HK1.out; omega⟩, ⟨by (with_reducible repeat (first | apply Kd.R_alloc | apply Kd.R_drewN | apply Kd.R_drew)); exact HO_9.out⟩, ⟨by (with_reducible repeat (first | apply Kd.R_alloc | apply Kd.R_drewN | apply Kd.R_drew)); exact Kd.R_mono HO_11.out (fun _ hk => hk.2)⟩, ⟨by (with_reducible repeat (first | apply Kd.R_alloc | apply Kd.R_drewN | apply Kd.R_drew)); exact HO_12.out⟩, ⟨by (with_reducible repeat (first | apply Kd.R_alloc | apply Kd.R_drewN | apply Kd.R_drew)); exact HO_402001.out⟩, ⟨by (with_reducible repeat (first | apply Kd.R_alloc | apply Kd.R_drewN | apply Kd.R_drew)); exact HO_410001.out⟩, ⟨by (with_reducible repeat (first | refine blk_drewN ?_ _ | refine blk_drew ?_ | refine blk_alloc ?_ _)); exact BK395.out⟩, ⟨by (with_reducible repeat (first | refine blk_drewN ?_ _ | refine blk_drew ?_ | refine blk_alloc ?_ _)); exact BK401.out⟩, ⟨by (with_reducible repeat (first | refine blk_drewN ?_ _ | refine blk_drew ?_ | refine blk_alloc ?_ _)); exact BK409.out⟩, ⟨by repeat (first | (with_reducible first | exact HB.out | apply below_alloc | apply pw_below_drewN | apply below_drew1 | refine below_set ?_ GE395.out | refine below_set ?_ GE401.out | refine below_set ?_ GE409.out) | exact HB.out)⟩⟩
         ·rw [if_neg c49] at H
          exact absurd H (by simp)
        ·rw [if_neg c47] at H
         exact absurd H (by simp)
       ·rw [if_neg c46] at H
        exact absurd H (by simp)
     ·rw [if_neg c32] at H
      have c32b0 : decide (x13_1 < t397) = false := decide_eq_false c32
      clear c32
      by_cases c58 : t396 = true
      ·subst c58
       have H1 : ((graph_Right.f k1 t405 t406).bind fun t423 => (if t423 = true then ((graph_Good.f k1 t405 t406 t402 1 0).bind fun t424 => (if t424 = true then ((graph_Value.f k1 t405 t406 t402 1).bind fun t425 => ((graph_Value.f k1 t397 t398 t402 0).bind fun t426 => (if t425 = t426 then ((graph_Cut.f k1 t405 t406 x12_1).bind fun t427 => ((graph_Cut.f k1 t397 t398 x11_1).bind fun t428 => (some (t427 == t428)))) else (some false)))) else (some false))) else (some false))) = some r := by rw [if_pos rfl] at H; exact H
       clear H
       have H := H1
       clear H1
       replace H := Option.bind_eq_some_iff.mp H
       obtain ⟨t423, A590, H⟩ := H
       replace H : (if t423 = true then ((graph_Good.f k1 t405 t406 t402 1 0).bind fun t424 => (if t424 = true then ((graph_Value.f k1 t405 t406 t402 1).bind fun t425 => ((graph_Value.f k1 t397 t398 t402 0).bind fun t426 => (if t425 = t426 then ((graph_Cut.f k1 t405 t406 x12_1).bind fun t427 => ((graph_Cut.f k1 t397 t398 x11_1).bind fun t428 => (some (t427 == t428)))) else (some false)))) else (some false))) else (some false)) = some r := H
       have A59 := Aside0.mk A590
       clear A590
       by_cases c60 : t423 = true
       ·subst c60
        have H1 : ((graph_Good.f k1 t405 t406 t402 1 0).bind fun t424 => (if t424 = true then ((graph_Value.f k1 t405 t406 t402 1).bind fun t425 => ((graph_Value.f k1 t397 t398 t402 0).bind fun t426 => (if t425 = t426 then ((graph_Cut.f k1 t405 t406 x12_1).bind fun t427 => ((graph_Cut.f k1 t397 t398 x11_1).bind fun t428 => (some (t427 == t428)))) else (some false)))) else (some false))) = some r := by rw [if_pos rfl] at H; exact H
        clear H
        have H := H1
        clear H1
        replace H := Option.bind_eq_some_iff.mp H
        obtain ⟨t424, A610, H⟩ := H
        replace H : (if t424 = true then ((graph_Value.f k1 t405 t406 t402 1).bind fun t425 => ((graph_Value.f k1 t397 t398 t402 0).bind fun t426 => (if t425 = t426 then ((graph_Cut.f k1 t405 t406 x12_1).bind fun t427 => ((graph_Cut.f k1 t397 t398 x11_1).bind fun t428 => (some (t427 == t428)))) else (some false)))) else (some false)) = some r := H
        have A61 := Aside0.mk A610
        clear A610
        by_cases c62 : t424 = true
        ·subst c62
         have H1 : ((graph_Value.f k1 t405 t406 t402 1).bind fun t425 => ((graph_Value.f k1 t397 t398 t402 0).bind fun t426 => (if t425 = t426 then ((graph_Cut.f k1 t405 t406 x12_1).bind fun t427 => ((graph_Cut.f k1 t397 t398 x11_1).bind fun t428 => (some (t427 == t428)))) else (some false)))) = some r := by rw [if_pos rfl] at H; exact H
         clear H
         have H := H1
         clear H1
         replace H := Option.bind_eq_some_iff.mp H
         obtain ⟨t425, A630, H⟩ := H
         replace H : ((graph_Value.f k1 t397 t398 t402 0).bind fun t426 => (if t425 = t426 then ((graph_Cut.f k1 t405 t406 x12_1).bind fun t427 => ((graph_Cut.f k1 t397 t398 x11_1).bind fun t428 => (some (t427 == t428)))) else (some false))) = some r := H
         have A63 := Aside0.mk A630
         clear A630
         replace H := Option.bind_eq_some_iff.mp H
         obtain ⟨t426, A640, H⟩ := H
         replace H : (if t425 = t426 then ((graph_Cut.f k1 t405 t406 x12_1).bind fun t427 => ((graph_Cut.f k1 t397 t398 x11_1).bind fun t428 => (some (t427 == t428)))) else (some false)) = some r := H
         have A64 := Aside0.mk A640
         clear A640
         by_cases c65 : t425 = t426
         ·rw [if_pos c65] at H
          have c65b0 : (t425 == t426) = true := beq_iff_eq.mpr c65
          have c65b1 : (t425 != t426) = false := bne_eq_false_iff_eq.mpr c65
          clear c65
          replace H := Option.bind_eq_some_iff.mp H
          obtain ⟨t427, A660, H⟩ := H
          replace H : ((graph_Cut.f k1 t397 t398 x11_1).bind fun t428 => (some (t427 == t428))) = some r := H
          have A66 := Aside0.mk A660
          clear A660
          replace H := Option.bind_eq_some_iff.mp H
          obtain ⟨t428, A670, H⟩ := H
          replace H : (some (t427 == t428)) = some r := H
          have A67 := Aside0.mk A670
          clear A670
          obtain rfl := Option.some.inj H
          have hnb68 := NB401_395.out
          have hnc68 := NB395_401.out
          have hnb69 := NB401_409.out
          have hnc69 := NB409_401.out
          have hcz70_0 : wr.cell? ⟨gb401, 0, none⟩ = some (.int .i64 t397) := (blk_cell BK401.out 0).trans rfl
          have hcz70_1 : wr.cell? ⟨gb401, 1, none⟩ = some (.slice Ao17 t398.length co17) := (blk_cell BK401.out 1).trans rfl
          have hfz70_0 := blk_frozen BK401.out 0
          have hfz70_1 := blk_frozen BK401.out 1
          try go_wp2
          have n0_ := Aside0.mk (Kd.R_drew HO_9.out)
          have n1_ := Aside0.mk (Kd.R_drew HO_11.out)
          have n2_ := Aside0.mk (Kd.R_drew HO_12.out)
          have n3_ := Aside0.mk (Kd.R_drew HO_402001.out)
          have n4_ := Aside0.mk (Kd.R_drew HO_410001.out)
          have n5_ := Aside0.mk (blk_drew BK395.out)
          have n6_ := Aside0.mk (blk_drew BK401.out)
          have n7_ := Aside0.mk (blk_drew BK409.out)
          have n8_ := Aside0.mk (below_drew1 HB.out)
          clear HO_9
          clear HO_11
          clear HO_12
          clear HO_402001
          clear HO_410001
          clear BK395
          clear BK401
          clear BK409
          clear HB
          have HO_9 := n0_
          have HO_11 := n1_
          have HO_12 := n2_
          have HO_402001 := n3_
          have HO_410001 := n4_
          have BK395 := n5_
          have BK401 := n6_
          have BK409 := n7_
          have HB := n8_
          clear n0_ n1_ n2_ n3_ n4_ n5_ n6_ n7_ n8_
          refine start_ (n := 29) (S := fun w' => w'.cell? ⟨gb409, 0, none⟩ = some (.int .i64 t405) ∧ w'.cell? ⟨gb409, 1, none⟩ = some (.slice Ao25 t406.length co25) ∧ w'.cell? ⟨gb401, 0, none⟩ = some (.int .i64 t397) ∧ w'.cell? ⟨gb401, 1, none⟩ = some (.slice Ao17 t398.length co17)) (ds := []) #[false, false, false, false, false, false, false, false, false, false, false, false, false, false, false, false, false, false, false, false, false, false, false, false, false, false, false, false, false] (by kernel_rfl) rfl rfl ⟨(blk_cell BK409.out 0).trans rfl, (blk_cell BK409.out 1).trans rfl, (blk_cell BK401.out 0).trans rfl, (blk_cell BK401.out 1).trans rfl⟩ (fun hHeld => ?_); refine with_tabW billetlaw05_GraphMirror.tab12 billetlaw05_GraphMirror.bits12 (fun HT_ HW_ => ?_)
          generalize wr.drew = w71 at HO_9 HO_11 HO_12 HO_402001 HO_410001 BK395 BK401 BK409 HB hHeld ⊢
          refine pure_ (i := 0) (N := some 55) (v := ?_) (a' := ?_) #[true, false, false, false, false, false, false, false, false, false, false, false, false, false, false, false, false, false, false, false, false, false, false, false, false, false, false, false, false] rfl rfl (any_of HT_.out (by kernel_rfl)) (fun _ _ _ h => h) (Or.inl ⟨by rfl, ?_⟩) ?_ ?_
          rotate_left
          ·intro w'
           go_simp
           with_reducible rfl
          rotate_left
          ·simp only [Act.put, List.setIfInBounds_toArray, List.set_cons_zero, List.set_cons_succ, i64_w, i32_w]
           rfl
          refine pure_ (i := 1) (N := some 56) (v := ?_) (a' := ?_) #[true, true, false, false, false, false, false, false, false, false, false, false, false, false, false, false, false, false, false, false, false, false, false, false, false, false, false, false, false] rfl rfl (any_of HT_.out (by kernel_rfl)) (fun _ _ _ h => h) (Or.inl ⟨by rfl, ?_⟩) ?_ ?_
          rotate_left
          ·intro w'
           go_simp
           with_reducible rfl
          rotate_left
          ·simp only [Act.put, List.setIfInBounds_toArray, List.set_cons_zero, List.set_cons_succ, i64_w, i32_w]
           rfl
          refine take_ (i := 2) (N := some 57) (v := ?_) (a' := ?_) #[true, true, true, false, false, false, false, false, false, false, false, false, false, false, false, false, false, false, false, false, false, false, false, false, false, false, false, false, false] rfl rfl (take_ofW HT_.out HW_.out (by kernel_rfl)) (fun _ _ _ h => h) (Or.inl ⟨by rfl, ?_⟩) hHeld ?_ ?_
          rotate_left
          ·rintro w' ⟨s0, s1, s2, s3⟩
           go_simp
           with_reducible rfl
          rotate_left
          ·simp only [Act.put, List.setIfInBounds_toArray, List.set_cons_zero, List.set_cons_succ, i64_w, i32_w]
           rfl
          refine one_ (i := 3) (N := some 58) #[true, true, true, true, false, false, false, false, false, false, false, false, false, false, false, false, false, false, false, false, false, false, false, false, false, false, false, false, false] rfl rfl (one_of HT_.out (by kernel_rfl)) (by decide) (fun K hK => ?_)
          refine goes_ Try.func19 (by kernel_rfl) rfl #[.agg #[.int .i64 t405, .slice Ao25 t406.length co25]] (by rfl) rfl rfl (by (try simp only [List.map_toArray, List.map_cons, List.map_nil]); first | done | rfl | (simp only [List.length_drop, List.length_take]; rfl)) ?_
          with_reducible refine (graph_Right.calls k1 t405 _ _ t406 true _ ?side1 ?side2 A59.out).mono ?_
          (case side1 => repeat (first | exact (Kd.R_reads' HO_410001.out).2.2 | (with_reducible refine Kd.C_alloc ?_ _) | (with_reducible refine Kd.C_drewN ?_ _) | (with_reducible refine Kd.C_drew ?_)))
          (case side2 => exact (Kd.R_reads' HO_410001.out).2.1)
          rintro e w72 ⟨rfl, hb⟩
          refine ⟨_, rfl, ?_⟩
          have n0_ := Aside0.mk (Kd.R_below (by (with_reducible repeat (first | apply Kd.R_alloc | apply Kd.R_drewN | apply Kd.R_drew)); exact HO_9.out) hb)
          have n1_ := Aside0.mk (Kd.R_below (by (with_reducible repeat (first | apply Kd.R_alloc | apply Kd.R_drewN | apply Kd.R_drew)); exact HO_11.out) hb)
          have n2_ := Aside0.mk (Kd.R_below (by (with_reducible repeat (first | apply Kd.R_alloc | apply Kd.R_drewN | apply Kd.R_drew)); exact HO_12.out) hb)
          have n3_ := Aside0.mk (Kd.R_below (by (with_reducible repeat (first | apply Kd.R_alloc | apply Kd.R_drewN | apply Kd.R_drew)); exact HO_402001.out) hb)
          have n4_ := Aside0.mk (Kd.R_below (by (with_reducible repeat (first | apply Kd.R_alloc | apply Kd.R_drewN | apply Kd.R_drew)); exact HO_410001.out) hb)
          have n5_ := Aside0.mk (blk_below (g := gb395) (o := .cells #[.int .i64 a0_0, .slice A0_1 l0_1.length c0_1] 24 (0, 0)) (by (with_reducible repeat (first | refine blk_drewN ?_ _ | refine blk_drew ?_ | refine blk_alloc ?_ _)); exact BK395.out) hb)
          have n6_ := Aside0.mk (blk_below (g := gb401) (o := .cells #[.int .i64 t397, .slice Ao17 t398.length co17] 24 (0, 0)) (by (with_reducible repeat (first | refine blk_drewN ?_ _ | refine blk_drew ?_ | refine blk_alloc ?_ _)); exact BK401.out) hb)
          have n7_ := Aside0.mk (blk_below (g := gb409) (o := .cells #[.int .i64 t405, .slice Ao25 t406.length co25] 24 (0, 0)) (by (with_reducible repeat (first | refine blk_drewN ?_ _ | refine blk_drew ?_ | refine blk_alloc ?_ _)); exact BK409.out) hb)
          have n8_ := Aside0.mk (below_step (by repeat (first | (with_reducible first | exact HB.out | apply below_alloc | apply pw_below_drewN | apply below_drew1 | refine below_set ?_ GE395.out | refine below_set ?_ GE401.out | refine below_set ?_ GE409.out) | exact HB.out)) hb)
          clear HO_9
          clear HO_11
          clear HO_12
          clear HO_402001
          clear HO_410001
          clear BK395
          clear BK401
          clear BK409
          clear HB
          have HO_9 := n0_
          have HO_11 := n1_
          have HO_12 := n2_
          have HO_402001 := n3_
          have HO_410001 := n4_
          have BK395 := n5_
          have BK401 := n6_
          have BK409 := n7_
          have HB := n8_
          clear n0_ n1_ n2_ n3_ n4_ n5_ n6_ n7_ n8_
          (try clear hb)
          (try clear hb2)
          (try clear hk)
          (try clear hi)
          obtain ⟨Ao73, co73, eo73⟩ := Kd.R_slice HO_9.out
          (first | subst eo73 | (injection eo73 with f1_ f2_ f3_; have f4_ := f1_.symm; have f5_ := f3_.symm; clear f1_ f2_ f3_; subst f4_; subst f5_))
          refine hK.out _ _ ⟨(blk_cell BK409.out 0).trans rfl, (blk_cell BK409.out 1).trans rfl, (blk_cell BK401.out 0).trans rfl, (blk_cell BK401.out 1).trans rfl⟩ (fun hHeld => ?_)
          clear hK K
          refine norm_ (a' := ?_) ?_ ?_
          rotate_left
          ·show Act.put _ (some 58) _ = _
           simp only [Act.put, List.setIfInBounds_toArray, List.set_cons_zero, List.set_cons_succ, i64_w, i32_w]
           rfl
          refine pure_ (i := 4) (N := some 59) (v := ?_) (a' := ?_) #[true, true, true, true, true, false, false, false, false, false, false, false, false, false, false, false, false, false, false, false, false, false, false, false, false, false, false, false, false] rfl rfl (any_of HT_.out (by kernel_rfl)) (fun _ _ _ h => h) (Or.inl ⟨by rfl, ?_⟩) ?_ ?_
          rotate_left
          ·intro w'
           go_simp
           with_reducible rfl
          rotate_left
          ·simp only [Act.put, List.setIfInBounds_toArray, List.set_cons_zero, List.set_cons_succ, i64_w, i32_w]
           rfl
          refine pure_ (i := 5) (N := some 60) (v := ?_) (a' := ?_) #[true, true, true, true, true, true, false, false, false, false, false, false, false, false, false, false, false, false, false, false, false, false, false, false, false, false, false, false, false] rfl rfl (any_of HT_.out (by kernel_rfl)) (fun _ _ _ h => h) (Or.inl ⟨by rfl, ?_⟩) ?_ ?_
          rotate_left
          ·intro w'
           go_simp
           with_reducible rfl
          rotate_left
          ·simp only [Act.put, List.setIfInBounds_toArray, List.set_cons_zero, List.set_cons_succ, i64_w, i32_w]
           rfl
          refine pure_ (i := 7) (N := some 62) (v := ?_) (a' := ?_) #[true, true, true, true, true, true, false, true, false, false, false, false, false, false, false, false, false, false, false, false, false, false, false, false, false, false, false, false, false] rfl rfl (any_of HT_.out (by kernel_rfl)) (fun _ _ _ h => h) (Or.inl ⟨by rfl, ?_⟩) ?_ ?_
          rotate_left
          ·intro w'
           go_simp
           with_reducible rfl
          rotate_left
          ·simp only [Act.put, List.setIfInBounds_toArray, List.set_cons_zero, List.set_cons_succ, i64_w, i32_w]
           rfl
          refine take_ (i := 6) (N := some 61) (v := ?_) (a' := ?_) #[true, true, true, true, true, true, true, true, false, false, false, false, false, false, false, false, false, false, false, false, false, false, false, false, false, false, false, false, false] rfl rfl (take_ofW HT_.out HW_.out (by kernel_rfl)) (fun _ _ _ h => h) (Or.inl ⟨by rfl, ?_⟩) hHeld ?_ ?_
          rotate_left
          ·rintro w' ⟨s0, s1, s2, s3⟩
           go_simp
           with_reducible rfl
          rotate_left
          ·simp only [Act.put, List.setIfInBounds_toArray, List.set_cons_zero, List.set_cons_succ, i64_w, i32_w]
           rfl
          refine one_ (i := 8) (N := some 63) #[true, true, true, true, true, true, true, true, true, false, false, false, false, false, false, false, false, false, false, false, false, false, false, false, false, false, false, false, false] rfl rfl (one_of HT_.out (by kernel_rfl)) (by decide) (fun K hK => ?_)
          refine goes_ Try.func23 (by kernel_rfl) rfl #[.agg #[.int .i64 t405, .slice Ao25 t406.length co25], .slice Ao73 t402.length co73, .int .i64 1, .int .i64 0] (by rfl) rfl rfl (by (try simp only [List.map_toArray, List.map_cons, List.map_nil]); first | done | rfl | (simp only [List.length_drop, List.length_take]; rfl)) ?_
          with_reducible refine (graph_Good.calls k1 t405 _ _ t406 _ _ t402 1 0 true _ ?side1 ?side2 ?side3 ?side4 A61.out).mono ?_
          (case side1 => repeat (first | exact (Kd.R_reads' HO_410001.out).2.2 | (with_reducible refine Kd.C_alloc ?_ _) | (with_reducible refine Kd.C_drewN ?_ _) | (with_reducible refine Kd.C_drew ?_)))
          (case side2 => exact (Kd.R_reads' HO_410001.out).2.1)
          (case side3 => repeat (first | exact (Kd.R_reads' HO_9.out).2.2 | (with_reducible refine Kd.C_alloc ?_ _) | (with_reducible refine Kd.C_drewN ?_ _) | (with_reducible refine Kd.C_drew ?_)))
          (case side4 => exact (Kd.R_reads' HO_9.out).2.1)
          rintro e w74 ⟨rfl, hb⟩
          refine ⟨_, rfl, ?_⟩
          have n0_ := Aside0.mk (Kd.R_below (by (with_reducible repeat (first | apply Kd.R_alloc | apply Kd.R_drewN | apply Kd.R_drew)); exact HO_9.out) hb)
          have n1_ := Aside0.mk (Kd.R_below (by (with_reducible repeat (first | apply Kd.R_alloc | apply Kd.R_drewN | apply Kd.R_drew)); exact HO_11.out) hb)
          have n2_ := Aside0.mk (Kd.R_below (by (with_reducible repeat (first | apply Kd.R_alloc | apply Kd.R_drewN | apply Kd.R_drew)); exact HO_12.out) hb)
          have n3_ := Aside0.mk (Kd.R_below (by (with_reducible repeat (first | apply Kd.R_alloc | apply Kd.R_drewN | apply Kd.R_drew)); exact HO_402001.out) hb)
          have n4_ := Aside0.mk (Kd.R_below (by (with_reducible repeat (first | apply Kd.R_alloc | apply Kd.R_drewN | apply Kd.R_drew)); exact HO_410001.out) hb)
          have n5_ := Aside0.mk (blk_below (g := gb395) (o := .cells #[.int .i64 a0_0, .slice A0_1 l0_1.length c0_1] 24 (0, 0)) (by (with_reducible repeat (first | refine blk_drewN ?_ _ | refine blk_drew ?_ | refine blk_alloc ?_ _)); exact BK395.out) hb)
          have n6_ := Aside0.mk (blk_below (g := gb401) (o := .cells #[.int .i64 t397, .slice Ao17 t398.length co17] 24 (0, 0)) (by (with_reducible repeat (first | refine blk_drewN ?_ _ | refine blk_drew ?_ | refine blk_alloc ?_ _)); exact BK401.out) hb)
          have n7_ := Aside0.mk (blk_below (g := gb409) (o := .cells #[.int .i64 t405, .slice Ao25 t406.length co25] 24 (0, 0)) (by (with_reducible repeat (first | refine blk_drewN ?_ _ | refine blk_drew ?_ | refine blk_alloc ?_ _)); exact BK409.out) hb)
          have n8_ := Aside0.mk (below_step (by repeat (first | (with_reducible first | exact HB.out | apply below_alloc | apply pw_below_drewN | apply below_drew1 | refine below_set ?_ GE395.out | refine below_set ?_ GE401.out | refine below_set ?_ GE409.out) | exact HB.out)) hb)
          clear HO_9
          clear HO_11
          clear HO_12
          clear HO_402001
          clear HO_410001
          clear BK395
          clear BK401
          clear BK409
          clear HB
          have HO_9 := n0_
          have HO_11 := n1_
          have HO_12 := n2_
          have HO_402001 := n3_
          have HO_410001 := n4_
          have BK395 := n5_
          have BK401 := n6_
          have BK409 := n7_
          have HB := n8_
          clear n0_ n1_ n2_ n3_ n4_ n5_ n6_ n7_ n8_
          (try clear hb)
          (try clear hb2)
          (try clear hk)
          (try clear hi)
          refine hK.out _ _ ⟨(blk_cell BK409.out 0).trans rfl, (blk_cell BK409.out 1).trans rfl, (blk_cell BK401.out 0).trans rfl, (blk_cell BK401.out 1).trans rfl⟩ (fun hHeld => ?_)
          clear hK K
          refine norm_ (a' := ?_) ?_ ?_
          rotate_left
          ·show Act.put _ (some 63) _ = _
           simp only [Act.put, List.setIfInBounds_toArray, List.set_cons_zero, List.set_cons_succ, i64_w, i32_w]
           rfl
          refine pure_ (i := 9) (N := some 64) (v := ?_) (a' := ?_) #[true, true, true, true, true, true, true, true, true, true, false, false, false, false, false, false, false, false, false, false, false, false, false, false, false, false, false, false, false] rfl rfl (any_of HT_.out (by kernel_rfl)) (fun _ _ _ h => h) (Or.inl ⟨by rfl, ?_⟩) ?_ ?_
          rotate_left
          ·intro w'
           go_simp
           with_reducible rfl
          rotate_left
          ·simp only [Act.put, List.setIfInBounds_toArray, List.set_cons_zero, List.set_cons_succ, i64_w, i32_w]
           rfl
          refine pure_ (i := 10) (N := some 65) (v := ?_) (a' := ?_) #[true, true, true, true, true, true, true, true, true, true, true, false, false, false, false, false, false, false, false, false, false, false, false, false, false, false, false, false, false] rfl rfl (any_of HT_.out (by kernel_rfl)) (fun _ _ _ h => h) (Or.inl ⟨by rfl, ?_⟩) ?_ ?_
          rotate_left
          ·intro w'
           go_simp
           with_reducible rfl
          rotate_left
          ·simp only [Act.put, List.setIfInBounds_toArray, List.set_cons_zero, List.set_cons_succ, i64_w, i32_w]
           rfl
          refine pure_ (i := 12) (N := some 67) (v := ?_) (a' := ?_) #[true, true, true, true, true, true, true, true, true, true, true, false, true, false, false, false, false, false, false, false, false, false, false, false, false, false, false, false, false] rfl rfl (any_of HT_.out (by kernel_rfl)) (fun _ _ _ h => h) (Or.inl ⟨by rfl, ?_⟩) ?_ ?_
          rotate_left
          ·intro w'
           go_simp
           with_reducible rfl
          rotate_left
          ·simp only [Act.put, List.setIfInBounds_toArray, List.set_cons_zero, List.set_cons_succ, i64_w, i32_w]
           rfl
          refine pure_ (i := 15) (N := some 70) (v := ?_) (a' := ?_) #[true, true, true, true, true, true, true, true, true, true, true, false, true, false, false, true, false, false, false, false, false, false, false, false, false, false, false, false, false] rfl rfl (any_of HT_.out (by kernel_rfl)) (fun _ _ _ h => h) (Or.inl ⟨by rfl, ?_⟩) ?_ ?_
          rotate_left
          ·intro w'
           go_simp
           with_reducible rfl
          rotate_left
          ·simp only [Act.put, List.setIfInBounds_toArray, List.set_cons_zero, List.set_cons_succ, i64_w, i32_w]
           rfl
          refine take_ (i := 11) (N := some 66) (v := ?_) (a' := ?_) #[true, true, true, true, true, true, true, true, true, true, true, true, true, false, false, true, false, false, false, false, false, false, false, false, false, false, false, false, false] rfl rfl (take_ofW HT_.out HW_.out (by kernel_rfl)) (fun _ _ _ h => h) (Or.inl ⟨by rfl, ?_⟩) hHeld ?_ ?_
          rotate_left
          ·rintro w' ⟨s0, s1, s2, s3⟩
           go_simp
           with_reducible rfl
          rotate_left
          ·simp only [Act.put, List.setIfInBounds_toArray, List.set_cons_zero, List.set_cons_succ, i64_w, i32_w]
           rfl
          refine take_ (i := 14) (N := some 69) (v := ?_) (a' := ?_) #[true, true, true, true, true, true, true, true, true, true, true, true, true, false, true, true, false, false, false, false, false, false, false, false, false, false, false, false, false] rfl rfl (take_ofW HT_.out HW_.out (by kernel_rfl)) (fun _ _ _ h => h) (Or.inl ⟨by rfl, ?_⟩) hHeld ?_ ?_
          rotate_left
          ·rintro w' ⟨s0, s1, s2, s3⟩
           go_simp
           with_reducible rfl
          rotate_left
          ·simp only [Act.put, List.setIfInBounds_toArray, List.set_cons_zero, List.set_cons_succ, i64_w, i32_w]
           rfl
          refine one_ (i := 13) (N := some 68) #[true, true, true, true, true, true, true, true, true, true, true, true, true, true, true, true, false, false, false, false, false, false, false, false, false, false, false, false, false] rfl rfl (one_of HT_.out (by kernel_rfl)) (by decide) (fun K hK => ?_)
          refine goes_ Try.func25 (by kernel_rfl) rfl #[.agg #[.int .i64 t405, .slice Ao25 t406.length co25], .slice Ao73 t402.length co73, .int .i64 1] (by rfl) rfl rfl (by (try simp only [List.map_toArray, List.map_cons, List.map_nil]); first | done | rfl | (simp only [List.length_drop, List.length_take]; rfl)) ?_
          with_reducible refine (graph_Value.calls k1 t405 _ _ t406 _ _ t402 1 t425 _ ?side1 ?side2 ?side3 ?side4 A63.out).mono ?_
          (case side1 => repeat (first | exact (Kd.R_reads' HO_410001.out).2.2 | (with_reducible refine Kd.C_alloc ?_ _) | (with_reducible refine Kd.C_drewN ?_ _) | (with_reducible refine Kd.C_drew ?_)))
          (case side2 => exact (Kd.R_reads' HO_410001.out).2.1)
          (case side3 => repeat (first | exact (Kd.R_reads' HO_9.out).2.2 | (with_reducible refine Kd.C_alloc ?_ _) | (with_reducible refine Kd.C_drewN ?_ _) | (with_reducible refine Kd.C_drew ?_)))
          (case side4 => exact (Kd.R_reads' HO_9.out).2.1)
          rintro e w75 ⟨rfl, hb⟩
          refine ⟨_, rfl, ?_⟩
          have n0_ := Aside0.mk (Kd.R_below (by (with_reducible repeat (first | apply Kd.R_alloc | apply Kd.R_drewN | apply Kd.R_drew)); exact HO_9.out) hb)
          have n1_ := Aside0.mk (Kd.R_below (by (with_reducible repeat (first | apply Kd.R_alloc | apply Kd.R_drewN | apply Kd.R_drew)); exact HO_11.out) hb)
          have n2_ := Aside0.mk (Kd.R_below (by (with_reducible repeat (first | apply Kd.R_alloc | apply Kd.R_drewN | apply Kd.R_drew)); exact HO_12.out) hb)
          have n3_ := Aside0.mk (Kd.R_below (by (with_reducible repeat (first | apply Kd.R_alloc | apply Kd.R_drewN | apply Kd.R_drew)); exact HO_402001.out) hb)
          have n4_ := Aside0.mk (Kd.R_below (by (with_reducible repeat (first | apply Kd.R_alloc | apply Kd.R_drewN | apply Kd.R_drew)); exact HO_410001.out) hb)
          have n5_ := Aside0.mk (blk_below (g := gb395) (o := .cells #[.int .i64 a0_0, .slice A0_1 l0_1.length c0_1] 24 (0, 0)) (by (with_reducible repeat (first | refine blk_drewN ?_ _ | refine blk_drew ?_ | refine blk_alloc ?_ _)); exact BK395.out) hb)
          have n6_ := Aside0.mk (blk_below (g := gb401) (o := .cells #[.int .i64 t397, .slice Ao17 t398.length co17] 24 (0, 0)) (by (with_reducible repeat (first | refine blk_drewN ?_ _ | refine blk_drew ?_ | refine blk_alloc ?_ _)); exact BK401.out) hb)
          have n7_ := Aside0.mk (blk_below (g := gb409) (o := .cells #[.int .i64 t405, .slice Ao25 t406.length co25] 24 (0, 0)) (by (with_reducible repeat (first | refine blk_drewN ?_ _ | refine blk_drew ?_ | refine blk_alloc ?_ _)); exact BK409.out) hb)
          have n8_ := Aside0.mk (below_step (by repeat (first | (with_reducible first | exact HB.out | apply below_alloc | apply pw_below_drewN | apply below_drew1 | refine below_set ?_ GE395.out | refine below_set ?_ GE401.out | refine below_set ?_ GE409.out) | exact HB.out)) hb)
          clear HO_9
          clear HO_11
          clear HO_12
          clear HO_402001
          clear HO_410001
          clear BK395
          clear BK401
          clear BK409
          clear HB
          have HO_9 := n0_
          have HO_11 := n1_
          have HO_12 := n2_
          have HO_402001 := n3_
          have HO_410001 := n4_
          have BK395 := n5_
          have BK401 := n6_
          have BK409 := n7_
          have HB := n8_
          clear n0_ n1_ n2_ n3_ n4_ n5_ n6_ n7_ n8_
          (try clear hb)
          (try clear hb2)
          (try clear hk)
          (try clear hi)
          refine hK.out _ _ ⟨(blk_cell BK409.out 0).trans rfl, (blk_cell BK409.out 1).trans rfl, (blk_cell BK401.out 0).trans rfl, (blk_cell BK401.out 1).trans rfl⟩ (fun hHeld => ?_)
          clear hK K
          refine norm_ (a' := ?_) ?_ ?_
          rotate_left
          ·show Act.put _ (some 68) _ = _
           simp only [Act.put, List.setIfInBounds_toArray, List.set_cons_zero, List.set_cons_succ, i64_w, i32_w]
           rfl
          refine one_ (i := 16) (N := some 71) #[true, true, true, true, true, true, true, true, true, true, true, true, true, true, true, true, true, false, false, false, false, false, false, false, false, false, false, false, false] rfl rfl (one_of HT_.out (by kernel_rfl)) (by decide) (fun K hK => ?_)
          refine goes_ Try.func25 (by kernel_rfl) rfl #[.agg #[.int .i64 t397, .slice Ao17 t398.length co17], .slice Ao73 t402.length co73, .int .i64 0] (by rfl) rfl rfl (by (try simp only [List.map_toArray, List.map_cons, List.map_nil]); first | done | rfl | (simp only [List.length_drop, List.length_take]; rfl)) ?_
          with_reducible refine (graph_Value.calls k1 t397 _ _ t398 _ _ t402 0 t426 _ ?side1 ?side2 ?side3 ?side4 A64.out).mono ?_
          (case side1 => repeat (first | exact (Kd.R_reads' HO_402001.out).2.2 | (with_reducible refine Kd.C_alloc ?_ _) | (with_reducible refine Kd.C_drewN ?_ _) | (with_reducible refine Kd.C_drew ?_)))
          (case side2 => exact (Kd.R_reads' HO_402001.out).2.1)
          (case side3 => repeat (first | exact (Kd.R_reads' HO_9.out).2.2 | (with_reducible refine Kd.C_alloc ?_ _) | (with_reducible refine Kd.C_drewN ?_ _) | (with_reducible refine Kd.C_drew ?_)))
          (case side4 => exact (Kd.R_reads' HO_9.out).2.1)
          rintro e w76 ⟨rfl, hb⟩
          refine ⟨_, rfl, ?_⟩
          have n0_ := Aside0.mk (Kd.R_below (by (with_reducible repeat (first | apply Kd.R_alloc | apply Kd.R_drewN | apply Kd.R_drew)); exact HO_9.out) hb)
          have n1_ := Aside0.mk (Kd.R_below (by (with_reducible repeat (first | apply Kd.R_alloc | apply Kd.R_drewN | apply Kd.R_drew)); exact HO_11.out) hb)
          have n2_ := Aside0.mk (Kd.R_below (by (with_reducible repeat (first | apply Kd.R_alloc | apply Kd.R_drewN | apply Kd.R_drew)); exact HO_12.out) hb)
          have n3_ := Aside0.mk (Kd.R_below (by (with_reducible repeat (first | apply Kd.R_alloc | apply Kd.R_drewN | apply Kd.R_drew)); exact HO_402001.out) hb)
          have n4_ := Aside0.mk (Kd.R_below (by (with_reducible repeat (first | apply Kd.R_alloc | apply Kd.R_drewN | apply Kd.R_drew)); exact HO_410001.out) hb)
          have n5_ := Aside0.mk (blk_below (g := gb395) (o := .cells #[.int .i64 a0_0, .slice A0_1 l0_1.length c0_1] 24 (0, 0)) (by (with_reducible repeat (first | refine blk_drewN ?_ _ | refine blk_drew ?_ | refine blk_alloc ?_ _)); exact BK395.out) hb)
          have n6_ := Aside0.mk (blk_below (g := gb401) (o := .cells #[.int .i64 t397, .slice Ao17 t398.length co17] 24 (0, 0)) (by (with_reducible repeat (first | refine blk_drewN ?_ _ | refine blk_drew ?_ | refine blk_alloc ?_ _)); exact BK401.out) hb)
          have n7_ := Aside0.mk (blk_below (g := gb409) (o := .cells #[.int .i64 t405, .slice Ao25 t406.length co25] 24 (0, 0)) (by (with_reducible repeat (first | refine blk_drewN ?_ _ | refine blk_drew ?_ | refine blk_alloc ?_ _)); exact BK409.out) hb)
          have n8_ := Aside0.mk (below_step (by repeat (first | (with_reducible first | exact HB.out | apply below_alloc | apply pw_below_drewN | apply below_drew1 | refine below_set ?_ GE395.out | refine below_set ?_ GE401.out | refine below_set ?_ GE409.out) | exact HB.out)) hb)
          clear HO_9
          clear HO_11
          clear HO_12
          clear HO_402001
          clear HO_410001
          clear BK395
          clear BK401
          clear BK409
          clear HB
          have HO_9 := n0_
          have HO_11 := n1_
          have HO_12 := n2_
          have HO_402001 := n3_
          have HO_410001 := n4_
          have BK395 := n5_
          have BK401 := n6_
          have BK409 := n7_
          have HB := n8_
          clear n0_ n1_ n2_ n3_ n4_ n5_ n6_ n7_ n8_
          (try clear hb)
          (try clear hb2)
          (try clear hk)
          (try clear hi)
          obtain ⟨Ao77, co77, eo77⟩ := Kd.R_slice HO_12.out
          (first | subst eo77 | (injection eo77 with f1_ f2_ f3_; have f4_ := f1_.symm; have f5_ := f3_.symm; clear f1_ f2_ f3_; subst f4_; subst f5_))
          refine hK.out _ _ ⟨(blk_cell BK409.out 0).trans rfl, (blk_cell BK409.out 1).trans rfl, (blk_cell BK401.out 0).trans rfl, (blk_cell BK401.out 1).trans rfl⟩ (fun hHeld => ?_)
          clear hK K
          refine norm_ (a' := ?_) ?_ ?_
          rotate_left
          ·show Act.put _ (some 71) _ = _
           simp only [Act.put, List.setIfInBounds_toArray, List.set_cons_zero, List.set_cons_succ, i64_w, i32_w]
           rfl
          refine pure_ (i := 17) (N := some 72) (v := ?_) (a' := ?_) #[true, true, true, true, true, true, true, true, true, true, true, true, true, true, true, true, true, true, false, false, false, false, false, false, false, false, false, false, false] rfl rfl (any_of HT_.out (by kernel_rfl)) (fun _ _ _ h => h) (Or.inl ⟨by rfl, ?_⟩) ?_ ?_
          rotate_left
          ·intro w'
           go_simp
           with_reducible rfl
          rotate_left
          ·simp only [Act.put, List.setIfInBounds_toArray, List.set_cons_zero, List.set_cons_succ, i64_w, i32_w]
           rfl
          refine pure_ (i := 18) (N := some 73) (v := ?_) (a' := ?_) #[true, true, true, true, true, true, true, true, true, true, true, true, true, true, true, true, true, true, true, false, false, false, false, false, false, false, false, false, false] rfl rfl (any_of HT_.out (by kernel_rfl)) (fun _ _ _ h => h) (Or.inl ⟨by rfl, ?_⟩) ?_ ?_
          rotate_left
          ·intro w'
           go_simp
           with_reducible rfl
          rotate_left
          ·simp only [Act.put, List.setIfInBounds_toArray, List.set_cons_zero, List.set_cons_succ, i64_w, i32_w]
           rfl
          refine pure_ (i := 19) (N := some 74) (v := ?_) (a' := ?_) #[true, true, true, true, true, true, true, true, true, true, true, true, true, true, true, true, true, true, true, true, false, false, false, false, false, false, false, false, false] rfl rfl (any_of HT_.out (by kernel_rfl)) (fun _ _ _ h => h) (Or.inl ⟨by rfl, ?_⟩) ?_ ?_
          rotate_left
          ·intro w'
           go_simp
           with_reducible rfl
          rotate_left
          ·simp only [Act.put, List.setIfInBounds_toArray, List.set_cons_zero, List.set_cons_succ, i64_w, i32_w]
           rfl
          refine pure_ (i := 21) (N := some 76) (v := ?_) (a' := ?_) #[true, true, true, true, true, true, true, true, true, true, true, true, true, true, true, true, true, true, true, true, false, true, false, false, false, false, false, false, false] rfl rfl (any_of HT_.out (by kernel_rfl)) (fun _ _ _ h => h) (Or.inl ⟨by rfl, ?_⟩) ?_ ?_
          rotate_left
          ·intro w'
           go_simp
           with_reducible rfl
          rotate_left
          ·simp only [Act.put, List.setIfInBounds_toArray, List.set_cons_zero, List.set_cons_succ, i64_w, i32_w]
           rfl
          refine pure_ (i := 24) (N := some 79) (v := ?_) (a' := ?_) #[true, true, true, true, true, true, true, true, true, true, true, true, true, true, true, true, true, true, true, true, false, true, false, false, true, false, false, false, false] rfl rfl (any_of HT_.out (by kernel_rfl)) (fun _ _ _ h => h) (Or.inl ⟨by rfl, ?_⟩) ?_ ?_
          rotate_left
          ·intro w'
           go_simp
           with_reducible rfl
          rotate_left
          ·simp only [Act.put, List.setIfInBounds_toArray, List.set_cons_zero, List.set_cons_succ, i64_w, i32_w]
           rfl
          refine take_ (i := 20) (N := some 75) (v := ?_) (a' := ?_) #[true, true, true, true, true, true, true, true, true, true, true, true, true, true, true, true, true, true, true, true, true, true, false, false, true, false, false, false, false] rfl rfl (take_ofW HT_.out HW_.out (by kernel_rfl)) (fun _ _ _ h => h) (Or.inl ⟨by rfl, ?_⟩) hHeld ?_ ?_
          rotate_left
          ·rintro w' ⟨s0, s1, s2, s3⟩
           go_simp
           with_reducible rfl
          rotate_left
          ·simp only [Act.put, List.setIfInBounds_toArray, List.set_cons_zero, List.set_cons_succ, i64_w, i32_w]
           rfl
          refine take_ (i := 23) (N := some 78) (v := ?_) (a' := ?_) #[true, true, true, true, true, true, true, true, true, true, true, true, true, true, true, true, true, true, true, true, true, true, false, true, true, false, false, false, false] rfl rfl (take_ofW HT_.out HW_.out (by kernel_rfl)) (fun _ _ _ h => h) (Or.inl ⟨by rfl, ?_⟩) hHeld ?_ ?_
          rotate_left
          ·rintro w' ⟨s0, s1, s2, s3⟩
           go_simp
           with_reducible rfl
          rotate_left
          ·simp only [Act.put, List.setIfInBounds_toArray, List.set_cons_zero, List.set_cons_succ, i64_w, i32_w]
           rfl
          refine one_ (i := 22) (N := some 77) #[true, true, true, true, true, true, true, true, true, true, true, true, true, true, true, true, true, true, true, true, true, true, true, true, true, false, false, false, false] rfl rfl (one_of HT_.out (by kernel_rfl)) (by decide) (fun K hK => ?_)
          refine goes_ Try.func28 (by kernel_rfl) rfl #[.agg #[.int .i64 t405, .slice Ao25 t406.length co25], .slice Ao77 x12_1.length co77] (by rfl) rfl rfl (by (try simp only [List.map_toArray, List.map_cons, List.map_nil]); first | done | rfl | (simp only [List.length_drop, List.length_take]; rfl)) ?_
          with_reducible refine (graph_Cut.calls k1 t405 _ _ t406 _ _ x12_1 t427 _ ?side1 ?side2 ?side3 ?side4 A66.out).mono ?_
          (case side1 => repeat (first | exact (Kd.R_reads' HO_410001.out).2.2 | (with_reducible refine Kd.C_alloc ?_ _) | (with_reducible refine Kd.C_drewN ?_ _) | (with_reducible refine Kd.C_drew ?_)))
          (case side2 => exact (Kd.R_reads' HO_410001.out).2.1)
          (case side3 => repeat (first | exact (Kd.R_reads' HO_12.out).2.2 | (with_reducible refine Kd.C_alloc ?_ _) | (with_reducible refine Kd.C_drewN ?_ _) | (with_reducible refine Kd.C_drew ?_)))
          (case side4 => exact (Kd.R_reads' HO_12.out).2.1)
          rintro e w78 ⟨rfl, hb⟩
          refine ⟨_, rfl, ?_⟩
          have n0_ := Aside0.mk (Kd.R_below (by (with_reducible repeat (first | apply Kd.R_alloc | apply Kd.R_drewN | apply Kd.R_drew)); exact HO_9.out) hb)
          have n1_ := Aside0.mk (Kd.R_below (by (with_reducible repeat (first | apply Kd.R_alloc | apply Kd.R_drewN | apply Kd.R_drew)); exact HO_11.out) hb)
          have n2_ := Aside0.mk (Kd.R_below (by (with_reducible repeat (first | apply Kd.R_alloc | apply Kd.R_drewN | apply Kd.R_drew)); exact HO_12.out) hb)
          have n3_ := Aside0.mk (Kd.R_below (by (with_reducible repeat (first | apply Kd.R_alloc | apply Kd.R_drewN | apply Kd.R_drew)); exact HO_402001.out) hb)
          have n4_ := Aside0.mk (Kd.R_below (by (with_reducible repeat (first | apply Kd.R_alloc | apply Kd.R_drewN | apply Kd.R_drew)); exact HO_410001.out) hb)
          have n5_ := Aside0.mk (blk_below (g := gb395) (o := .cells #[.int .i64 a0_0, .slice A0_1 l0_1.length c0_1] 24 (0, 0)) (by (with_reducible repeat (first | refine blk_drewN ?_ _ | refine blk_drew ?_ | refine blk_alloc ?_ _)); exact BK395.out) hb)
          have n6_ := Aside0.mk (blk_below (g := gb401) (o := .cells #[.int .i64 t397, .slice Ao17 t398.length co17] 24 (0, 0)) (by (with_reducible repeat (first | refine blk_drewN ?_ _ | refine blk_drew ?_ | refine blk_alloc ?_ _)); exact BK401.out) hb)
          have n7_ := Aside0.mk (blk_below (g := gb409) (o := .cells #[.int .i64 t405, .slice Ao25 t406.length co25] 24 (0, 0)) (by (with_reducible repeat (first | refine blk_drewN ?_ _ | refine blk_drew ?_ | refine blk_alloc ?_ _)); exact BK409.out) hb)
          have n8_ := Aside0.mk (below_step (by repeat (first | (with_reducible first | exact HB.out | apply below_alloc | apply pw_below_drewN | apply below_drew1 | refine below_set ?_ GE395.out | refine below_set ?_ GE401.out | refine below_set ?_ GE409.out) | exact HB.out)) hb)
          clear HO_9
          clear HO_11
          clear HO_12
          clear HO_402001
          clear HO_410001
          clear BK395
          clear BK401
          clear BK409
          clear HB
          have HO_9 := n0_
          have HO_11 := n1_
          have HO_12 := n2_
          have HO_402001 := n3_
          have HO_410001 := n4_
          have BK395 := n5_
          have BK401 := n6_
          have BK409 := n7_
          have HB := n8_
          clear n0_ n1_ n2_ n3_ n4_ n5_ n6_ n7_ n8_
          (try clear hb)
          (try clear hb2)
          (try clear hk)
          (try clear hi)
          obtain ⟨Ao79, co79, eo79⟩ := Kd.R_slice HO_11.out
          (first | subst eo79 | (injection eo79 with f1_ f2_ f3_; have f4_ := f1_.symm; have f5_ := f3_.symm; clear f1_ f2_ f3_; subst f4_; subst f5_))
          refine hK.out _ _ ⟨(blk_cell BK409.out 0).trans rfl, (blk_cell BK409.out 1).trans rfl, (blk_cell BK401.out 0).trans rfl, (blk_cell BK401.out 1).trans rfl⟩ (fun hHeld => ?_)
          clear hK K
          refine norm_ (a' := ?_) ?_ ?_
          rotate_left
          ·show Act.put _ (some 77) _ = _
           simp only [Act.put, List.setIfInBounds_toArray, List.set_cons_zero, List.set_cons_succ, i64_w, i32_w]
           rfl
          refine one_ (i := 25) (N := some 80) #[true, true, true, true, true, true, true, true, true, true, true, true, true, true, true, true, true, true, true, true, true, true, true, true, true, true, false, false, false] rfl rfl (one_of HT_.out (by kernel_rfl)) (by decide) (fun K hK => ?_)
          refine goes_ Try.func28 (by kernel_rfl) rfl #[.agg #[.int .i64 t397, .slice Ao17 t398.length co17], .slice Ao79 x11_1.length co79] (by rfl) rfl rfl (by (try simp only [List.map_toArray, List.map_cons, List.map_nil]); first | done | rfl | (simp only [List.length_drop, List.length_take]; rfl)) ?_
          with_reducible refine (graph_Cut.calls k1 t397 _ _ t398 _ _ x11_1 t428 _ ?side1 ?side2 ?side3 ?side4 A67.out).mono ?_
          (case side1 => repeat (first | exact (Kd.R_reads' HO_402001.out).2.2 | (with_reducible refine Kd.C_alloc ?_ _) | (with_reducible refine Kd.C_drewN ?_ _) | (with_reducible refine Kd.C_drew ?_)))
          (case side2 => exact (Kd.R_reads' HO_402001.out).2.1)
          (case side3 => repeat (first | exact (Kd.R_reads' HO_11.out).2.2 | (with_reducible refine Kd.C_alloc ?_ _) | (with_reducible refine Kd.C_drewN ?_ _) | (with_reducible refine Kd.C_drew ?_)))
          (case side4 => exact (Kd.R_reads' HO_11.out).2.1)
          rintro e w80 ⟨rfl, hb⟩
          refine ⟨_, rfl, ?_⟩
          have n0_ := Aside0.mk (Kd.R_below (by (with_reducible repeat (first | apply Kd.R_alloc | apply Kd.R_drewN | apply Kd.R_drew)); exact HO_9.out) hb)
          have n1_ := Aside0.mk (Kd.R_below (by (with_reducible repeat (first | apply Kd.R_alloc | apply Kd.R_drewN | apply Kd.R_drew)); exact HO_11.out) hb)
          have n2_ := Aside0.mk (Kd.R_below (by (with_reducible repeat (first | apply Kd.R_alloc | apply Kd.R_drewN | apply Kd.R_drew)); exact HO_12.out) hb)
          have n3_ := Aside0.mk (Kd.R_below (by (with_reducible repeat (first | apply Kd.R_alloc | apply Kd.R_drewN | apply Kd.R_drew)); exact HO_402001.out) hb)
          have n4_ := Aside0.mk (Kd.R_below (by (with_reducible repeat (first | apply Kd.R_alloc | apply Kd.R_drewN | apply Kd.R_drew)); exact HO_410001.out) hb)
          have n5_ := Aside0.mk (blk_below (g := gb395) (o := .cells #[.int .i64 a0_0, .slice A0_1 l0_1.length c0_1] 24 (0, 0)) (by (with_reducible repeat (first | refine blk_drewN ?_ _ | refine blk_drew ?_ | refine blk_alloc ?_ _)); exact BK395.out) hb)
          have n6_ := Aside0.mk (blk_below (g := gb401) (o := .cells #[.int .i64 t397, .slice Ao17 t398.length co17] 24 (0, 0)) (by (with_reducible repeat (first | refine blk_drewN ?_ _ | refine blk_drew ?_ | refine blk_alloc ?_ _)); exact BK401.out) hb)
          have n7_ := Aside0.mk (blk_below (g := gb409) (o := .cells #[.int .i64 t405, .slice Ao25 t406.length co25] 24 (0, 0)) (by (with_reducible repeat (first | refine blk_drewN ?_ _ | refine blk_drew ?_ | refine blk_alloc ?_ _)); exact BK409.out) hb)
          have n8_ := Aside0.mk (below_step (by repeat (first | (with_reducible first | exact HB.out | apply below_alloc | apply pw_below_drewN | apply below_drew1 | refine below_set ?_ GE395.out | refine below_set ?_ GE401.out | refine below_set ?_ GE409.out) | exact HB.out)) hb)
          clear HO_9
          clear HO_11
          clear HO_12
          clear HO_402001
          clear HO_410001
          clear BK395
          clear BK401
          clear BK409
          clear HB
          have HO_9 := n0_
          have HO_11 := n1_
          have HO_12 := n2_
          have HO_402001 := n3_
          have HO_410001 := n4_
          have BK395 := n5_
          have BK401 := n6_
          have BK409 := n7_
          have HB := n8_
          clear n0_ n1_ n2_ n3_ n4_ n5_ n6_ n7_ n8_
          (try clear hb)
          (try clear hb2)
          (try clear hk)
          (try clear hi)
          refine hK.out _ _ ⟨(blk_cell BK409.out 0).trans rfl, (blk_cell BK409.out 1).trans rfl, (blk_cell BK401.out 0).trans rfl, (blk_cell BK401.out 1).trans rfl⟩ (fun hHeld => ?_)
          clear hK K
          refine norm_ (a' := ?_) ?_ ?_
          rotate_left
          ·show Act.put _ (some 80) _ = _
           simp only [Act.put, List.setIfInBounds_toArray, List.set_cons_zero, List.set_cons_succ, i64_w, i32_w]
           rfl
          refine pure_ (i := 26) (N := some 81) (v := ?_) (a' := ?_) #[true, true, true, true, true, true, true, true, true, true, true, true, true, true, true, true, true, true, true, true, true, true, true, true, true, true, true, false, false] rfl rfl (any_of HT_.out (by kernel_rfl)) (fun _ _ _ h => h) (Or.inl ⟨by rfl, ?_⟩) ?_ ?_
          rotate_left
          ·intro w'
           go_simp
           with_reducible rfl
          rotate_left
          ·simp only [Act.put, List.setIfInBounds_toArray, List.set_cons_zero, List.set_cons_succ, i64_w, i32_w]
           rfl
          refine pure_ (i := 27) (N := some 82) (v := ?_) (a' := ?_) #[true, true, true, true, true, true, true, true, true, true, true, true, true, true, true, true, true, true, true, true, true, true, true, true, true, true, true, true, false] rfl rfl (any_of HT_.out (by kernel_rfl)) (fun _ _ _ h => h) (Or.inl ⟨by rfl, ?_⟩) ?_ ?_
          rotate_left
          ·intro w'
           go_simp
           with_reducible rfl
          rotate_left
          ·simp only [Act.put, List.setIfInBounds_toArray, List.set_cons_zero, List.set_cons_succ, i64_w, i32_w]
           rfl
          refine pure_ (i := 28) (N := some 6) (v := ?_) (a' := ?_) #[true, true, true, true, true, true, true, true, true, true, true, true, true, true, true, true, true, true, true, true, true, true, true, true, true, true, true, true, true] rfl rfl (any_of HT_.out (by kernel_rfl)) (fun _ _ _ h => h) (Or.inl ⟨by rfl, ?_⟩) ?_ ?_
          rotate_left
          ·intro w'
           go_simp
           with_reducible rfl
          rotate_left
          ·simp only [Act.put, List.setIfInBounds_toArray, List.set_cons_zero, List.set_cons_succ, i64_w, i32_w]
           rfl
          refine done_ (done_of HT_.out (by kernel_rfl)) ?_
          try go_wp2
          go_ret
          exact ⟨by first | rfl | (simp [errW_none, errW_some] <;> rfl) | (simp [*, errW_none, errW_some] <;> rfl), by repeat (first | (with_reducible first | exact HB.out | apply below_alloc | apply pw_below_drewN | apply below_drew1 | refine below_set ?_ GE395.out | refine below_set ?_ GE401.out | refine below_set ?_ GE409.out) | exact HB.out)⟩
         ·rw [if_neg c65] at H
          have c65b0 : (t425 == t426) = false := beq_eq_false_iff_ne.mpr c65
          have c65b1 : (t425 != t426) = true := bne_iff_ne.mpr c65
          exact absurd (H.trans (congrArg some HT_.out)) (by simp)
        ·replace c62 := Bool.eq_false_iff.mpr c62
         subst c62
         have H1 : (some false) = some r := by rw [if_neg (show ¬ (false = true) by decide)] at H; exact H
         clear H
         have H := H1
         clear H1
         exact absurd (H.trans (congrArg some HT_.out)) (by simp)
       ·replace c60 := Bool.eq_false_iff.mpr c60
        subst c60
        have H1 : (some false) = some r := by rw [if_neg (show ¬ (false = true) by decide)] at H; exact H
        clear H
        have H := H1
        clear H1
        exact absurd (H.trans (congrArg some HT_.out)) (by simp)
      ·replace c58 := Bool.eq_false_iff.mpr c58
       subst c58
       have H1 : (some false) = some r := by rw [if_neg (show ¬ (false = true) by decide)] at H; exact H
       clear H
       have H := H1
       clear H1
       exact absurd (H.trans (congrArg some HT_.out)) (by simp)
  ·rw [if_neg c9] at H
   exact absurd H (by simp)
 ·rw [if_neg c8] at H
  exact absurd H (by simp)

end Go.Proofs.Ytfmfojogcghkkaa.P
