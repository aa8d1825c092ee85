-- Laid by a program of this session (wip/tools/genx.py) out of the kit's print of the translation.
import Derived.Test.YtfmfojogcghkkaaPx0
import Derived.Test.YtfmfojogcghkkaaPx10
import Derived.Test.YtfmfojogcghkkaaPx12
import Derived.Test.YtfmfojogcghkkaaPx13
import Derived.Test.YtfmfojogcghkkaaPx21
import Derived.Test.YtfmfojogcghkkaaPx22
namespace Go.Proofs.Ytfmfojogcghkkaa.P
open Go.RowKit Go.Proofs.YtfmfojogcghkkaaW.PrintWords Go.Proofs.YtfmfojogcghkkaaW.PrintLast Go.Proofs.YtfmfojogcghkkaaW.PrintMore
attribute [local go_sem] max2_int min2_int max_two min_two max_three min_three max_four min_four   -- for this text's walks alone
set_option linter.unusedVariables false
set_option linter.unusedSimpArgs false

/-! ### billetlaw05_GraphCuts: function 5 -/
def billetlaw05_GraphCuts.l0 : Nat → List Bool → Bool → List Int → List Bool → Int → Int → List (S41) → Option (Bool)
 | 0, _, _, _, _, _, _, _ => none
 | k + 1, x2, x7, x9, x10, x11, x326000, x326001 => if x11 < x326000 then (if x11 < (x2.length : Int) then (if 0 ≤ x11 then (if x11 < (x10.length : Int) then (billetlaw05_GraphCuts.l0 k x2 x7 x9 (x10.set (x11 : Int).toNat (rdOf false x2 x11)) (wrap64 (x11 + 1)) x326000 x326001) else (none)) else (none)) else (if 0 < (x10.length : Int) then (if 1 < (x10.length : Int) then ((graph_Value.f k x326000 x326001 x9 0).bind fun t336 => (if x7 = true then (if t336 ≥ 0 then ((graph_Value.f k x326000 x326001 x9 1).bind fun t337 => (if t337 = (wrap64 (-t336)) then ((graph_Cut.f k x326000 x326001 ((x10.set (0 : Int).toNat true).set (1 : Int).toNat false)).bind fun t338 => (some (decide (t338 ≥ t336)))) else (some false))) else (some false)) else (some false))) else (none)) else (none))) else (if 0 < (x10.length : Int) then (if 1 < (x10.length : Int) then ((graph_Value.f k x326000 x326001 x9 0).bind fun t341 => (if x7 = true then (if t341 ≥ 0 then ((graph_Value.f k x326000 x326001 x9 1).bind fun t342 => (if t342 = (wrap64 (-t341)) then ((graph_Cut.f k x326000 x326001 ((x10.set (0 : Int).toNat true).set (1 : Int).toNat false)).bind fun t343 => (some (decide (t343 ≥ t341)))) else (some false))) else (some false)) else (some false))) else (none)) else (none))
def billetlaw05_GraphCuts.f (k : Nat) (a0_0 : Int) (l0_1 : List (S41)) (l1 : List Int) (l2 : List Bool) : Option (Bool) := (billetlaw05_awake.f k).bind fun t320 => ((billetlaw05_Fit.f k a0_0 l0_1).bind fun bt321 => ((billetlaw05_Flow.f k bt321.1 bt321.2 l1).bind fun t326 => (if 0 ≤ bt321.1 then (if (bt321.1 : Int).toNat ≤ 281474976710656 then (billetlaw05_GraphCuts.l0 k l2 t320 t326 (List.replicate (bt321.1 : Int).toNat false) 0 bt321.1 bt321.2) else (none)) else (none))))
theorem billetlaw05_GraphCuts.mono_l : ∀ k, (∀ y0 y1 y2 y3 y4 y5 y6, LeO (billetlaw05_GraphCuts.l0 k y0 y1 y2 y3 y4 y5 y6) (billetlaw05_GraphCuts.l0 (k + 1) y0 y1 y2 y3 y4 y5 y6))
 | 0 => fun _ _ _ _ _ _ _ r h => by simp [billetlaw05_GraphCuts.l0] at h
 | k + 1 => by
  have ih0 := billetlaw05_GraphCuts.mono_l k
  ·intro y0 y1 y2 y3 y4 y5 y6
   unfold billetlaw05_GraphCuts.l0
   repeat' first
   | (with_reducible exact ih0 _ _ _ _ _ _ _)
   | (with_reducible exact billetlaw05_Fit.mono _ _ _)
   | (with_reducible exact billetlaw05_Flow.mono _ _ _ _)
   | (with_reducible exact billetlaw05_awake.mono _)
   | (with_reducible exact graph_Cut.mono _ _ _ _)
   | (with_reducible exact graph_Value.mono _ _ _ _ _)
   | (with_reducible exact LeO.refl _)
   | (with_reducible exact LeO.none _)
   | (with_reducible refine LeO.ite ?_ ?_)
   | (with_reducible refine LeO.bind ?_ (fun _ => ?_))
   | exact ih0 _ _ _ _ _ _ _
   | exact billetlaw05_Fit.mono _ _ _
   | exact billetlaw05_Flow.mono _ _ _ _
   | exact billetlaw05_awake.mono _
   | exact graph_Cut.mono _ _ _ _
   | exact graph_Value.mono _ _ _ _ _
   | exact LeO.none _
   | refine LeO.ite ?_ ?_
   | refine LeO.bind ?_ (fun _ => ?_)
theorem billetlaw05_GraphCuts.mono : ∀ a0 a1 a2 a3 k, LeO (billetlaw05_GraphCuts.f k a0 a1 a2 a3) (billetlaw05_GraphCuts.f (k + 1) a0 a1 a2 a3) := by
 intro a0 a1 a2 a3 k
 have ih0 := billetlaw05_GraphCuts.mono_l k
 unfold billetlaw05_GraphCuts.f
 repeat' first
   | (with_reducible exact ih0 _ _ _ _ _ _ _)
   | (with_reducible exact billetlaw05_Fit.mono _ _ _)
   | (with_reducible exact billetlaw05_Flow.mono _ _ _ _)
   | (with_reducible exact billetlaw05_awake.mono _)
   | (with_reducible exact graph_Cut.mono _ _ _ _)
   | (with_reducible exact graph_Value.mono _ _ _ _ _)
   | (with_reducible exact LeO.refl _)
   | (with_reducible exact LeO.none _)
   | (with_reducible refine LeO.ite ?_ ?_)
   | (with_reducible refine LeO.bind ?_ (fun _ => ?_))
   | exact ih0 _ _ _ _ _ _ _
   | exact billetlaw05_Fit.mono _ _ _
   | exact billetlaw05_Flow.mono _ _ _ _
   | exact billetlaw05_awake.mono _
   | exact graph_Cut.mono _ _ _ _
   | exact graph_Value.mono _ _ _ _ _
   | exact LeO.none _
   | refine LeO.ite ?_ ?_
   | refine LeO.bind ?_ (fun _ => ?_)
set_option maxHeartbeats 8000000 in
set_option maxRecDepth 100000 in
theorem billetlaw05_GraphCuts.calls (k : Nat) (a0_0 : Int) (A0_1 : Option Addr) (c0_1 : Nat) (l0_1 : List (S41)) (A1 : Option Addr) (c1 : Nat) (l1 : List Int) (A2 : Option Addr) (c2 : Nat) (l2 : List Bool) (r : Bool) (w : World) (hr0_1 : Kd.C k41 w A0_1 l0_1.length l0_1) (hc0_1 : l0_1.length ≤ c0_1) (hr1 : Kd.C (Kd.int .i64) w A1 l1.length l1) (hc1 : l1.length ≤ c1) (hr2 : Kd.C Kd.bool w A2 l2.length l2) (hc2 : l2.length ≤ c2) (h : billetlaw05_GraphCuts.f k a0_0 l0_1 l1 l2 = some r) (hT_ : r = true) :
  Calls Try.prog 5 #[.agg #[.int .i64 a0_0, .slice A0_1 l0_1.length c0_1], .slice A1 l1.length c1, .slice A2 l2.length c2] w fun e w' => e = .returned (.bool r) ∧ Below w.heap.size w w' := by
 have HT_ := Aside0.mk hT_
 clear hT_
 have hu24 := Try.underlying24
 have HR0_1 := Aside0.mk hr0_1
 have HC0_1 := Aside0.mk hc0_1
 clear hr0_1 hc0_1
 have HR1 := Aside0.mk hr1
 have HC1 := Aside0.mk hc1
 clear hr1 hc1
 have HR2 := Aside0.mk hr2
 have HC2 := Aside0.mk hc2
 clear hr2 hc2
 have HB := Aside0.mk (Below.refl w.heap.size w)
 have H : ((billetlaw05_awake.f k).bind fun t320 => ((billetlaw05_Fit.f k a0_0 l0_1).bind fun bt321 => ((billetlaw05_Flow.f k bt321.1 bt321.2 l1).bind fun t326 => (if 0 ≤ bt321.1 then (if (bt321.1 : Int).toNat ≤ 281474976710656 then (billetlaw05_GraphCuts.l0 k l2 t320 t326 (List.replicate (bt321.1 : Int).toNat false) 0 bt321.1 bt321.2) else (none)) else (none))))) = some r := h
 clear h
 replace H := Option.bind_eq_some_iff.mp H
 obtain ⟨t320, A40, H⟩ := H
 replace H : ((billetlaw05_Fit.f k a0_0 l0_1).bind fun bt321 => ((billetlaw05_Flow.f k bt321.1 bt321.2 l1).bind fun t326 => (if 0 ≤ bt321.1 then (if (bt321.1 : Int).toNat ≤ 281474976710656 then (billetlaw05_GraphCuts.l0 k l2 t320 t326 (List.replicate (bt321.1 : Int).toNat false) 0 bt321.1 bt321.2) else (none)) else (none)))) = some r := H
 have A4 := Aside0.mk A40
 clear A40
 replace H := Option.bind_eq_some_iff.mp H
 obtain ⟨⟨t321, t322⟩, A50, H⟩ := H
 replace H : ((billetlaw05_Flow.f k t321 t322 l1).bind fun t326 => (if 0 ≤ t321 then (if (t321 : Int).toNat ≤ 281474976710656 then (billetlaw05_GraphCuts.l0 k l2 t320 t326 (List.replicate (t321 : Int).toNat false) 0 t321 t322) else (none)) else (none))) = some r := H
 have A5 := Aside0.mk A50
 clear A50
 replace H := Option.bind_eq_some_iff.mp H
 obtain ⟨t326, A60, H⟩ := H
 replace H : (if 0 ≤ t321 then (if (t321 : Int).toNat ≤ 281474976710656 then (billetlaw05_GraphCuts.l0 k l2 t320 t326 (List.replicate (t321 : Int).toNat false) 0 t321 t322) else (none)) else (none)) = some r := H
 have A6 := Aside0.mk A60
 clear A60
 by_cases c7 : 0 ≤ t321
 ·rw [if_pos c7] at H
  have c7b0 := eq_true c7
  have c7b1 : decide (0 ≤ t321) = true := decide_eq_true c7
  clear c7
  by_cases c8 : (t321 : Int).toNat ≤ 281474976710656
  ·rw [if_pos c8] at H
   have c8b0 := eq_true c8
   have c8b1 : decide ((t321 : Int).toNat ≤ 281474976710656) = true := decide_eq_true c8
   clear c8
   obtain ⟨y329, hy329⟩ : ∃ y_ : List Bool, y_ = (List.replicate (t321 : Int).toNat false) := ⟨_, rfl⟩
   replace H : (billetlaw05_GraphCuts.l0 k l2 t320 t326 y329 0 t321 t322) = some r := by first | (rw [hy329]; with_reducible exact H) | (have H2_ := (Option.bind_some _ _).symm.trans H; rw [hy329]; with_reducible exact H2_) | (have H2_ := (Option.bind_some _ _).symm.trans H; with_reducible exact H2_) | with_reducible exact H | (rw [hy329]; exact H) | exact H
   have Ny329 := Aside0.mk hy329
   clear hy329
   have H' := Aside0.mk H
   clear H
   go_enter Try.func5, Try.ntmps5
   go_wp2_with (first | ((with_reducible refine gate_dst (N := 3) rfl ?_); (try (refine gate_guard (by rfl) ?_; dsimp only)); refine box_event ?hg (N := 3) ?hd (cs := #[.int .i64 a0_0, .slice A0_1 l0_1.length c0_1]) (t := 24) ?hr ?_; (case hd => rfl); (case hg => rfl); (case hr => first | (go_simp; done) | (go_simp; rfl)); intro gb319 hg w9 hbox hb; have n0_ := Aside0.mk (below_step (by repeat (first | (with_reducible first | exact HB.out | apply below_alloc | apply pw_below_drewN | apply below_drew1) | exact HB.out)) hb); have n1_ := Aside0.mk (hbox); have n2_ := Aside0.mk ((by rw [hg]; exact (below_size (by repeat (first | (with_reducible first | exact HB.out | apply below_alloc | apply pw_below_drewN | apply below_drew1) | exact HB.out))) : w.heap.size ≤ gb319)); have n3_ := Aside0.mk ((by rw [hg]; exact (below_size (by repeat (first | (with_reducible first | exact HB.out | apply below_alloc | apply pw_below_drewN | apply below_drew1) | exact HB.out))) : w.heap.size ≤ gb319)); clear HB; have HB := n0_; have BK319 := n1_; have GW319 := n2_; have GE319 := n3_; clear n0_ n1_ n2_ n3_; clear hb hbox hg) | ((with_reducible refine gate_callee (f := 18) rfl ?_); refine goesL_ (some 13) rfl rfl Try.func18 (by kernel_rfl) rfl #[] rfl (by (try simp only [List.map_toArray, List.map_cons, List.map_nil]); first | done | rfl | (simp only [List.length_drop, List.length_take]; rfl)) ?_; (with_reducible refine (billetlaw05_awake.calls k  t320 _ A4.out).mono ?_); rintro e w10 ⟨rfl, hb⟩; refine ⟨_, rfl, ?_⟩; have n0_ := Aside0.mk (blk_below (g := gb319) (o := .cells #[.int .i64 a0_0, .slice A0_1 l0_1.length c0_1] 24 (0, 0)) (by (with_reducible repeat (first | refine blk_drewN ?_ _ | refine blk_drew ?_ | refine blk_alloc ?_ _)); exact BK319.out) hb); have n1_ := Aside0.mk (below_step (by repeat (first | (with_reducible first | exact HB.out | apply below_alloc | apply pw_below_drewN | apply below_drew1 | refine below_set ?_ GE319.out) | exact HB.out)) hb); clear BK319; clear HB; have BK319 := n0_; have HB := n1_; clear n0_ n1_; (try clear hb); (try clear hb2); (try clear hk); (try clear hi); have hcz11_0 : w10.cell? ⟨gb319, 0, none⟩ = some (.int .i64 a0_0) := (blk_cell BK319.out 0).trans rfl; have hcz11_1 : w10.cell? ⟨gb319, 1, none⟩ = some (.slice A0_1 l0_1.length c0_1) := (blk_cell BK319.out 1).trans rfl; have hfz11_0 := blk_frozen BK319.out 0; have hfz11_1 := blk_frozen BK319.out 1) | ((with_reducible refine gate_callee (f := 30) rfl ?_); refine goesL_ (some 15) rfl rfl Try.func30 (by kernel_rfl) rfl #[.agg #[.int .i64 a0_0, .slice A0_1 l0_1.length c0_1]] rfl (by (try simp only [List.map_toArray, List.map_cons, List.map_nil]); first | done | rfl | (simp only [List.length_drop, List.length_take]; rfl)) ?_; (with_reducible refine (billetlaw05_Fit.calls k a0_0 _ _ l0_1 t321 t322 _ ?side1 ?side2 A5.out).mono ?_); (case side1 => repeat (first | exact (Kd.C_below HR0_1.out HB.out) | (with_reducible refine Kd.C_alloc ?_ _) | (with_reducible refine Kd.C_drewN ?_ _) | (with_reducible refine Kd.C_drew ?_))); (case side2 => exact HC0_1.out); rintro e w12 ⟨v323, rfl, ho0, hb⟩; refine ⟨_, rfl, ?_⟩; have n0_ := Aside0.mk (Kd.R_lower ho0 (below_size (by repeat (first | (with_reducible first | exact HB.out | apply below_alloc | apply pw_below_drewN | apply below_drew1 | refine below_set ?_ GE319.out) | exact HB.out)))); have n1_ := Aside0.mk (blk_below (g := gb319) (o := .cells #[.int .i64 a0_0, .slice A0_1 l0_1.length c0_1] 24 (0, 0)) (by (with_reducible repeat (first | refine blk_drewN ?_ _ | refine blk_drew ?_ | refine blk_alloc ?_ _)); exact BK319.out) hb); have n2_ := Aside0.mk (below_step (by repeat (first | (with_reducible first | exact HB.out | apply below_alloc | apply pw_below_drewN | apply below_drew1 | refine below_set ?_ GE319.out) | exact HB.out)) hb); clear BK319; clear HB; have HO324 := n0_; have BK319 := n1_; have HB := n2_; clear n0_ n1_ n2_; (try clear hb); (try clear hb2); (try clear hk); (try clear hi); (try clear ho0)) | ((with_reducible refine gate_dst (N := 8) rfl ?_); (try (refine gate_guard (by rfl) ?_; dsimp only)); refine box_event ?hg (N := 8) ?hd (cs := #[.int .i64 0, .slice none 0 0]) (t := 24) ?hr ?_; (case hd => rfl); (case hg => rfl); (case hr => first | (go_simp; done) | (go_simp; rfl)); intro gb325 hg w13 hbox hb; have n0_ := Aside0.mk (Kd.R_below (by (with_reducible repeat (first | apply Kd.R_alloc | apply Kd.R_drewN | apply Kd.R_drew)); exact HO324.out) hb); have n1_ := Aside0.mk (blk_below (g := gb319) (o := .cells #[.int .i64 a0_0, .slice A0_1 l0_1.length c0_1] 24 (0, 0)) (by (with_reducible repeat (first | refine blk_drewN ?_ _ | refine blk_drew ?_ | refine blk_alloc ?_ _)); exact BK319.out) hb); have n2_ := Aside0.mk (below_step (by repeat (first | (with_reducible first | exact HB.out | apply below_alloc | apply pw_below_drewN | apply below_drew1 | refine below_set ?_ GE319.out) | exact HB.out)) hb); have n3_ := Aside0.mk (hbox); have n4_ := Aside0.mk ((by rw [hg]; exact (below_size (by repeat (first | (with_reducible first | exact HB.out | apply below_alloc | apply pw_below_drewN | apply below_drew1 | refine below_set ?_ GE319.out) | exact HB.out))) : w.heap.size ≤ gb325)); have n5_ := Aside0.mk ((by rw [hg]; exact (below_size (by repeat (first | (with_reducible first | exact HB.out | apply below_alloc | apply pw_below_drewN | apply below_drew1 | refine below_set ?_ GE319.out) | exact HB.out))) : w.heap.size ≤ gb325)); have n6_ := Aside0.mk ((by rw [hg]; exact Nat.ne_of_lt (blk_lt (g := gb319) (o := .cells #[.int .i64 a0_0, .slice A0_1 l0_1.length c0_1] 24 (0, 0)) (by (with_reducible repeat (first | refine blk_drewN ?_ _ | refine blk_drew ?_ | refine blk_alloc ?_ _)); exact BK319.out)) : gb319 ≠ gb325)); have n7_ := Aside0.mk ((by rw [hg]; exact Nat.ne_of_gt (blk_lt (g := gb319) (o := .cells #[.int .i64 a0_0, .slice A0_1 l0_1.length c0_1] 24 (0, 0)) (by (with_reducible repeat (first | refine blk_drewN ?_ _ | refine blk_drew ?_ | refine blk_alloc ?_ _)); exact BK319.out)) : gb325 ≠ gb319)); clear HO324; clear BK319; clear HB; have HO324 := n0_; have BK319 := n1_; have HB := n2_; have BK325 := n3_; have GW325 := n4_; have GE325 := n5_; have NB319_325 := n6_; have NB325_319 := n7_; clear n0_ n1_ n2_ n3_ n4_ n5_ n6_ n7_; clear hb hbox hg; have hnb14 := NB325_319.out; have hnc14 := NB319_325.out; have hcz15_0 : w13.cell? ⟨gb325, 0, none⟩ = some (.int .i64 0) := (blk_cell BK325.out 0).trans rfl; have hcz15_1 : w13.cell? ⟨gb325, 1, none⟩ = some (.slice none 0 0) := (blk_cell BK325.out 1).trans rfl; have hfz15_0 := blk_frozen BK325.out 0; have hfz15_1 := blk_frozen BK325.out 1; obtain ⟨Ao16, co16, eo16⟩ := Kd.R_slice HO324.out; subst eo16) | ((with_reducible refine gate_callee (f := 31) rfl ?_); refine goesL_ (some 18) rfl rfl Try.func31 (by kernel_rfl) rfl #[.agg #[.int .i64 t321, .slice Ao16 t322.length co16], .slice A1 l1.length c1] rfl (by (try simp only [List.map_toArray, List.map_cons, List.map_nil]); first | done | rfl | (simp only [List.length_drop, List.length_take]; rfl)) ?_; (with_reducible refine (billetlaw05_Flow.calls k t321 _ _ t322 _ _ l1 t326 _ ?side1 ?side2 ?side3 ?side4 A6.out).mono ?_); (case side1 => refine (Kd.R_reads' (e := 41) (base := w.heap.size) (ok := fun k_ => True) (n := t322.length) (c := co16) ?_).2.2; exact (by (with_reducible repeat (first | apply Kd.R_alloc | apply Kd.R_drewN | apply Kd.R_drew)); exact (Kd.R_mono (Kd.R_far (p := ⟨gb325, 1, none⟩) (Kd.R_far (p := ⟨gb325, 0, none⟩) (Kd.R_types HO324.out BK325.out (by decide)) (fun _ hk => hk.2) (.int .i64 t321)) (fun _ hk => hk.2) (.slice Ao16 t322.length co16)) (fun _ h_ => h_.1)))); (case side2 => exact (Kd.R_reads' HO324.out).2.1); (case side3 => exact Kd.C_below HR1.out (by repeat (first | (with_reducible first | exact HB.out | apply below_alloc | apply pw_below_drewN | apply below_drew1 | refine below_set ?_ GE319.out | refine below_set ?_ GE325.out) | exact HB.out))); (case side4 => exact HC1.out); rintro e w17 ⟨v327, rfl, ho0, hb⟩; refine ⟨_, rfl, ?_⟩; have n0_ := Aside0.mk (Kd.R_below (by (with_reducible repeat (first | apply Kd.R_alloc | apply Kd.R_drewN | apply Kd.R_drew)); exact (Kd.R_mono (Kd.R_far (p := ⟨gb325, 1, none⟩) (Kd.R_far (p := ⟨gb325, 0, none⟩) (Kd.R_types HO324.out BK325.out (by decide)) (fun _ hk => hk.2) (.int .i64 t321)) (fun _ hk => hk.2) (.slice Ao16 t322.length co16)) (fun _ h_ => h_.1))) hb); have n1_ := Aside0.mk (Kd.R_lower ho0 (below_size (by repeat (first | (with_reducible first | exact HB.out | apply below_alloc | apply pw_below_drewN | apply below_drew1 | refine below_set ?_ GE319.out | refine below_set ?_ GE325.out) | exact HB.out)))); have n2_ := Aside0.mk (blk_below (g := gb319) (o := .cells #[.int .i64 a0_0, .slice A0_1 l0_1.length c0_1] 24 (0, 0)) (by (with_reducible repeat (first | refine blk_drewN ?_ _ | refine blk_drew ?_ | refine blk_alloc ?_ _)); refine blk_far ?_ NB319_325.out _; (with_reducible repeat (first | refine blk_drewN ?_ _ | refine blk_drew ?_ | refine blk_alloc ?_ _)); refine blk_far ?_ NB319_325.out _; (with_reducible repeat (first | refine blk_drewN ?_ _ | refine blk_drew ?_ | refine blk_alloc ?_ _)); exact BK319.out) hb); have n3_ := Aside0.mk (blk_below (g := gb325) (o := .cells #[.int .i64 t321, .slice Ao16 t322.length co16] 24 (0, 0)) (by (with_reducible repeat (first | refine blk_drewN ?_ _ | refine blk_drew ?_ | refine blk_alloc ?_ _)); refine blk_put (cs := #[.int .i64 t321, .slice none 0 0]) ?_ 1 _ rfl; (with_reducible repeat (first | refine blk_drewN ?_ _ | refine blk_drew ?_ | refine blk_alloc ?_ _)); refine blk_put (cs := #[.int .i64 0, .slice none 0 0]) ?_ 0 _ rfl; (with_reducible repeat (first | refine blk_drewN ?_ _ | refine blk_drew ?_ | refine blk_alloc ?_ _)); exact BK325.out) hb); have n4_ := Aside0.mk (below_step (by repeat (first | (with_reducible first | exact HB.out | apply below_alloc | apply pw_below_drewN | apply below_drew1 | refine below_set ?_ GE319.out | refine below_set ?_ GE325.out) | exact HB.out)) hb); clear HO324; clear BK319; clear BK325; clear HB; have HO324 := n0_; have HO328 := n1_; have BK319 := n2_; have BK325 := n3_; have HB := n4_; clear n0_ n1_ n2_ n3_ n4_; (try clear hb); (try clear hb2); (try clear hk); (try clear hi); (try clear ho0); have hcz18_0 : w17.cell? ⟨gb325, 0, none⟩ = some (.int .i64 t321) := (blk_cell BK325.out 0).trans rfl; have hcz18_1 : w17.cell? ⟨gb325, 1, none⟩ = some (.slice Ao16 t322.length co16) := (blk_cell BK325.out 1).trans rfl; have hfz18_0 := blk_frozen BK325.out 0; have hfz18_1 := blk_frozen BK325.out 1) | ((with_reducible refine gate_dst (N := 21) rfl ?_); (try (refine gate_guard (by rfl) ?_; dsimp only)); refine Kd.R_make Kd.bool _ 4 rfl (N := 21) rfl 26 _ _ rfl t321 rfl rfl Try.underlying26 (.bool false) 1 info4 rfl (by decide) (by omega) false (ok := fun _ => True) (okp := fun _ => True) rfl (fun _ hk => hk) trivial (of_decide_eq_true (by first | (with_reducible assumption) | assumption)) (Nat.le_trans (Nat.mul_le_mul_right _ (of_decide_eq_true (by first | (with_reducible assumption) | assumption) : t321.toNat ≤ 281474976710656)) (by omega)) (Below.refl _ _) (Nat.le_refl _) ?_; intro v330 w19 ho20 hb hg_ hnew_; clear hg_ hnew_; (first | rw [← Ny329.out] at ho20 | (simp only [Int.reduceToNat] at ho20; rw [← Ny329.out] at ho20)); have n0_ := Aside0.mk (Kd.R_below (by (with_reducible repeat (first | apply Kd.R_alloc | apply Kd.R_drewN | apply Kd.R_drew)); exact HO324.out) hb); have n1_ := Aside0.mk (Kd.R_below (by (with_reducible repeat (first | apply Kd.R_alloc | apply Kd.R_drewN | apply Kd.R_drew)); exact HO328.out) hb); have n2_ := Aside0.mk (Kd.R_lower ho20 (below_size (by repeat (first | (with_reducible first | exact HB.out | apply below_alloc | apply pw_below_drewN | apply below_drew1 | refine below_set ?_ GE319.out | refine below_set ?_ GE325.out) | exact HB.out)))); have n3_ := Aside0.mk (blk_below (g := gb319) (o := .cells #[.int .i64 a0_0, .slice A0_1 l0_1.length c0_1] 24 (0, 0)) (by (with_reducible repeat (first | refine blk_drewN ?_ _ | refine blk_drew ?_ | refine blk_alloc ?_ _)); exact BK319.out) hb); have n4_ := Aside0.mk (blk_below (g := gb325) (o := .cells #[.int .i64 t321, .slice Ao16 t322.length co16] 24 (0, 0)) (by (with_reducible repeat (first | refine blk_drewN ?_ _ | refine blk_drew ?_ | refine blk_alloc ?_ _)); exact BK325.out) hb); have n5_ := Aside0.mk (below_step (by repeat (first | (with_reducible first | exact HB.out | apply below_alloc | apply pw_below_drewN | apply below_drew1 | refine below_set ?_ GE319.out | refine below_set ?_ GE325.out) | exact HB.out)) hb); clear HO324; clear HO328; clear BK319; clear BK325; clear HB; have HO324 := n0_; have HO328 := n1_; have HO331 := n2_; have BK319 := n3_; have BK325 := n4_; have HB := n5_; clear n0_ n1_ n2_ n3_ n4_ n5_; clear hb ho20))
   go_loopg [11] k (fun kq v11 w' => ∃ (x10_1 : List Bool) (x11_1 : Int), v11 = .int .i64 x11_1 ∧ Aside0 (billetlaw05_GraphCuts.l0 kq l2 t320 t326 x10_1 x11_1 t321 t322 = some r) ∧ Aside0 (kq ≤ k) ∧ Aside0 (Kd.R (Kd.int .i64) 3 w' w.heap.size (fun _ => True) v327 t326) ∧ Aside0 (Kd.R Kd.bool 4 w' w.heap.size (fun _ => True) v330 x10_1) ∧ Aside0 (Kd.R k41 41 w' w.heap.size (fun _ => True) (.slice Ao16 t322.length co16) t322) ∧ Aside0 (w'.heap[gb319]? = some (.cells #[.int .i64 a0_0, (.slice A0_1 l0_1.length c0_1)] 24 (0, 0))) ∧ Aside0 (w'.heap[gb325]? = some (.cells #[.int .i64 t321, (.slice Ao16 t322.length co16)] 24 (0, 0))) ∧ Aside0 (Below w.heap.size w w'))
   case atStart => exact ⟨(y329), (0), (by first | rfl | (simp; done) | (simp [*]; done)), H', ⟨Nat.le_refl _⟩, ⟨by (with_reducible repeat (first | apply Kd.R_alloc | apply Kd.R_drewN | apply Kd.R_drew)); exact HO328.out⟩, ⟨by (with_reducible repeat (first | apply Kd.R_alloc | apply Kd.R_drewN | apply Kd.R_drew)); exact HO331.out⟩, ⟨by (with_reducible repeat (first | apply Kd.R_alloc | apply Kd.R_drewN | apply Kd.R_drew)); exact HO324.out⟩, ⟨by (with_reducible repeat (first | refine blk_drewN ?_ _ | refine blk_drew ?_ | refine blk_alloc ?_ _)); exact BK319.out⟩, ⟨by (with_reducible repeat (first | refine blk_drewN ?_ _ | refine blk_drew ?_ | refine blk_alloc ?_ _)); exact BK325.out⟩, ⟨by repeat (first | (with_reducible first | exact HB.out | apply below_alloc | apply pw_below_drewN | apply below_drew1 | refine below_set ?_ GE319.out | refine below_set ?_ GE325.out) | exact HB.out)⟩⟩
   case round =>
    clear H'
    try clear c1
    try clear c2
    try clear p2
    try clear c3
    try clear c5
    try clear c7
    try clear c7b0
    try clear c7b1
    try clear c8
    try clear c8b0
    try clear c8b1
    try clear c14
    try clear c18
    try clear hcz11_0
    try clear hcz11_1
    try clear hcz15_0
    try clear hcz15_1
    try clear hcz18_0
    try clear hcz18_1
    try clear hfz11_0
    try clear hfz11_1
    try clear hfz15_0
    try clear hfz15_1
    try clear hfz18_0
    try clear hfz18_1
    obtain ⟨x10_1, x11_1, rfl, HA, HK1, HO_9, HO_10, HO_326001, BK319, BK325, HB⟩ := hrel
    cases gk with
    | zero => exact absurd HA.out (by simp [billetlaw05_GraphCuts.l0])
    | succ k1 =>
     have H := HA.out
     clear HA
     simp only [billetlaw05_GraphCuts.l0] at H
     by_cases c21 : x11_1 < t321
     ·rw [if_pos c21] at H
      have c21b0 : decide (x11_1 < t321) = true := decide_eq_true c21
      clear c21
      by_cases c22 : x11_1 < (l2.length : Int)
      ·rw [if_pos c22] at H
       have c22b0 : decide (x11_1 < (l2.length : Int)) = true := decide_eq_true c22
       clear c22
       by_cases c23 : 0 ≤ x11_1
       ·rw [if_pos c23] at H
        have c23b0 : decide (0 ≤ x11_1) = true := decide_eq_true c23
        clear c23
        by_cases c24 : x11_1 < (x10_1.length : Int)
        ·rw [if_pos c24] at H
         have c24b0 : decide (x11_1 < (x10_1.length : Int)) = true := decide_eq_true c24
         clear c24
         obtain ⟨y333, hy333⟩ : ∃ y_ : List Bool, y_ = (x10_1.set (x11_1 : Int).toNat (rdOf false l2 x11_1)) := ⟨_, rfl⟩
         replace H : (billetlaw05_GraphCuts.l0 k1 l2 t320 t326 y333 (wrap64 (x11_1 + 1)) t321 t322) = some r := by first | (rw [hy333]; with_reducible exact H) | (have H2_ := (Option.bind_some _ _).symm.trans H; rw [hy333]; with_reducible exact H2_) | (have H2_ := (Option.bind_some _ _).symm.trans H; with_reducible exact H2_) | with_reducible exact H | (rw [hy333]; exact H) | exact H
         have Ny333 := Aside0.mk hy333
         clear hy333
         have H' := Aside0.mk H
         clear H
         have hnb26 := NB325_319.out
         have hnc26 := NB319_325.out
         have hcz27_0 : wr.cell? ⟨gb325, 0, none⟩ = some (.int .i64 t321) := (blk_cell BK325.out 0).trans rfl
         have hcz27_1 : wr.cell? ⟨gb325, 1, none⟩ = some (.slice Ao16 t322.length co16) := (blk_cell BK325.out 1).trans rfl
         have hfz27_0 := blk_frozen BK325.out 0
         have hfz27_1 := blk_frozen BK325.out 1
         have p332 : 0 ≤ (x11_1 : Int) := of_decide_eq_true (by first | (with_reducible assumption) | assumption)
         have q332 : x11_1 < (l2.length : Int) := of_decide_eq_true (by first | (with_reducible assumption) | assumption)
         obtain ⟨ad332, e332, hx332_0⟩ := Kd.at_bool HR2.out x11_1 p332 q332
         cases e332
         replace hx332_0 := (HB.out.cell (World.block_lt_of_cell? w _ hx332_0)).trans hx332_0
         replace p332 := eq_true p332
         replace q332 := eq_true q332
         have p25 : 0 ≤ (x11_1 : Int) := of_decide_eq_true (by first | (with_reducible assumption) | assumption)
         have q25 : (x11_1 : Int) < ((x10_1.length : Int) : Int) := of_decide_eq_true (by first | (with_reducible assumption) | assumption)
         obtain ⟨go25, co25, eo25, gb25, gl25, cl25, HG25⟩ := Kd.R_form HO_10.out (by omega)
         (first | cases eo25 | (injection eo25 with ea_ en_ ec_; (first | subst ea_ | (injection ea_ with ea_; subst ea_)); subst ec_; clear en_))
         have GB25 := Aside0.mk gb25
         have GG25 := Aside0.mk HG25
         clear gb25 gl25 HG25
         obtain ⟨hx25_0, hf25_0⟩ := Kd.R_celln false HO_10.out (x11_1 : Int) p25 q25
         replace p25 := eq_true p25
         replace q25 := eq_true q25
         have HP28 := Kd.R_putg HO_10.out (x11_1 : Int) (rdOf false l2 x11_1)
         go_wp2_with (first | ((with_reducible refine gate_store (t := 4) (p := 40) rfl ?_); refine store_event (t := 4) (p := 40) (v := ?vo_w29) (w1 := (wr.setCell ⟨go25, (x11_1 : Int).toNat, none⟩ (.bool (rdOf false l2 x11_1)))) ?hg ?ho ?hn ?hr ?_; (case ho => rfl); (case hg => rfl); (case hn => rfl); (case hr => first | (go_simp; done) | (go_simp; rfl)); intro w29 hw; have hg : wr.grownBy w29 (some go25) := (by rw [hw]; exact HP28.2); have hp_ : Kd.R Kd.bool 4 w29 w.heap.size (fun _ => True) (.slice (some ⟨go25, 0, none⟩) x10_1.length co25) y333 := (by rw [hw, Ny333.out]; exact HP28.1); clear HP28; have n0_ := Aside0.mk (Kd.R_over' (v := (.slice (some ⟨go25, 0, none⟩) x10_1.length co25)) (by (with_reducible repeat (first | apply Kd.R_alloc | apply Kd.R_drewN | apply Kd.R_drew)); exact HO_9.out) (Kd.R_typed HO_10.out) (by decide) hg); have n1_ := Aside0.mk (hp_); have n2_ := Aside0.mk (Kd.R_over' (v := (.slice (some ⟨go25, 0, none⟩) x10_1.length co25)) (by (with_reducible repeat (first | apply Kd.R_alloc | apply Kd.R_drewN | apply Kd.R_drew)); exact HO_326001.out) (Kd.R_typed HO_10.out) (by decide) hg); have n3_ := Aside0.mk (blk_grown (g := gb319) (o := .cells #[.int .i64 a0_0, .slice A0_1 l0_1.length c0_1] 24 (0, 0)) (by (with_reducible repeat (first | refine blk_drewN ?_ _ | refine blk_drew ?_ | refine blk_alloc ?_ _)); exact BK319.out) hg (Kd.R_ne HO_10.out BK319.out (by decide))); have n4_ := Aside0.mk (blk_grown (g := gb325) (o := .cells #[.int .i64 t321, .slice Ao16 t322.length co16] 24 (0, 0)) (by (with_reducible repeat (first | refine blk_drewN ?_ _ | refine blk_drew ?_ | refine blk_alloc ?_ _)); exact BK325.out) hg (Kd.R_ne HO_10.out BK325.out (by decide))); have n5_ := Aside0.mk ((by rw [hw]; exact below_set (HB.out) GB25.out : Below w.heap.size w w29)); clear HO_9; clear HO_10; clear HO_326001; clear BK319; clear BK325; clear HB; have HO_9 := n0_; have HO_10 := n1_; have HO_326001 := n2_; have BK319 := n3_; have BK325 := n4_; have HB := n5_; clear n0_ n1_ n2_ n3_ n4_ n5_; clear hg hw hp_))
         go_roundg k1
         case measure => have := HK1.out; omega
         case rel => exact ⟨(y333), (wrap64 (x11_1 + 1)), (by first | rfl | (simp; done) | (simp [*]; done)), H', ⟨by have := HK1.out; omega⟩, ⟨by (with_reducible repeat (first | apply Kd.R_alloc | apply Kd.R_drewN | apply Kd.R_drew)); exact HO_9.out⟩, ⟨by (with_reducible repeat (first | apply Kd.R_alloc | apply Kd.R_drewN | apply Kd.R_drew)); exact HO_10.out⟩, ⟨by (with_reducible repeat (first | apply Kd.R_alloc | apply Kd.R_drewN | apply Kd.R_drew)); exact HO_326001.out⟩, ⟨by (with_reducible repeat (first | refine blk_drewN ?_ _ | refine blk_drew ?_ | refine blk_alloc ?_ _)); exact BK319.out⟩, ⟨by (with_reducible repeat (first | refine blk_drewN ?_ _ | refine blk_drew ?_ | refine blk_alloc ?_ _)); exact BK325.out⟩, ⟨by repeat (first | (with_reducible first | exact HB.out | apply below_alloc | apply pw_below_drewN | apply below_drew1 | refine below_set ?_ GE319.out | refine below_set ?_ GE325.out) | exact HB.out)⟩⟩
        ·rw [if_neg c24] at H
         exact absurd H (by simp)
       ·rw [if_neg c23] at H
        exact absurd H (by simp)
      ·rw [if_neg c22] at H
       have c22b0 : decide (x11_1 < (l2.length : Int)) = false := decide_eq_false c22
       clear c22
       by_cases c30 : 0 < (x10_1.length : Int)
       ·rw [if_pos c30] at H
        have c30b0 : decide (0 < (x10_1.length : Int)) = true := decide_eq_true c30
        have c30b1 : decide (0 < x10_1.length) = true := decide_eq_true (by omega)
        clear c30
        obtain ⟨y334, hy334⟩ : ∃ y_ : List Bool, y_ = (x10_1.set (0 : Int).toNat true) := ⟨_, rfl⟩
        replace H : (if 1 < (x10_1.length : Int) then ((graph_Value.f k1 t321 t322 t326 0).bind fun t336 => (if t320 = true then (if t336 ≥ 0 then ((graph_Value.f k1 t321 t322 t326 1).bind fun t337 => (if t337 = (wrap64 (-t336)) then ((graph_Cut.f k1 t321 t322 (y334.set (1 : Int).toNat false)).bind fun t338 => (some (decide (t338 ≥ t336)))) else (some false))) else (some false)) else (some false))) else (none)) = some r := by first | (rw [hy334]; with_reducible exact H) | (have H2_ := (Option.bind_some _ _).symm.trans H; rw [hy334]; with_reducible exact H2_) | (have H2_ := (Option.bind_some _ _).symm.trans H; with_reducible exact H2_) | with_reducible exact H | (rw [hy334]; exact H) | exact H
        have Ny334 := Aside0.mk hy334
        clear hy334
        by_cases c32 : 1 < (x10_1.length : Int)
        ·rw [if_pos c32] at H
         have c32b0 : decide (1 < (x10_1.length : Int)) = true := decide_eq_true c32
         have c32b1 : decide (1 < x10_1.length) = true := decide_eq_true (by omega)
         clear c32
         obtain ⟨y335, hy335⟩ : ∃ y_ : List Bool, y_ = (y334.set (1 : Int).toNat false) := ⟨_, rfl⟩
         replace H : ((graph_Value.f k1 t321 t322 t326 0).bind fun t336 => (if t320 = true then (if t336 ≥ 0 then ((graph_Value.f k1 t321 t322 t326 1).bind fun t337 => (if t337 = (wrap64 (-t336)) then ((graph_Cut.f k1 t321 t322 y335).bind fun t338 => (some (decide (t338 ≥ t336)))) else (some false))) else (some false)) else (some false))) = some r := by first | (rw [hy335]; with_reducible exact H) | (have H2_ := (Option.bind_some _ _).symm.trans H; rw [hy335]; with_reducible exact H2_) | (have H2_ := (Option.bind_some _ _).symm.trans H; with_reducible exact H2_) | with_reducible exact H | (rw [hy335]; exact H) | exact H
         have Ny335 := Aside0.mk hy335
         clear hy335
         replace H := Option.bind_eq_some_iff.mp H
         obtain ⟨t336, A340, H⟩ := H
         replace H : (if t320 = true then (if t336 ≥ 0 then ((graph_Value.f k1 t321 t322 t326 1).bind fun t337 => (if t337 = (wrap64 (-t336)) then ((graph_Cut.f k1 t321 t322 y335).bind fun t338 => (some (decide (t338 ≥ t336)))) else (some false))) else (some false)) else (some false)) = some r := H
         have A34 := Aside0.mk A340
         clear A340
         by_cases c35 : t320 = true
         ·subst c35
          have H1 : (if t336 ≥ 0 then ((graph_Value.f k1 t321 t322 t326 1).bind fun t337 => (if t337 = (wrap64 (-t336)) then ((graph_Cut.f k1 t321 t322 y335).bind fun t338 => (some (decide (t338 ≥ t336)))) else (some false))) else (some false)) = some r := by rw [if_pos rfl] at H; exact H
          clear H
          have H := H1
          clear H1
          by_cases c36 : t336 ≥ 0
          ·rw [if_pos c36] at H
           have c36b0 : decide (0 ≤ t336) = true := decide_eq_true c36
           clear c36
           replace H := Option.bind_eq_some_iff.mp H
           obtain ⟨t337, A370, H⟩ := H
           replace H : (if t337 = (wrap64 (-t336)) then ((graph_Cut.f k1 t321 t322 y335).bind fun t338 => (some (decide (t338 ≥ t336)))) else (some false)) = some r := H
           have A37 := Aside0.mk A370
           clear A370
           by_cases c38 : t337 = (wrap64 (-t336))
           ·rw [if_pos c38] at H
            have c38b0 : (t337 == (wrap64 (-t336))) = true := beq_iff_eq.mpr c38
            have c38b1 : (t337 != (wrap64 (-t336))) = false := bne_eq_false_iff_eq.mpr c38
            clear c38
            replace H := Option.bind_eq_some_iff.mp H
            obtain ⟨t338, A390, H⟩ := H
            replace H : (some (decide (t338 ≥ t336))) = some r := H
            have A39 := Aside0.mk A390
            clear A390
            obtain rfl := Option.some.inj H
            have hnb40 := NB325_319.out
            have hnc40 := NB319_325.out
            have hcz41_0 : wr.cell? ⟨gb325, 0, none⟩ = some (.int .i64 t321) := (blk_cell BK325.out 0).trans rfl
            have hcz41_1 : wr.cell? ⟨gb325, 1, none⟩ = some (.slice Ao16 t322.length co16) := (blk_cell BK325.out 1).trans rfl
            have hfz41_0 := blk_frozen BK325.out 0
            have hfz41_1 := blk_frozen BK325.out 1
            have p31 : 0 ≤ (0 : Int) := (by omega)
            have q31 : (0 : Int) < ((x10_1.length : Int) : Int) := of_decide_eq_true (by first | (with_reducible assumption) | assumption)
            have qi31 : (0 < x10_1.length) = True := eq_true (by omega)
            obtain ⟨go31, co31, eo31, gb31, gl31, cl31, HG31⟩ := Kd.R_form HO_10.out (by omega)
            (first | cases eo31 | (injection eo31 with ea_ en_ ec_; (first | subst ea_ | (injection ea_ with ea_; subst ea_)); subst ec_; clear en_))
            have GB31 := Aside0.mk gb31
            have GG31 := Aside0.mk HG31
            clear gb31 gl31 HG31
            obtain ⟨hx31_0, hf31_0⟩ := Kd.R_celln false HO_10.out (0 : Int) p31 q31
            (try rw [show ((0 : Int)).toNat = 0 from rfl] at hx31_0)
            (try simp only [Nat.reduceMul, Nat.zero_mul, Nat.zero_add, Nat.reduceAdd] at hx31_0)
            (try rw [show ((0 : Int)).toNat = 0 from rfl] at hf31_0)
            (try simp only [Nat.reduceMul, Nat.zero_mul, Nat.zero_add, Nat.reduceAdd] at hf31_0)
            replace p31 := eq_true p31
            replace q31 := eq_true q31
            have HP42 := Kd.R_putg HO_10.out (0 : Int) true
            go_wp2_with (first | ((with_reducible refine gate_store (t := 4) (p := 42) rfl ?_); refine store_event (t := 4) (p := 42) (v := ?vo_w43) (w1 := (wr.setCell ⟨go31, (0 : Int).toNat, none⟩ (.bool true))) ?hg ?ho ?hn ?hr ?_; (case ho => rfl); (case hg => rfl); (case hn => rfl); (case hr => first | (go_simp; done) | (go_simp; rfl)); intro w43 hw; have hg : wr.grownBy w43 (some go31) := (by rw [hw]; exact HP42.2); have hp_ : Kd.R Kd.bool 4 w43 w.heap.size (fun _ => True) (.slice (some ⟨go31, 0, none⟩) x10_1.length co31) y334 := (by rw [hw, Ny334.out]; exact HP42.1); clear HP42; have n0_ := Aside0.mk (Kd.R_over' (v := (.slice (some ⟨go31, 0, none⟩) x10_1.length co31)) (by (with_reducible repeat (first | apply Kd.R_alloc | apply Kd.R_drewN | apply Kd.R_drew)); exact HO_9.out) (Kd.R_typed HO_10.out) (by decide) hg); have n1_ := Aside0.mk (hp_); have n2_ := Aside0.mk (Kd.R_over' (v := (.slice (some ⟨go31, 0, none⟩) x10_1.length co31)) (by (with_reducible repeat (first | apply Kd.R_alloc | apply Kd.R_drewN | apply Kd.R_drew)); exact HO_326001.out) (Kd.R_typed HO_10.out) (by decide) hg); have n3_ := Aside0.mk (blk_grown (g := gb319) (o := .cells #[.int .i64 a0_0, .slice A0_1 l0_1.length c0_1] 24 (0, 0)) (by (with_reducible repeat (first | refine blk_drewN ?_ _ | refine blk_drew ?_ | refine blk_alloc ?_ _)); exact BK319.out) hg (Kd.R_ne HO_10.out BK319.out (by decide))); have n4_ := Aside0.mk (blk_grown (g := gb325) (o := .cells #[.int .i64 t321, .slice Ao16 t322.length co16] 24 (0, 0)) (by (with_reducible repeat (first | refine blk_drewN ?_ _ | refine blk_drew ?_ | refine blk_alloc ?_ _)); exact BK325.out) hg (Kd.R_ne HO_10.out BK325.out (by decide))); have n5_ := Aside0.mk ((by rw [hw]; exact below_set (HB.out) GB31.out : Below w.heap.size w w43)); clear HO_9; clear HO_10; clear HO_326001; clear BK319; clear BK325; clear HB; have HO_9 := n0_; have HO_10 := n1_; have HO_326001 := n2_; have BK319 := n3_; have BK325 := n4_; have HB := n5_; clear n0_ n1_ n2_ n3_ n4_ n5_; clear hg hw hp_; have p33 : 0 ≤ (1 : Int) := (by omega); have q33 : (1 : Int) < ((x10_1.length : Int) : Int) := of_decide_eq_true (by first | (with_reducible assumption) | assumption); have qi33 : (1 < x10_1.length) = True := eq_true (by omega); obtain ⟨hx33_0, hf33_0⟩ := Kd.R_celln false HO_10.out (1 : Int) p33 q33; (try rw [show ((1 : Int)).toNat = 1 from rfl] at hx33_0); (try simp only [Nat.reduceMul, Nat.zero_mul, Nat.zero_add, Nat.reduceAdd] at hx33_0); (try rw [show ((1 : Int)).toNat = 1 from rfl] at hf33_0); (try simp only [Nat.reduceMul, Nat.zero_mul, Nat.zero_add, Nat.reduceAdd] at hf33_0); replace p33 := eq_true p33; replace q33 := eq_true q33; obtain ⟨hy44_, hz44_⟩ := Kd.R_celln false HO_10.out (1 : Int) (by omega) (of_decide_eq_true (by first | (with_reducible assumption) | assumption)); (try simp only [Int.reduceToNat, Int.toNat_zero, Int.toNat_ofNat, Nat.reduceMul, Nat.zero_mul, Nat.zero_add] at hy44_ hz44_); (try rw [show ((1 : Int)).toNat = 1 from rfl] at hy44_); (try rw [show ((1 : Int)).toNat = 1 from rfl] at hz44_); have HP44 := Kd.R_putg HO_10.out (1 : Int) false) | ((with_reducible refine gate_store (t := 4) (p := 44) rfl ?_); refine store_event (t := 4) (p := 44) (v := ?vo_w45) (w1 := (w43.setCell ⟨go31, (1 : Int).toNat, none⟩ (.bool false))) ?hg ?ho ?hn ?hr ?_; (case ho => rfl); (case hg => rfl); (case hn => rfl); (case hr => first | (go_simp; done) | (go_simp; rfl)); intro w45 hw; have hg : w43.grownBy w45 (some go31) := (by rw [hw]; exact HP44.2); have hp_ : Kd.R Kd.bool 4 w45 w.heap.size (fun _ => True) (.slice (some ⟨go31, 0, none⟩) x10_1.length co31) y335 := (by rw [hw, Ny335.out]; exact HP44.1); clear HP44; have n0_ := Aside0.mk (Kd.R_over' (v := (.slice (some ⟨go31, 0, none⟩) x10_1.length co31)) (by (with_reducible repeat (first | apply Kd.R_alloc | apply Kd.R_drewN | apply Kd.R_drew)); exact HO_9.out) (Kd.R_typed HO_10.out) (by decide) hg); have n1_ := Aside0.mk (hp_); have n2_ := Aside0.mk (Kd.R_over' (v := (.slice (some ⟨go31, 0, none⟩) x10_1.length co31)) (by (with_reducible repeat (first | apply Kd.R_alloc | apply Kd.R_drewN | apply Kd.R_drew)); exact HO_326001.out) (Kd.R_typed HO_10.out) (by decide) hg); have n3_ := Aside0.mk (blk_grown (g := gb319) (o := .cells #[.int .i64 a0_0, .slice A0_1 l0_1.length c0_1] 24 (0, 0)) (by (with_reducible repeat (first | refine blk_drewN ?_ _ | refine blk_drew ?_ | refine blk_alloc ?_ _)); exact BK319.out) hg (Kd.R_ne HO_10.out BK319.out (by decide))); have n4_ := Aside0.mk (blk_grown (g := gb325) (o := .cells #[.int .i64 t321, .slice Ao16 t322.length co16] 24 (0, 0)) (by (with_reducible repeat (first | refine blk_drewN ?_ _ | refine blk_drew ?_ | refine blk_alloc ?_ _)); exact BK325.out) hg (Kd.R_ne HO_10.out BK325.out (by decide))); have n5_ := Aside0.mk ((by rw [hw]; exact below_set (HB.out) GB31.out : Below w.heap.size w w45)); clear HO_9; clear HO_10; clear HO_326001; clear BK319; clear BK325; clear HB; have HO_9 := n0_; have HO_10 := n1_; have HO_326001 := n2_; have BK319 := n3_; have BK325 := n4_; have HB := n5_; clear n0_ n1_ n2_ n3_ n4_ n5_; clear hg hw hp_; have hcz46_0 : w45.cell? ⟨gb325, 0, none⟩ = some (.int .i64 t321) := (blk_cell BK325.out 0).trans rfl; have hcz46_1 : w45.cell? ⟨gb325, 1, none⟩ = some (.slice Ao16 t322.length co16) := (blk_cell BK325.out 1).trans rfl; have hfz46_0 := blk_frozen BK325.out 0; have hfz46_1 := blk_frozen BK325.out 1; obtain ⟨Ao47, co47, eo47⟩ := Kd.R_slice HO_9.out; subst eo47) | ((with_reducible refine gate_callee (f := 25) rfl ?_); refine goesL_ (some 47) rfl rfl Try.func25 (by kernel_rfl) rfl #[.agg #[.int .i64 t321, .slice Ao16 t322.length co16], .slice Ao47 t326.length co47, .int .i64 0] rfl (by (try simp only [List.map_toArray, List.map_cons, List.map_nil]); first | done | rfl | (simp only [List.length_drop, List.length_take]; rfl)) ?_; (with_reducible refine (graph_Value.calls k1 t321 _ _ t322 _ _ t326 0 t336 _ ?side1 ?side2 ?side3 ?side4 A34.out).mono ?_); (case side1 => repeat (first | exact (Kd.R_reads' HO_326001.out).2.2 | (with_reducible refine Kd.C_alloc ?_ _) | (with_reducible refine Kd.C_drewN ?_ _) | (with_reducible refine Kd.C_drew ?_))); (case side2 => exact (Kd.R_reads' HO_326001.out).2.1); (case side3 => repeat (first | exact (Kd.R_reads' HO_9.out).2.2 | (with_reducible refine Kd.C_alloc ?_ _) | (with_reducible refine Kd.C_drewN ?_ _) | (with_reducible refine Kd.C_drew ?_))); (case side4 => exact (Kd.R_reads' HO_9.out).2.1); rintro e w48 ⟨rfl, hb⟩; refine ⟨_, rfl, ?_⟩; have n0_ := Aside0.mk (Kd.R_below (by (with_reducible repeat (first | apply Kd.R_alloc | apply Kd.R_drewN | apply Kd.R_drew)); exact HO_9.out) hb); have n1_ := Aside0.mk (Kd.R_below (by (with_reducible repeat (first | apply Kd.R_alloc | apply Kd.R_drewN | apply Kd.R_drew)); exact HO_10.out) hb); have n2_ := Aside0.mk (Kd.R_below (by (with_reducible repeat (first | apply Kd.R_alloc | apply Kd.R_drewN | apply Kd.R_drew)); exact HO_326001.out) hb); have n3_ := Aside0.mk (blk_below (g := gb319) (o := .cells #[.int .i64 a0_0, .slice A0_1 l0_1.length c0_1] 24 (0, 0)) (by (with_reducible repeat (first | refine blk_drewN ?_ _ | refine blk_drew ?_ | refine blk_alloc ?_ _)); exact BK319.out) hb); have n4_ := Aside0.mk (blk_below (g := gb325) (o := .cells #[.int .i64 t321, .slice Ao16 t322.length co16] 24 (0, 0)) (by (with_reducible repeat (first | refine blk_drewN ?_ _ | refine blk_drew ?_ | refine blk_alloc ?_ _)); exact BK325.out) hb); have n5_ := Aside0.mk (below_step (by repeat (first | (with_reducible first | exact HB.out | apply below_alloc | apply pw_below_drewN | apply below_drew1 | refine below_set ?_ GE319.out | refine below_set ?_ GE325.out) | exact HB.out)) hb); clear HO_9; clear HO_10; clear HO_326001; clear BK319; clear BK325; clear HB; have HO_9 := n0_; have HO_10 := n1_; have HO_326001 := n2_; have BK319 := n3_; have BK325 := n4_; have HB := n5_; clear n0_ n1_ n2_ n3_ n4_ n5_; (try clear hb); (try clear hb2); (try clear hk); (try clear hi); have hcz49_0 : w48.cell? ⟨gb325, 0, none⟩ = some (.int .i64 t321) := (blk_cell BK325.out 0).trans rfl; have hcz49_1 : w48.cell? ⟨gb325, 1, none⟩ = some (.slice Ao16 t322.length co16) := (blk_cell BK325.out 1).trans rfl; have hfz49_0 := blk_frozen BK325.out 0; have hfz49_1 := blk_frozen BK325.out 1) | (go_at_call 25; (with_reducible refine (graph_Value.calls k1 t321 _ _ t322 _ _ t326 1 t337 _ ?side1 ?side2 ?side3 ?side4 A37.out).mono ?_); (case side1 => repeat (first | exact (Kd.R_reads' HO_326001.out).2.2 | (with_reducible refine Kd.C_alloc ?_ _) | (with_reducible refine Kd.C_drewN ?_ _) | (with_reducible refine Kd.C_drew ?_))); (case side2 => exact (Kd.R_reads' HO_326001.out).2.1); (case side3 => repeat (first | exact (Kd.R_reads' HO_9.out).2.2 | (with_reducible refine Kd.C_alloc ?_ _) | (with_reducible refine Kd.C_drewN ?_ _) | (with_reducible refine Kd.C_drew ?_))); (case side4 => exact (Kd.R_reads' HO_9.out).2.1); rintro e w50 ⟨rfl, hb⟩; have n0_ := Aside0.mk (Kd.R_below (by (with_reducible repeat (first | apply Kd.R_alloc | apply Kd.R_drewN | apply Kd.R_drew)); exact HO_9.out) hb); have n1_ := Aside0.mk (Kd.R_below (by (with_reducible repeat (first | apply Kd.R_alloc | apply Kd.R_drewN | apply Kd.R_drew)); exact HO_10.out) hb); have n2_ := Aside0.mk (Kd.R_below (by (with_reducible repeat (first | apply Kd.R_alloc | apply Kd.R_drewN | apply Kd.R_drew)); exact HO_326001.out) hb); have n3_ := Aside0.mk (blk_below (g := gb319) (o := .cells #[.int .i64 a0_0, .slice A0_1 l0_1.length c0_1] 24 (0, 0)) (by (with_reducible repeat (first | refine blk_drewN ?_ _ | refine blk_drew ?_ | refine blk_alloc ?_ _)); exact BK319.out) hb); have n4_ := Aside0.mk (blk_below (g := gb325) (o := .cells #[.int .i64 t321, .slice Ao16 t322.length co16] 24 (0, 0)) (by (with_reducible repeat (first | refine blk_drewN ?_ _ | refine blk_drew ?_ | refine blk_alloc ?_ _)); exact BK325.out) hb); have n5_ := Aside0.mk (below_step (by repeat (first | (with_reducible first | exact HB.out | apply below_alloc | apply pw_below_drewN | apply below_drew1 | refine below_set ?_ GE319.out | refine below_set ?_ GE325.out) | exact HB.out)) hb); clear HO_9; clear HO_10; clear HO_326001; clear BK319; clear BK325; clear HB; have HO_9 := n0_; have HO_10 := n1_; have HO_326001 := n2_; have BK319 := n3_; have BK325 := n4_; have HB := n5_; clear n0_ n1_ n2_ n3_ n4_ n5_; (try clear hb); (try clear hb2); (try clear hk); (try clear hi); have hcz51_0 : w50.cell? ⟨gb325, 0, none⟩ = some (.int .i64 t321) := (blk_cell BK325.out 0).trans rfl; have hcz51_1 : w50.cell? ⟨gb325, 1, none⟩ = some (.slice Ao16 t322.length co16) := (blk_cell BK325.out 1).trans rfl; have hfz51_0 := blk_frozen BK325.out 0; have hfz51_1 := blk_frozen BK325.out 1) | (go_at_call 28; refine calls_of_args (args' := #[.agg #[.int .i64 t321, .slice Ao16 t322.length co16], .slice (some ⟨go31, 0, none⟩) y335.length co31]) (by first | (rw [show y335.length = x10_1.length from (Kd.R_reads' HO_10.out).1.symm] <;> rfl) | rfl) ?_; (with_reducible refine (graph_Cut.calls k1 t321 _ _ t322 _ _ y335 t338 _ ?side1 ?side2 ?side3 ?side4 A39.out).mono ?_); (case side1 => repeat (first | exact (Kd.R_reads' HO_326001.out).2.2 | (with_reducible refine Kd.C_alloc ?_ _) | (with_reducible refine Kd.C_drewN ?_ _) | (with_reducible refine Kd.C_drew ?_))); (case side2 => exact (Kd.R_reads' HO_326001.out).2.1); (case side3 => repeat (first | exact (Kd.R_reads' HO_10.out).2.2 | (with_reducible refine Kd.C_alloc ?_ _) | (with_reducible refine Kd.C_drewN ?_ _) | (with_reducible refine Kd.C_drew ?_))); (case side4 => rw [show y335.length = x10_1.length from (Kd.R_reads' HO_10.out).1.symm]; exact (Kd.R_reads' HO_10.out).2.1); rintro e w52 ⟨rfl, hb⟩; have n0_ := Aside0.mk (Kd.R_below (by (with_reducible repeat (first | apply Kd.R_alloc | apply Kd.R_drewN | apply Kd.R_drew)); exact HO_9.out) hb); have n1_ := Aside0.mk (Kd.R_below (by (with_reducible repeat (first | apply Kd.R_alloc | apply Kd.R_drewN | apply Kd.R_drew)); exact HO_10.out) hb); have n2_ := Aside0.mk (Kd.R_below (by (with_reducible repeat (first | apply Kd.R_alloc | apply Kd.R_drewN | apply Kd.R_drew)); exact HO_326001.out) hb); have n3_ := Aside0.mk (blk_below (g := gb319) (o := .cells #[.int .i64 a0_0, .slice A0_1 l0_1.length c0_1] 24 (0, 0)) (by (with_reducible repeat (first | refine blk_drewN ?_ _ | refine blk_drew ?_ | refine blk_alloc ?_ _)); exact BK319.out) hb); have n4_ := Aside0.mk (blk_below (g := gb325) (o := .cells #[.int .i64 t321, .slice Ao16 t322.length co16] 24 (0, 0)) (by (with_reducible repeat (first | refine blk_drewN ?_ _ | refine blk_drew ?_ | refine blk_alloc ?_ _)); exact BK325.out) hb); have n5_ := Aside0.mk (below_step (by repeat (first | (with_reducible first | exact HB.out | apply below_alloc | apply pw_below_drewN | apply below_drew1 | refine below_set ?_ GE319.out | refine below_set ?_ GE325.out) | exact HB.out)) hb); clear HO_9; clear HO_10; clear HO_326001; clear BK319; clear BK325; clear HB; have HO_9 := n0_; have HO_10 := n1_; have HO_326001 := n2_; have BK319 := n3_; have BK325 := n4_; have HB := n5_; clear n0_ n1_ n2_ n3_ n4_ n5_; (try clear hb); (try clear hb2); (try clear hk); (try clear hi)))
            go_ret
            exact ⟨by first | rfl | (simp [errW_none, errW_some] <;> rfl) | (simp [*, errW_none, errW_some] <;> rfl), by repeat (first | (with_reducible first | exact HB.out | apply below_alloc | apply pw_below_drewN | apply below_drew1 | refine below_set ?_ GE319.out | refine below_set ?_ GE325.out) | exact HB.out)⟩
           ·rw [if_neg c38] at H
            have c38b0 : (t337 == (wrap64 (-t336))) = false := beq_eq_false_iff_ne.mpr c38
            have c38b1 : (t337 != (wrap64 (-t336))) = true := bne_iff_ne.mpr c38
            exact absurd (H.trans (congrArg some HT_.out)) (by simp)
          ·rw [if_neg c36] at H
           have c36b0 : decide (0 ≤ t336) = false := decide_eq_false c36
           clear c36
           exact absurd (H.trans (congrArg some HT_.out)) (by simp)
         ·replace c35 := Bool.eq_false_iff.mpr c35
          subst c35
          have H1 : (some false) = some r := by rw [if_neg (show ¬ (false = true) by decide)] at H; exact H
          clear H
          have H := H1
          clear H1
          exact absurd (H.trans (congrArg some HT_.out)) (by simp)
        ·rw [if_neg c32] at H
         exact absurd H (by simp)
       ·rw [if_neg c30] at H
        exact absurd H (by simp)
     ·rw [if_neg c21] at H
      have c21b0 : decide (x11_1 < t321) = false := decide_eq_false c21
      clear c21
      by_cases c82 : 0 < (x10_1.length : Int)
      ·rw [if_pos c82] at H
       have c82b0 : decide (0 < (x10_1.length : Int)) = true := decide_eq_true c82
       have c82b1 : decide (0 < x10_1.length) = true := decide_eq_true (by omega)
       clear c82
       obtain ⟨y339, hy339⟩ : ∃ y_ : List Bool, y_ = (x10_1.set (0 : Int).toNat true) := ⟨_, rfl⟩
       replace H : (if 1 < (x10_1.length : Int) then ((graph_Value.f k1 t321 t322 t326 0).bind fun t341 => (if t320 = true then (if t341 ≥ 0 then ((graph_Value.f k1 t321 t322 t326 1).bind fun t342 => (if t342 = (wrap64 (-t341)) then ((graph_Cut.f k1 t321 t322 (y339.set (1 : Int).toNat false)).bind fun t343 => (some (decide (t343 ≥ t341)))) else (some false))) else (some false)) else (some false))) else (none)) = some r := by first | (rw [hy339]; with_reducible exact H) | (have H2_ := (Option.bind_some _ _).symm.trans H; rw [hy339]; with_reducible exact H2_) | (have H2_ := (Option.bind_some _ _).symm.trans H; with_reducible exact H2_) | with_reducible exact H | (rw [hy339]; exact H) | exact H
       have Ny339 := Aside0.mk hy339
       clear hy339
       by_cases c84 : 1 < (x10_1.length : Int)
       ·rw [if_pos c84] at H
        have c84b0 : decide (1 < (x10_1.length : Int)) = true := decide_eq_true c84
        have c84b1 : decide (1 < x10_1.length) = true := decide_eq_true (by omega)
        clear c84
        obtain ⟨y340, hy340⟩ : ∃ y_ : List Bool, y_ = (y339.set (1 : Int).toNat false) := ⟨_, rfl⟩
        replace H : ((graph_Value.f k1 t321 t322 t326 0).bind fun t341 => (if t320 = true then (if t341 ≥ 0 then ((graph_Value.f k1 t321 t322 t326 1).bind fun t342 => (if t342 = (wrap64 (-t341)) then ((graph_Cut.f k1 t321 t322 y340).bind fun t343 => (some (decide (t343 ≥ t341)))) else (some false))) else (some false)) else (some false))) = some r := by first | (rw [hy340]; with_reducible exact H) | (have H2_ := (Option.bind_some _ _).symm.trans H; rw [hy340]; with_reducible exact H2_) | (have H2_ := (Option.bind_some _ _).symm.trans H; with_reducible exact H2_) | with_reducible exact H | (rw [hy340]; exact H) | exact H
        have Ny340 := Aside0.mk hy340
        clear hy340
        replace H := Option.bind_eq_some_iff.mp H
        obtain ⟨t341, A860, H⟩ := H
        replace H : (if t320 = true then (if t341 ≥ 0 then ((graph_Value.f k1 t321 t322 t326 1).bind fun t342 => (if t342 = (wrap64 (-t341)) then ((graph_Cut.f k1 t321 t322 y340).bind fun t343 => (some (decide (t343 ≥ t341)))) else (some false))) else (some false)) else (some false)) = some r := H
        have A86 := Aside0.mk A860
        clear A860
        by_cases c87 : t320 = true
        ·subst c87
         have H1 : (if t341 ≥ 0 then ((graph_Value.f k1 t321 t322 t326 1).bind fun t342 => (if t342 = (wrap64 (-t341)) then ((graph_Cut.f k1 t321 t322 y340).bind fun t343 => (some (decide (t343 ≥ t341)))) else (some false))) else (some false)) = some r := by rw [if_pos rfl] at H; exact H
         clear H
         have H := H1
         clear H1
         by_cases c88 : t341 ≥ 0
         ·rw [if_pos c88] at H
          have c88b0 : decide (0 ≤ t341) = true := decide_eq_true c88
          clear c88
          replace H := Option.bind_eq_some_iff.mp H
          obtain ⟨t342, A890, H⟩ := H
          replace H : (if t342 = (wrap64 (-t341)) then ((graph_Cut.f k1 t321 t322 y340).bind fun t343 => (some (decide (t343 ≥ t341)))) else (some false)) = some r := H
          have A89 := Aside0.mk A890
          clear A890
          by_cases c90 : t342 = (wrap64 (-t341))
          ·rw [if_pos c90] at H
           have c90b0 : (t342 == (wrap64 (-t341))) = true := beq_iff_eq.mpr c90
           have c90b1 : (t342 != (wrap64 (-t341))) = false := bne_eq_false_iff_eq.mpr c90
           clear c90
           replace H := Option.bind_eq_some_iff.mp H
           obtain ⟨t343, A910, H⟩ := H
           replace H : (some (decide (t343 ≥ t341))) = some r := H
           have A91 := Aside0.mk A910
           clear A910
           obtain rfl := Option.some.inj H
           have hnb92 := NB325_319.out
           have hnc92 := NB319_325.out
           have hcz93_0 : wr.cell? ⟨gb325, 0, none⟩ = some (.int .i64 t321) := (blk_cell BK325.out 0).trans rfl
           have hcz93_1 : wr.cell? ⟨gb325, 1, none⟩ = some (.slice Ao16 t322.length co16) := (blk_cell BK325.out 1).trans rfl
           have hfz93_0 := blk_frozen BK325.out 0
           have hfz93_1 := blk_frozen BK325.out 1
           have p83 : 0 ≤ (0 : Int) := (by omega)
           have q83 : (0 : Int) < ((x10_1.length : Int) : Int) := of_decide_eq_true (by first | (with_reducible assumption) | assumption)
           have qi83 : (0 < x10_1.length) = True := eq_true (by omega)
           obtain ⟨go83, co83, eo83, gb83, gl83, cl83, HG83⟩ := Kd.R_form HO_10.out (by omega)
           (first | cases eo83 | (injection eo83 with ea_ en_ ec_; (first | subst ea_ | (injection ea_ with ea_; subst ea_)); subst ec_; clear en_))
           have GB83 := Aside0.mk gb83
           have GG83 := Aside0.mk HG83
           clear gb83 gl83 HG83
           obtain ⟨hx83_0, hf83_0⟩ := Kd.R_celln false HO_10.out (0 : Int) p83 q83
           (try rw [show ((0 : Int)).toNat = 0 from rfl] at hx83_0)
           (try simp only [Nat.reduceMul, Nat.zero_mul, Nat.zero_add, Nat.reduceAdd] at hx83_0)
           (try rw [show ((0 : Int)).toNat = 0 from rfl] at hf83_0)
           (try simp only [Nat.reduceMul, Nat.zero_mul, Nat.zero_add, Nat.reduceAdd] at hf83_0)
           replace p83 := eq_true p83
           replace q83 := eq_true q83
           have HP94 := Kd.R_putg HO_10.out (0 : Int) true
           go_wp2_with (first | ((with_reducible refine gate_store (t := 4) (p := 42) rfl ?_); refine store_event (t := 4) (p := 42) (v := ?vo_w95) (w1 := (wr.setCell ⟨go83, (0 : Int).toNat, none⟩ (.bool true))) ?hg ?ho ?hn ?hr ?_; (case ho => rfl); (case hg => rfl); (case hn => rfl); (case hr => first | (go_simp; done) | (go_simp; rfl)); intro w95 hw; have hg : wr.grownBy w95 (some go83) := (by rw [hw]; exact HP94.2); have hp_ : Kd.R Kd.bool 4 w95 w.heap.size (fun _ => True) (.slice (some ⟨go83, 0, none⟩) x10_1.length co83) y339 := (by rw [hw, Ny339.out]; exact HP94.1); clear HP94; have n0_ := Aside0.mk (Kd.R_over' (v := (.slice (some ⟨go83, 0, none⟩) x10_1.length co83)) (by (with_reducible repeat (first | apply Kd.R_alloc | apply Kd.R_drewN | apply Kd.R_drew)); exact HO_9.out) (Kd.R_typed HO_10.out) (by decide) hg); have n1_ := Aside0.mk (hp_); have n2_ := Aside0.mk (Kd.R_over' (v := (.slice (some ⟨go83, 0, none⟩) x10_1.length co83)) (by (with_reducible repeat (first | apply Kd.R_alloc | apply Kd.R_drewN | apply Kd.R_drew)); exact HO_326001.out) (Kd.R_typed HO_10.out) (by decide) hg); have n3_ := Aside0.mk (blk_grown (g := gb319) (o := .cells #[.int .i64 a0_0, .slice A0_1 l0_1.length c0_1] 24 (0, 0)) (by (with_reducible repeat (first | refine blk_drewN ?_ _ | refine blk_drew ?_ | refine blk_alloc ?_ _)); exact BK319.out) hg (Kd.R_ne HO_10.out BK319.out (by decide))); have n4_ := Aside0.mk (blk_grown (g := gb325) (o := .cells #[.int .i64 t321, .slice Ao16 t322.length co16] 24 (0, 0)) (by (with_reducible repeat (first | refine blk_drewN ?_ _ | refine blk_drew ?_ | refine blk_alloc ?_ _)); exact BK325.out) hg (Kd.R_ne HO_10.out BK325.out (by decide))); have n5_ := Aside0.mk ((by rw [hw]; exact below_set (HB.out) GB83.out : Below w.heap.size w w95)); clear HO_9; clear HO_10; clear HO_326001; clear BK319; clear BK325; clear HB; have HO_9 := n0_; have HO_10 := n1_; have HO_326001 := n2_; have BK319 := n3_; have BK325 := n4_; have HB := n5_; clear n0_ n1_ n2_ n3_ n4_ n5_; clear hg hw hp_; have p85 : 0 ≤ (1 : Int) := (by omega); have q85 : (1 : Int) < ((x10_1.length : Int) : Int) := of_decide_eq_true (by first | (with_reducible assumption) | assumption); have qi85 : (1 < x10_1.length) = True := eq_true (by omega); obtain ⟨hx85_0, hf85_0⟩ := Kd.R_celln false HO_10.out (1 : Int) p85 q85; (try rw [show ((1 : Int)).toNat = 1 from rfl] at hx85_0); (try simp only [Nat.reduceMul, Nat.zero_mul, Nat.zero_add, Nat.reduceAdd] at hx85_0); (try rw [show ((1 : Int)).toNat = 1 from rfl] at hf85_0); (try simp only [Nat.reduceMul, Nat.zero_mul, Nat.zero_add, Nat.reduceAdd] at hf85_0); replace p85 := eq_true p85; replace q85 := eq_true q85; obtain ⟨hy96_, hz96_⟩ := Kd.R_celln false HO_10.out (1 : Int) (by omega) (of_decide_eq_true (by first | (with_reducible assumption) | assumption)); (try simp only [Int.reduceToNat, Int.toNat_zero, Int.toNat_ofNat, Nat.reduceMul, Nat.zero_mul, Nat.zero_add] at hy96_ hz96_); (try rw [show ((1 : Int)).toNat = 1 from rfl] at hy96_); (try rw [show ((1 : Int)).toNat = 1 from rfl] at hz96_); have HP96 := Kd.R_putg HO_10.out (1 : Int) false) | ((with_reducible refine gate_store (t := 4) (p := 44) rfl ?_); refine store_event (t := 4) (p := 44) (v := ?vo_w97) (w1 := (w95.setCell ⟨go83, (1 : Int).toNat, none⟩ (.bool false))) ?hg ?ho ?hn ?hr ?_; (case ho => rfl); (case hg => rfl); (case hn => rfl); (case hr => first | (go_simp; done) | (go_simp; rfl)); intro w97 hw; have hg : w95.grownBy w97 (some go83) := (by rw [hw]; exact HP96.2); have hp_ : Kd.R Kd.bool 4 w97 w.heap.size (fun _ => True) (.slice (some ⟨go83, 0, none⟩) x10_1.length co83) y340 := (by rw [hw, Ny340.out]; exact HP96.1); clear HP96; have n0_ := Aside0.mk (Kd.R_over' (v := (.slice (some ⟨go83, 0, none⟩) x10_1.length co83)) (by (with_reducible repeat (first | apply Kd.R_alloc | apply Kd.R_drewN | apply Kd.R_drew)); exact HO_9.out) (Kd.R_typed HO_10.out) (by decide) hg); have n1_ := Aside0.mk (hp_); have n2_ := Aside0.mk (Kd.R_over' (v := (.slice (some ⟨go83, 0, none⟩) x10_1.length co83)) (by (with_reducible repeat (first | apply Kd.R_alloc | apply Kd.R_drewN | apply Kd.R_drew)); exact HO_326001.out) (Kd.R_typed HO_10.out) (by decide) hg); have n3_ := Aside0.mk (blk_grown (g := gb319) (o := .cells #[.int .i64 a0_0, .slice A0_1 l0_1.length c0_1] 24 (0, 0)) (by (with_reducible repeat (first | refine blk_drewN ?_ _ | refine blk_drew ?_ | refine blk_alloc ?_ _)); exact BK319.out) hg (Kd.R_ne HO_10.out BK319.out (by decide))); have n4_ := Aside0.mk (blk_grown (g := gb325) (o := .cells #[.int .i64 t321, .slice Ao16 t322.length co16] 24 (0, 0)) (by (with_reducible repeat (first | refine blk_drewN ?_ _ | refine blk_drew ?_ | refine blk_alloc ?_ _)); exact BK325.out) hg (Kd.R_ne HO_10.out BK325.out (by decide))); have n5_ := Aside0.mk ((by rw [hw]; exact below_set (HB.out) GB83.out : Below w.heap.size w w97)); clear HO_9; clear HO_10; clear HO_326001; clear BK319; clear BK325; clear HB; have HO_9 := n0_; have HO_10 := n1_; have HO_326001 := n2_; have BK319 := n3_; have BK325 := n4_; have HB := n5_; clear n0_ n1_ n2_ n3_ n4_ n5_; clear hg hw hp_; have hcz98_0 : w97.cell? ⟨gb325, 0, none⟩ = some (.int .i64 t321) := (blk_cell BK325.out 0).trans rfl; have hcz98_1 : w97.cell? ⟨gb325, 1, none⟩ = some (.slice Ao16 t322.length co16) := (blk_cell BK325.out 1).trans rfl; have hfz98_0 := blk_frozen BK325.out 0; have hfz98_1 := blk_frozen BK325.out 1; obtain ⟨Ao99, co99, eo99⟩ := Kd.R_slice HO_9.out; subst eo99) | ((with_reducible refine gate_callee (f := 25) rfl ?_); refine goesL_ (some 47) rfl rfl Try.func25 (by kernel_rfl) rfl #[.agg #[.int .i64 t321, .slice Ao16 t322.length co16], .slice Ao99 t326.length co99, .int .i64 0] rfl (by (try simp only [List.map_toArray, List.map_cons, List.map_nil]); first | done | rfl | (simp only [List.length_drop, List.length_take]; rfl)) ?_; (with_reducible refine (graph_Value.calls k1 t321 _ _ t322 _ _ t326 0 t341 _ ?side1 ?side2 ?side3 ?side4 A86.out).mono ?_); (case side1 => repeat (first | exact (Kd.R_reads' HO_326001.out).2.2 | (with_reducible refine Kd.C_alloc ?_ _) | (with_reducible refine Kd.C_drewN ?_ _) | (with_reducible refine Kd.C_drew ?_))); (case side2 => exact (Kd.R_reads' HO_326001.out).2.1); (case side3 => repeat (first | exact (Kd.R_reads' HO_9.out).2.2 | (with_reducible refine Kd.C_alloc ?_ _) | (with_reducible refine Kd.C_drewN ?_ _) | (with_reducible refine Kd.C_drew ?_))); (case side4 => exact (Kd.R_reads' HO_9.out).2.1); rintro e w100 ⟨rfl, hb⟩; refine ⟨_, rfl, ?_⟩; have n0_ := Aside0.mk (Kd.R_below (by (with_reducible repeat (first | apply Kd.R_alloc | apply Kd.R_drewN | apply Kd.R_drew)); exact HO_9.out) hb); have n1_ := Aside0.mk (Kd.R_below (by (with_reducible repeat (first | apply Kd.R_alloc | apply Kd.R_drewN | apply Kd.R_drew)); exact HO_10.out) hb); have n2_ := Aside0.mk (Kd.R_below (by (with_reducible repeat (first | apply Kd.R_alloc | apply Kd.R_drewN | apply Kd.R_drew)); exact HO_326001.out) hb); have n3_ := Aside0.mk (blk_below (g := gb319) (o := .cells #[.int .i64 a0_0, .slice A0_1 l0_1.length c0_1] 24 (0, 0)) (by (with_reducible repeat (first | refine blk_drewN ?_ _ | refine blk_drew ?_ | refine blk_alloc ?_ _)); exact BK319.out) hb); have n4_ := Aside0.mk (blk_below (g := gb325) (o := .cells #[.int .i64 t321, .slice Ao16 t322.length co16] 24 (0, 0)) (by (with_reducible repeat (first | refine blk_drewN ?_ _ | refine blk_drew ?_ | refine blk_alloc ?_ _)); exact BK325.out) hb); have n5_ := Aside0.mk (below_step (by repeat (first | (with_reducible first | exact HB.out | apply below_alloc | apply pw_below_drewN | apply below_drew1 | refine below_set ?_ GE319.out | refine below_set ?_ GE325.out) | exact HB.out)) hb); clear HO_9; clear HO_10; clear HO_326001; clear BK319; clear BK325; clear HB; have HO_9 := n0_; have HO_10 := n1_; have HO_326001 := n2_; have BK319 := n3_; have BK325 := n4_; have HB := n5_; clear n0_ n1_ n2_ n3_ n4_ n5_; (try clear hb); (try clear hb2); (try clear hk); (try clear hi); have hcz101_0 : w100.cell? ⟨gb325, 0, none⟩ = some (.int .i64 t321) := (blk_cell BK325.out 0).trans rfl; have hcz101_1 : w100.cell? ⟨gb325, 1, none⟩ = some (.slice Ao16 t322.length co16) := (blk_cell BK325.out 1).trans rfl; have hfz101_0 := blk_frozen BK325.out 0; have hfz101_1 := blk_frozen BK325.out 1) | (go_at_call 25; (with_reducible refine (graph_Value.calls k1 t321 _ _ t322 _ _ t326 1 t342 _ ?side1 ?side2 ?side3 ?side4 A89.out).mono ?_); (case side1 => repeat (first | exact (Kd.R_reads' HO_326001.out).2.2 | (with_reducible refine Kd.C_alloc ?_ _) | (with_reducible refine Kd.C_drewN ?_ _) | (with_reducible refine Kd.C_drew ?_))); (case side2 => exact (Kd.R_reads' HO_326001.out).2.1); (case side3 => repeat (first | exact (Kd.R_reads' HO_9.out).2.2 | (with_reducible refine Kd.C_alloc ?_ _) | (with_reducible refine Kd.C_drewN ?_ _) | (with_reducible refine Kd.C_drew ?_))); (case side4 => exact (Kd.R_reads' HO_9.out).2.1); rintro e w102 ⟨rfl, hb⟩; have n0_ := Aside0.mk (Kd.R_below (by (with_reducible repeat (first | apply Kd.R_alloc | apply Kd.R_drewN | apply Kd.R_drew)); exact HO_9.out) hb); have n1_ := Aside0.mk (Kd.R_below (by (with_reducible repeat (first | apply Kd.R_alloc | apply Kd.R_drewN | apply Kd.R_drew)); exact HO_10.out) hb); have n2_ := Aside0.mk (Kd.R_below (by (with_reducible repeat (first | apply Kd.R_alloc | apply Kd.R_drewN | apply Kd.R_drew)); exact HO_326001.out) hb); have n3_ := Aside0.mk (blk_below (g := gb319) (o := .cells #[.int .i64 a0_0, .slice A0_1 l0_1.length c0_1] 24 (0, 0)) (by (with_reducible repeat (first | refine blk_drewN ?_ _ | refine blk_drew ?_ | refine blk_alloc ?_ _)); exact BK319.out) hb); have n4_ := Aside0.mk (blk_below (g := gb325) (o := .cells #[.int .i64 t321, .slice Ao16 t322.length co16] 24 (0, 0)) (by (with_reducible repeat (first | refine blk_drewN ?_ _ | refine blk_drew ?_ | refine blk_alloc ?_ _)); exact BK325.out) hb); have n5_ := Aside0.mk (below_step (by repeat (first | (with_reducible first | exact HB.out | apply below_alloc | apply pw_below_drewN | apply below_drew1 | refine below_set ?_ GE319.out | refine below_set ?_ GE325.out) | exact HB.out)) hb); clear HO_9; clear HO_10; clear HO_326001; clear BK319; clear BK325; clear HB; have HO_9 := n0_; have HO_10 := n1_; have HO_326001 := n2_; have BK319 := n3_; have BK325 := n4_; have HB := n5_; clear n0_ n1_ n2_ n3_ n4_ n5_; (try clear hb); (try clear hb2); (try clear hk); (try clear hi); have hcz103_0 : w102.cell? ⟨gb325, 0, none⟩ = some (.int .i64 t321) := (blk_cell BK325.out 0).trans rfl; have hcz103_1 : w102.cell? ⟨gb325, 1, none⟩ = some (.slice Ao16 t322.length co16) := (blk_cell BK325.out 1).trans rfl; have hfz103_0 := blk_frozen BK325.out 0; have hfz103_1 := blk_frozen BK325.out 1) | (go_at_call 28; refine calls_of_args (args' := #[.agg #[.int .i64 t321, .slice Ao16 t322.length co16], .slice (some ⟨go83, 0, none⟩) y340.length co83]) (by first | (rw [show y340.length = x10_1.length from (Kd.R_reads' HO_10.out).1.symm] <;> rfl) | rfl) ?_; (with_reducible refine (graph_Cut.calls k1 t321 _ _ t322 _ _ y340 t343 _ ?side1 ?side2 ?side3 ?side4 A91.out).mono ?_); (case side1 => repeat (first | exact (Kd.R_reads' HO_326001.out).2.2 | (with_reducible refine Kd.C_alloc ?_ _) | (with_reducible refine Kd.C_drewN ?_ _) | (with_reducible refine Kd.C_drew ?_))); (case side2 => exact (Kd.R_reads' HO_326001.out).2.1); (case side3 => repeat (first | exact (Kd.R_reads' HO_10.out).2.2 | (with_reducible refine Kd.C_alloc ?_ _) | (with_reducible refine Kd.C_drewN ?_ _) | (with_reducible refine Kd.C_drew ?_))); (case side4 => rw [show y340.length = x10_1.length from (Kd.R_reads' HO_10.out).1.symm]; exact (Kd.R_reads' HO_10.out).2.1); rintro e w104 ⟨rfl, hb⟩; have n0_ := Aside0.mk (Kd.R_below (by (with_reducible repeat (first | apply Kd.R_alloc | apply Kd.R_drewN | apply Kd.R_drew)); exact HO_9.out) hb); have n1_ := Aside0.mk (Kd.R_below (by (with_reducible repeat (first | apply Kd.R_alloc | apply Kd.R_drewN | apply Kd.R_drew)); exact HO_10.out) hb); have n2_ := Aside0.mk (Kd.R_below (by (with_reducible repeat (first | apply Kd.R_alloc | apply Kd.R_drewN | apply Kd.R_drew)); exact HO_326001.out) hb); have n3_ := Aside0.mk (blk_below (g := gb319) (o := .cells #[.int .i64 a0_0, .slice A0_1 l0_1.length c0_1] 24 (0, 0)) (by (with_reducible repeat (first | refine blk_drewN ?_ _ | refine blk_drew ?_ | refine blk_alloc ?_ _)); exact BK319.out) hb); have n4_ := Aside0.mk (blk_below (g := gb325) (o := .cells #[.int .i64 t321, .slice Ao16 t322.length co16] 24 (0, 0)) (by (with_reducible repeat (first | refine blk_drewN ?_ _ | refine blk_drew ?_ | refine blk_alloc ?_ _)); exact BK325.out) hb); have n5_ := Aside0.mk (below_step (by repeat (first | (with_reducible first | exact HB.out | apply below_alloc | apply pw_below_drewN | apply below_drew1 | refine below_set ?_ GE319.out | refine below_set ?_ GE325.out) | exact HB.out)) hb); clear HO_9; clear HO_10; clear HO_326001; clear BK319; clear BK325; clear HB; have HO_9 := n0_; have HO_10 := n1_; have HO_326001 := n2_; have BK319 := n3_; have BK325 := n4_; have HB := n5_; clear n0_ n1_ n2_ n3_ n4_ n5_; (try clear hb); (try clear hb2); (try clear hk); (try clear hi)))
           go_ret
           exact ⟨by first | rfl | (simp [errW_none, errW_some] <;> rfl) | (simp [*, errW_none, errW_some] <;> rfl), by repeat (first | (with_reducible first | exact HB.out | apply below_alloc | apply pw_below_drewN | apply below_drew1 | refine below_set ?_ GE319.out | refine below_set ?_ GE325.out) | exact HB.out)⟩
          ·rw [if_neg c90] at H
           have c90b0 : (t342 == (wrap64 (-t341))) = false := beq_eq_false_iff_ne.mpr c90
           have c90b1 : (t342 != (wrap64 (-t341))) = true := bne_iff_ne.mpr c90
           exact absurd (H.trans (congrArg some HT_.out)) (by simp)
         ·rw [if_neg c88] at H
          have c88b0 : decide (0 ≤ t341) = false := decide_eq_false c88
          clear c88
          exact absurd (H.trans (congrArg some HT_.out)) (by simp)
        ·replace c87 := Bool.eq_false_iff.mpr c87
         subst c87
         have H1 : (some false) = some r := by rw [if_neg (show ¬ (false = true) by decide)] at H; exact H
         clear H
         have H := H1
         clear H1
         exact absurd (H.trans (congrArg some HT_.out)) (by simp)
       ·rw [if_neg c84] at H
        exact absurd H (by simp)
      ·rw [if_neg c82] at H
       exact absurd H (by simp)
  ·rw [if_neg c8] at H
   exact absurd H (by simp)
 ·rw [if_neg c7] at H
  exact absurd H (by simp)

end Go.Proofs.Ytfmfojogcghkkaa.P
