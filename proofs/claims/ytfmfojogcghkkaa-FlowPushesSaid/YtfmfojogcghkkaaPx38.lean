-- Laid by a program of this session (wip/tools/genx.py) out of the kit's print of the translation.
import Derived.Test.YtfmfojogcghkkaaPx0
import Derived.Test.YtfmfojogcghkkaaPx32
import Derived.Test.YtfmfojogcghkkaaPx33
import Derived.Test.YtfmfojogcghkkaaPx34
import Derived.Test.YtfmfojogcghkkaaPx35
import Derived.Test.YtfmfojogcghkkaaPx36
import Derived.Test.YtfmfojogcghkkaaPx37
namespace Go.Proofs.Ytfmfojogcghkkaa.P
open Go.RowKit Go.Proofs.YtfmfojogcghkkaaW.PrintWords Go.Proofs.YtfmfojogcghkkaaW.PrintLast Go.Proofs.YtfmfojogcghkkaaW.PrintMore
attribute [local go_sem] max2_int min2_int max_two min_two max_three min_three max_four min_four   -- for this text's walks alone
set_option linter.unusedVariables false
set_option linter.unusedSimpArgs false

/-! ### billetlaw06_FlowTells: function 10 -/
def billetlaw06_FlowTells.j0 : Nat → List Int → Int → Int → Int → Bool → Bool → Int → List (S41) → Option (Bool)
 | 0, _, _, _, _, _, _, _, _ => none
 | k + 1, x1, x2, x3, x4, x11, x34, x636000, x636001 => if x34 = true then (some x11) else (if ([] : List Int).length + x1.length < 17592186044416 then ((some (([] : List Int) ++ x1 : List Int)).bind fun y637 => ((flow_Push.f k x636000 x636001 y637 x2 x3 x4).bind fun bt640 => ((billetref06_Push.f k x636000 x636001 x1 x2 x3 x4).bind fun bt645 => ((flow_Max.f k x636000 x636001 x2 x3).bind fun bt650 => ((billetref06_Max.f k x636000 x636001 x2 x3).bind fun bt655 => (if x11 = true then ((billetlaw06_Ints.f k bt640.1 bt645.1).bind fun t660 => (if t660 = true then (if bt640.2.1 = bt645.2.1 then (if bt640.2.2 = bt645.2.2 then ((billetlaw06_Ints.f k bt650.1 bt655.1).bind fun t661 => (if t661 = true then (if bt650.2.1 = bt655.2.1 then (if bt650.2.2 = bt655.2.2 then ((billetlaw06_Ints.f k y637 x1).bind fun t662 => (some t662)) else (some false)) else (some false)) else (some false))) else (some false)) else (some false)) else (some false))) else (some false))))))) else (none))
def billetlaw06_FlowTells.f (k : Nat) (a0_0 : Int) (l0_1 : List (S41)) (l1 : List Int) (a2 : Int) (a3 : Int) (a4 : Int) : Option (Bool) := (billetlaw06_awake.f k).bind fun t636 => (if (l0_1.length : Int) > 300 then (billetlaw06_FlowTells.j0 k l1 a2 a3 a4 t636 true a0_0 l0_1) else (billetlaw06_FlowTells.j0 k l1 a2 a3 a4 t636 (decide ((l1.length : Int) > 300)) a0_0 l0_1))
theorem billetlaw06_FlowTells.mono_l : ∀ k, (∀ y0 y1 y2 y3 y4 y5 y6 y7, LeO (billetlaw06_FlowTells.j0 k y0 y1 y2 y3 y4 y5 y6 y7) (billetlaw06_FlowTells.j0 (k + 1) y0 y1 y2 y3 y4 y5 y6 y7))
 | 0 => fun _ _ _ _ _ _ _ _ r h => by simp [billetlaw06_FlowTells.j0] at h
 | k + 1 => by
  have ih0 := billetlaw06_FlowTells.mono_l k
  ·intro y0 y1 y2 y3 y4 y5 y6 y7
   unfold billetlaw06_FlowTells.j0
   repeat' first
   | (with_reducible exact ih0 _ _ _ _ _ _ _ _)
   | (with_reducible exact billetlaw06_Ints.mono _ _ _)
   | (with_reducible exact billetlaw06_awake.mono _)
   | (with_reducible exact billetref06_Max.mono _ _ _ _ _)
   | (with_reducible exact billetref06_Push.mono _ _ _ _ _ _ _)
   | (with_reducible exact flow_Max.mono _ _ _ _ _)
   | (with_reducible exact flow_Push.mono _ _ _ _ _ _ _)
   | (with_reducible exact LeO.refl _)
   | (with_reducible exact LeO.none _)
   | (with_reducible refine LeO.ite ?_ ?_)
   | (with_reducible refine LeO.bind ?_ (fun _ => ?_))
   | exact ih0 _ _ _ _ _ _ _ _
   | exact billetlaw06_Ints.mono _ _ _
   | exact billetlaw06_awake.mono _
   | exact billetref06_Max.mono _ _ _ _ _
   | exact billetref06_Push.mono _ _ _ _ _ _ _
   | exact flow_Max.mono _ _ _ _ _
   | exact flow_Push.mono _ _ _ _ _ _ _
   | exact LeO.none _
   | refine LeO.ite ?_ ?_
   | refine LeO.bind ?_ (fun _ => ?_)
theorem billetlaw06_FlowTells.mono : ∀ a0 a1 a2 a3 a4 a5 k, LeO (billetlaw06_FlowTells.f k a0 a1 a2 a3 a4 a5) (billetlaw06_FlowTells.f (k + 1) a0 a1 a2 a3 a4 a5) := by
 intro a0 a1 a2 a3 a4 a5 k
 have ih0 := billetlaw06_FlowTells.mono_l k
 unfold billetlaw06_FlowTells.f
 repeat' first
   | (with_reducible exact ih0 _ _ _ _ _ _ _ _)
   | (with_reducible exact billetlaw06_Ints.mono _ _ _)
   | (with_reducible exact billetlaw06_awake.mono _)
   | (with_reducible exact billetref06_Max.mono _ _ _ _ _)
   | (with_reducible exact billetref06_Push.mono _ _ _ _ _ _ _)
   | (with_reducible exact flow_Max.mono _ _ _ _ _)
   | (with_reducible exact flow_Push.mono _ _ _ _ _ _ _)
   | (with_reducible exact LeO.refl _)
   | (with_reducible exact LeO.none _)
   | (with_reducible refine LeO.ite ?_ ?_)
   | (with_reducible refine LeO.bind ?_ (fun _ => ?_))
   | exact ih0 _ _ _ _ _ _ _ _
   | exact billetlaw06_Ints.mono _ _ _
   | exact billetlaw06_awake.mono _
   | exact billetref06_Max.mono _ _ _ _ _
   | exact billetref06_Push.mono _ _ _ _ _ _ _
   | exact flow_Max.mono _ _ _ _ _
   | exact flow_Push.mono _ _ _ _ _ _ _
   | exact LeO.none _
   | refine LeO.ite ?_ ?_
   | refine LeO.bind ?_ (fun _ => ?_)
set_option maxHeartbeats 8000000 in
set_option maxRecDepth 100000 in
theorem billetlaw06_FlowTells.calls (k : Nat) (a0_0 : Int) (A0_1 : Option Addr) (c0_1 : Nat) (l0_1 : List (S41)) (A1 : Option Addr) (c1 : Nat) (l1 : List Int) (a2 : Int) (a3 : Int) (a4 : Int) (r : Bool) (w : World) (hr0_1 : Kd.C k41 w A0_1 l0_1.length l0_1) (hc0_1 : l0_1.length ≤ c0_1) (hr1 : Kd.C (Kd.int .i64) w A1 l1.length l1) (hc1 : l1.length ≤ c1) (h : billetlaw06_FlowTells.f k a0_0 l0_1 l1 a2 a3 a4 = some r) (hT_ : r = true) :
  Calls Try.prog 10 #[.agg #[.int .i64 a0_0, .slice A0_1 l0_1.length c0_1], .slice A1 l1.length c1, .int .i64 a2, .int .i64 a3, .int .i64 a4] w fun e w' => e = .returned (.bool r) ∧ Below w.heap.size w w' := by
 have HT_ := Aside0.mk hT_
 clear hT_
 have hu24 := Try.underlying24
 have HR0_1 := Aside0.mk hr0_1
 have HC0_1 := Aside0.mk hc0_1
 clear hr0_1 hc0_1
 have HR1 := Aside0.mk hr1
 have HC1 := Aside0.mk hc1
 clear hr1 hc1
 have HB := Aside0.mk (Below.refl w.heap.size w)
 have H : ((billetlaw06_awake.f k).bind fun t636 => (if (l0_1.length : Int) > 300 then (billetlaw06_FlowTells.j0 k l1 a2 a3 a4 t636 true a0_0 l0_1) else (billetlaw06_FlowTells.j0 k l1 a2 a3 a4 t636 (decide ((l1.length : Int) > 300)) a0_0 l0_1))) = some r := h
 clear h
 replace H := Option.bind_eq_some_iff.mp H
 obtain ⟨t636, A60, H⟩ := H
 replace H : (if (l0_1.length : Int) > 300 then (billetlaw06_FlowTells.j0 k l1 a2 a3 a4 t636 true a0_0 l0_1) else (billetlaw06_FlowTells.j0 k l1 a2 a3 a4 t636 (decide ((l1.length : Int) > 300)) a0_0 l0_1)) = some r := H
 have A6 := Aside0.mk A60
 clear A60
 have HC7 := Aside0.mk H
 clear H
 go_enter Try.func10, Try.ntmps10
 go_upto_region 2 with (first | ((with_reducible refine gate_dst (N := 5) rfl ?_); (try (refine gate_guard (by rfl) ?_; dsimp only)); refine box_event ?hg (N := 5) ?hd (cs := #[.int .i64 a0_0, .slice A0_1 l0_1.length c0_1]) (t := 24) ?hr ?_; (case hd => rfl); (case hg => rfl); (case hr => first | (go_simp; done) | (go_simp; rfl)); intro gb635 hg w8 hbox hb; have n0_ := Aside0.mk (below_step (by repeat (first | (with_reducible first | exact HB.out | apply below_alloc | apply pw_below_drewN | apply below_drew1) | exact HB.out)) hb); have n1_ := Aside0.mk (hbox); have n2_ := Aside0.mk ((by rw [hg]; exact (below_size (by repeat (first | (with_reducible first | exact HB.out | apply below_alloc | apply pw_below_drewN | apply below_drew1) | exact HB.out))) : w.heap.size ≤ gb635)); have n3_ := Aside0.mk ((by rw [hg]; exact (below_size (by repeat (first | (with_reducible first | exact HB.out | apply below_alloc | apply pw_below_drewN | apply below_drew1) | exact HB.out))) : w.heap.size ≤ gb635)); clear HB; have HB := n0_; have BK635 := n1_; have GW635 := n2_; have GE635 := n3_; clear n0_ n1_ n2_ n3_; clear hb hbox hg) | ((with_reducible refine gate_callee (f := 34) rfl ?_); refine goesL_ (some 25) rfl rfl Try.func34 (by kernel_rfl) rfl #[] rfl (by (try simp only [List.map_toArray, List.map_cons, List.map_nil]); first | done | rfl | (simp only [List.length_drop, List.length_take]; rfl)) ?_; (with_reducible refine (billetlaw06_awake.calls k  t636 _ A6.out).mono ?_); rintro e w9 ⟨rfl, hb⟩; refine ⟨_, rfl, ?_⟩; have n0_ := Aside0.mk (blk_below (g := gb635) (o := .cells #[.int .i64 a0_0, .slice A0_1 l0_1.length c0_1] 24 (0, 0)) (by (with_reducible repeat (first | refine blk_drewN ?_ _ | refine blk_drew ?_ | refine blk_alloc ?_ _)); exact BK635.out) hb); have n1_ := Aside0.mk (below_step (by repeat (first | (with_reducible first | exact HB.out | apply below_alloc | apply pw_below_drewN | apply below_drew1 | refine below_set ?_ GE635.out) | exact HB.out)) hb); clear BK635; clear HB; have BK635 := n0_; have HB := n1_; clear n0_ n1_; (try clear hb); (try clear hb2); (try clear hk); (try clear hi)))
 (try simp only [Act.put, List.setIfInBounds_toArray, List.set_cons_zero, List.set_cons_succ])
 go_cut [34] (fun v34 wc => ∃ (kq : Nat) (x34_6 : Bool), v34 = .bool x34_6 ∧ Aside0 (billetlaw06_FlowTells.j0 kq l1 a2 a3 a4 t636 x34_6 a0_0 l0_1 = some r) ∧ Aside0 (kq ≤ k) ∧ Aside0 (wc.heap[gb635]? = some (.cells #[.int .i64 a0_0, (.slice A0_1 l0_1.length c0_1)] 24 (0, 0))) ∧ Aside0 (Below w.heap.size w wc))
 case first =>
  have H := HC7.out
  clear HC7
  by_cases c10 : (l0_1.length : Int) > 300
  ·rw [if_pos c10] at H
   have c10b0 : decide (300 < (l0_1.length : Int)) = true := decide_eq_true c10
   have c10b1 : decide (300 < l0_1.length) = true := decide_eq_true (by omega)
   clear c10
   (first | rw [c10b0] | (simp only [i64_w, i32_w]; rw [c10b0]) | skip)
   have H' := Aside0.mk H
   clear H
   have hcz11_0 : w9.cell? ⟨gb635, 0, none⟩ = some (.int .i64 a0_0) := (blk_cell BK635.out 0).trans rfl
   have hcz11_1 : w9.cell? ⟨gb635, 1, none⟩ = some (.slice A0_1 l0_1.length c0_1) := (blk_cell BK635.out 1).trans rfl
   have hfz11_0 := blk_frozen BK635.out 0
   have hfz11_1 := blk_frozen BK635.out 1
   go_wp2
   go_meet
   case rel => exact ⟨_, (true), (by first | rfl | (simp; done) | (simp [*]; done)), H', ⟨by first | omega | exact Nat.le_refl _⟩, ⟨by (with_reducible repeat (first | refine blk_drewN ?_ _ | refine blk_drew ?_ | refine blk_alloc ?_ _)); exact BK635.out⟩, ⟨by repeat (first | (with_reducible first | exact HB.out | apply below_alloc | apply pw_below_drewN | apply below_drew1 | refine below_set ?_ GE635.out) | exact HB.out)⟩⟩
  ·rw [if_neg c10] at H
   have c10b0 : decide (300 < (l0_1.length : Int)) = false := decide_eq_false c10
   have c10b1 : decide (300 < l0_1.length) = false := decide_eq_false (by omega)
   clear c10
   (first | rw [c10b0] | (simp only [i64_w, i32_w]; rw [c10b0]) | skip)
   have H' := Aside0.mk H
   clear H
   have hcz12_0 : w9.cell? ⟨gb635, 0, none⟩ = some (.int .i64 a0_0) := (blk_cell BK635.out 0).trans rfl
   have hcz12_1 : w9.cell? ⟨gb635, 1, none⟩ = some (.slice A0_1 l0_1.length c0_1) := (blk_cell BK635.out 1).trans rfl
   have hfz12_0 := blk_frozen BK635.out 0
   have hfz12_1 := blk_frozen BK635.out 1
   go_wp2
   go_meet
   case rel => exact ⟨_, (decide ((l1.length : Int) > 300)), (by first | rfl | (simp; done) | (simp [*]; done)), H', ⟨by first | omega | exact Nat.le_refl _⟩, ⟨by (with_reducible repeat (first | refine blk_drewN ?_ _ | refine blk_drew ?_ | refine blk_alloc ?_ _)); exact BK635.out⟩, ⟨by repeat (first | (with_reducible first | exact HB.out | apply below_alloc | apply pw_below_drewN | apply below_drew1 | refine below_set ?_ GE635.out) | exact HB.out)⟩⟩
 case rest =>
  clear HC7
  try clear c1
  try clear p2
  try clear c3
  try clear c10
  try clear c10b0
  try clear c10b1
  try clear hcz11_0
  try clear hcz11_1
  try clear hcz12_0
  try clear hcz12_1
  try clear hfz11_0
  try clear hfz11_1
  try clear hfz12_0
  try clear hfz12_1
  obtain ⟨kq, x34_6, rfl, HA, HJ6, BK635, HB⟩ := hcut
  cases kq with
  | zero => exact absurd HA.out (by simp [billetlaw06_FlowTells.j0])
  | succ kj6 =>
   have H := HA.out
   clear HA
   simp only [billetlaw06_FlowTells.j0] at H
   by_cases c13 : x34_6 = true
   ·subst c13
    have H1 : (some t636) = some r := by rw [if_pos rfl] at H; exact H
    clear H
    have H := H1
    clear H1
    obtain rfl := Option.some.inj H
    go_wp2
    go_ret
    exact ⟨by first | rfl | (simp [errW_none, errW_some] <;> rfl) | (simp [*, errW_none, errW_some] <;> rfl), by repeat (first | (with_reducible first | exact HB.out | apply below_alloc | apply pw_below_drewN | apply below_drew1 | refine below_set ?_ GE635.out) | exact HB.out)⟩
   ·replace c13 := Bool.eq_false_iff.mpr c13
    subst c13
    have H1 : (if ([] : List Int).length + l1.length < 17592186044416 then ((some (([] : List Int) ++ l1 : List Int)).bind fun y637 => ((flow_Push.f kj6 a0_0 l0_1 y637 a2 a3 a4).bind fun bt640 => ((billetref06_Push.f kj6 a0_0 l0_1 l1 a2 a3 a4).bind fun bt645 => ((flow_Max.f kj6 a0_0 l0_1 a2 a3).bind fun bt650 => ((billetref06_Max.f kj6 a0_0 l0_1 a2 a3).bind fun bt655 => (if t636 = true then ((billetlaw06_Ints.f kj6 bt640.1 bt645.1).bind fun t660 => (if t660 = true then (if bt640.2.1 = bt645.2.1 then (if bt640.2.2 = bt645.2.2 then ((billetlaw06_Ints.f kj6 bt650.1 bt655.1).bind fun t661 => (if t661 = true then (if bt650.2.1 = bt655.2.1 then (if bt650.2.2 = bt655.2.2 then ((billetlaw06_Ints.f kj6 y637 l1).bind fun t662 => (some t662)) else (some false)) else (some false)) else (some false))) else (some false)) else (some false)) else (some false))) else (some false))))))) else (none)) = some r := by rw [if_neg (show ¬ (false = true) by decide)] at H; exact H
    clear H
    have H := H1
    clear H1
    by_cases c14 : ([] : List Int).length + l1.length < 17592186044416
    ·rw [if_pos c14] at H
     have LMc14 := Aside0.mk c14
     clear c14
     obtain ⟨y637, hy637⟩ : ∃ y_ : List Int, y_ = (([] : List Int) ++ l1) := ⟨_, rfl⟩
     replace H : ((flow_Push.f kj6 a0_0 l0_1 y637 a2 a3 a4).bind fun bt640 => ((billetref06_Push.f kj6 a0_0 l0_1 l1 a2 a3 a4).bind fun bt645 => ((flow_Max.f kj6 a0_0 l0_1 a2 a3).bind fun bt650 => ((billetref06_Max.f kj6 a0_0 l0_1 a2 a3).bind fun bt655 => (if t636 = true then ((billetlaw06_Ints.f kj6 bt640.1 bt645.1).bind fun t660 => (if t660 = true then (if bt640.2.1 = bt645.2.1 then (if bt640.2.2 = bt645.2.2 then ((billetlaw06_Ints.f kj6 bt650.1 bt655.1).bind fun t661 => (if t661 = true then (if bt650.2.1 = bt655.2.1 then (if bt650.2.2 = bt655.2.2 then ((billetlaw06_Ints.f kj6 y637 l1).bind fun t662 => (some t662)) else (some false)) else (some false)) else (some false))) else (some false)) else (some false)) else (some false))) else (some false)))))) = some r := by first | (rw [hy637]; with_reducible exact H) | (have H2_ := (Option.bind_some _ _).symm.trans H; rw [hy637]; with_reducible exact H2_) | (have H2_ := (Option.bind_some _ _).symm.trans H; with_reducible exact H2_) | with_reducible exact H | (rw [hy637]; exact H) | exact H
     have Ny637 := Aside0.mk hy637
     clear hy637
     replace H := Option.bind_eq_some_iff.mp H
     obtain ⟨⟨t640, t643, t644⟩, A150, H⟩ := H
     replace H : ((billetref06_Push.f kj6 a0_0 l0_1 l1 a2 a3 a4).bind fun bt645 => ((flow_Max.f kj6 a0_0 l0_1 a2 a3).bind fun bt650 => ((billetref06_Max.f kj6 a0_0 l0_1 a2 a3).bind fun bt655 => (if t636 = true then ((billetlaw06_Ints.f kj6 t640 bt645.1).bind fun t660 => (if t660 = true then (if t643 = bt645.2.1 then (if t644 = bt645.2.2 then ((billetlaw06_Ints.f kj6 bt650.1 bt655.1).bind fun t661 => (if t661 = true then (if bt650.2.1 = bt655.2.1 then (if bt650.2.2 = bt655.2.2 then ((billetlaw06_Ints.f kj6 y637 l1).bind fun t662 => (some t662)) else (some false)) else (some false)) else (some false))) else (some false)) else (some false)) else (some false))) else (some false))))) = some r := H
     have A15 := Aside0.mk A150
     clear A150
     replace H := Option.bind_eq_some_iff.mp H
     obtain ⟨⟨t645, t648, t649⟩, A160, H⟩ := H
     replace H : ((flow_Max.f kj6 a0_0 l0_1 a2 a3).bind fun bt650 => ((billetref06_Max.f kj6 a0_0 l0_1 a2 a3).bind fun bt655 => (if t636 = true then ((billetlaw06_Ints.f kj6 t640 t645).bind fun t660 => (if t660 = true then (if t643 = t648 then (if t644 = t649 then ((billetlaw06_Ints.f kj6 bt650.1 bt655.1).bind fun t661 => (if t661 = true then (if bt650.2.1 = bt655.2.1 then (if bt650.2.2 = bt655.2.2 then ((billetlaw06_Ints.f kj6 y637 l1).bind fun t662 => (some t662)) else (some false)) else (some false)) else (some false))) else (some false)) else (some false)) else (some false))) else (some false)))) = some r := H
     have A16 := Aside0.mk A160
     clear A160
     replace H := Option.bind_eq_some_iff.mp H
     obtain ⟨⟨t650, t653, t654⟩, A170, H⟩ := H
     replace H : ((billetref06_Max.f kj6 a0_0 l0_1 a2 a3).bind fun bt655 => (if t636 = true then ((billetlaw06_Ints.f kj6 t640 t645).bind fun t660 => (if t660 = true then (if t643 = t648 then (if t644 = t649 then ((billetlaw06_Ints.f kj6 t650 bt655.1).bind fun t661 => (if t661 = true then (if t653 = bt655.2.1 then (if t654 = bt655.2.2 then ((billetlaw06_Ints.f kj6 y637 l1).bind fun t662 => (some t662)) else (some false)) else (some false)) else (some false))) else (some false)) else (some false)) else (some false))) else (some false))) = some r := H
     have A17 := Aside0.mk A170
     clear A170
     replace H := Option.bind_eq_some_iff.mp H
     obtain ⟨⟨t655, t658, t659⟩, A180, H⟩ := H
     replace H : (if t636 = true then ((billetlaw06_Ints.f kj6 t640 t645).bind fun t660 => (if t660 = true then (if t643 = t648 then (if t644 = t649 then ((billetlaw06_Ints.f kj6 t650 t655).bind fun t661 => (if t661 = true then (if t653 = t658 then (if t654 = t659 then ((billetlaw06_Ints.f kj6 y637 l1).bind fun t662 => (some t662)) else (some false)) else (some false)) else (some false))) else (some false)) else (some false)) else (some false))) else (some false)) = some r := H
     have A18 := Aside0.mk A180
     clear A180
     by_cases c19 : t636 = true
     ·subst c19
      have H1 : ((billetlaw06_Ints.f kj6 t640 t645).bind fun t660 => (if t660 = true then (if t643 = t648 then (if t644 = t649 then ((billetlaw06_Ints.f kj6 t650 t655).bind fun t661 => (if t661 = true then (if t653 = t658 then (if t654 = t659 then ((billetlaw06_Ints.f kj6 y637 l1).bind fun t662 => (some t662)) else (some false)) else (some false)) else (some false))) else (some false)) else (some false)) else (some false))) = some r := by rw [if_pos rfl] at H; exact H
      clear H
      have H := H1
      clear H1
      replace H := Option.bind_eq_some_iff.mp H
      obtain ⟨t660, A200, H⟩ := H
      replace H : (if t660 = true then (if t643 = t648 then (if t644 = t649 then ((billetlaw06_Ints.f kj6 t650 t655).bind fun t661 => (if t661 = true then (if t653 = t658 then (if t654 = t659 then ((billetlaw06_Ints.f kj6 y637 l1).bind fun t662 => (some t662)) else (some false)) else (some false)) else (some false))) else (some false)) else (some false)) else (some false)) = some r := H
      have A20 := Aside0.mk A200
      clear A200
      by_cases c21 : t660 = true
      ·subst c21
       have H1 : (if t643 = t648 then (if t644 = t649 then ((billetlaw06_Ints.f kj6 t650 t655).bind fun t661 => (if t661 = true then (if t653 = t658 then (if t654 = t659 then ((billetlaw06_Ints.f kj6 y637 l1).bind fun t662 => (some t662)) else (some false)) else (some false)) else (some false))) else (some false)) else (some false)) = some r := by rw [if_pos rfl] at H; exact H
       clear H
       have H := H1
       clear H1
       by_cases c22 : t643 = t648
       ·rw [if_pos c22] at H
        have c22b0 : (t643 == t648) = true := beq_iff_eq.mpr c22
        have c22b1 : (t643 != t648) = false := bne_eq_false_iff_eq.mpr c22
        clear c22
        by_cases c23 : t644 = t649
        ·rw [if_pos c23] at H
         have c23b0 : (t644 == t649) = true := beq_iff_eq.mpr c23
         have c23b1 : (t644 != t649) = false := bne_eq_false_iff_eq.mpr c23
         clear c23
         replace H := Option.bind_eq_some_iff.mp H
         obtain ⟨t661, A240, H⟩ := H
         replace H : (if t661 = true then (if t653 = t658 then (if t654 = t659 then ((billetlaw06_Ints.f kj6 y637 l1).bind fun t662 => (some t662)) else (some false)) else (some false)) else (some false)) = some r := H
         have A24 := Aside0.mk A240
         clear A240
         by_cases c25 : t661 = true
         ·subst c25
          have H1 : (if t653 = t658 then (if t654 = t659 then ((billetlaw06_Ints.f kj6 y637 l1).bind fun t662 => (some t662)) else (some false)) else (some false)) = some r := by rw [if_pos rfl] at H; exact H
          clear H
          have H := H1
          clear H1
          by_cases c26 : t653 = t658
          ·rw [if_pos c26] at H
           have c26b0 : (t653 == t658) = true := beq_iff_eq.mpr c26
           have c26b1 : (t653 != t658) = false := bne_eq_false_iff_eq.mpr c26
           clear c26
           by_cases c27 : t654 = t659
           ·rw [if_pos c27] at H
            have c27b0 : (t654 == t659) = true := beq_iff_eq.mpr c27
            have c27b1 : (t654 != t659) = false := bne_eq_false_iff_eq.mpr c27
            clear c27
            replace H := Option.bind_eq_some_iff.mp H
            obtain ⟨t662, A280, H⟩ := H
            replace H : (some t662) = some r := H
            have A28 := Aside0.mk A280
            clear A280
            obtain rfl := Option.some.inj H
            go_wp2_with (first | ((with_reducible refine gate_builtin (b := .append) (xs := #[.const (.slice none 0 0), .tmp 36]) rfl ?_); (try (refine gate_guard (by rfl) ?_; dsimp only)); at_builtin; refine Kd.R_append_rows (Kd.int .i64) (w0 := w) w.heap.size rfl (.const (.slice none 0 0)) (.tmp 36) 25 3 (.int .i64 0) 8 rfl Try.underlying25 info3 rfl (by decide) (by omega) (.slice none 0 0) ([] : List Int) l1 _ _ _ (fun _ => True) (fun _ => False) rfl rfl ?aO ?aR (fun _ _ h => h) (fun _ h => h.elim) ?aF ?aB ?aS ?aL ?_; (case aR => repeat (first | exact (Kd.C_below HR1.out HB.out) | (with_reducible refine Kd.C_alloc ?_ _) | (with_reducible refine Kd.C_drewN ?_ _) | (with_reducible refine Kd.C_drew ?_))); (case aB => exact (by repeat (first | (with_reducible first | exact HB.out | apply below_alloc | apply pw_below_drewN | apply below_drew1 | refine below_set ?_ GE635.out) | exact HB.out))); (case aF => exact (fun _ _ => trivial)); (case aO => exact ((Kd.R_nil _ _ _ _ (fun _ => True)))); (case aS => exact (below_size (by repeat (first | (with_reducible first | exact HB.out | apply below_alloc | apply pw_below_drewN | apply below_drew1 | refine below_set ?_ GE635.out) | exact HB.out)))); (case aL => have := LMc14.out; omega); intro v638 w29 ho hb hg hat; rw [← Ny637.out] at ho; have n0_ := Aside0.mk (blk_grown (g := gb635) (o := .cells #[.int .i64 a0_0, .slice A0_1 l0_1.length c0_1] 24 (0, 0)) (by (with_reducible repeat (first | refine blk_drewN ?_ _ | refine blk_drew ?_ | refine blk_alloc ?_ _)); exact BK635.out) hg (by simp [Value.ownBlock])); have n1_ := Aside0.mk (hb); have n2_ := Aside0.mk (ho); clear BK635; clear HB; have BK635 := n0_; have HB := n1_; have HO639 := n2_; clear n0_ n1_ n2_; clear ho hb hg hat; have hcz30_0 : w29.cell? ⟨gb635, 0, none⟩ = some (.int .i64 a0_0) := (blk_cell BK635.out 0).trans rfl; have hcz30_1 : w29.cell? ⟨gb635, 1, none⟩ = some (.slice A0_1 l0_1.length c0_1) := (blk_cell BK635.out 1).trans rfl; have hfz30_0 := blk_frozen BK635.out 0; have hfz30_1 := blk_frozen BK635.out 1; obtain ⟨Ao31, co31, eo31⟩ := Kd.R_slice HO639.out; subst eo31) | ((with_reducible refine gate_callee (f := 35) rfl ?_); refine goesL_ (some 44) rfl rfl Try.func35 (by kernel_rfl) rfl #[.agg #[.int .i64 a0_0, .slice A0_1 l0_1.length c0_1], .slice Ao31 y637.length co31, .int .i64 a2, .int .i64 a3, .int .i64 a4] rfl (by (try simp only [List.map_toArray, List.map_cons, List.map_nil]); first | done | rfl | (simp only [List.length_drop, List.length_take]; rfl)) ?_; (with_reducible refine (flow_Push.calls kj6 a0_0 _ _ l0_1 _ _ y637 a2 a3 a4 t640 t643 t644 _ ?side1 ?side2 ?side3 ?side4 A15.out).mono ?_); (case side1 => repeat (first | exact (Kd.C_below HR0_1.out HB.out) | (with_reducible refine Kd.C_alloc ?_ _) | (with_reducible refine Kd.C_drewN ?_ _) | (with_reducible refine Kd.C_drew ?_))); (case side2 => exact HC0_1.out); (case side3 => repeat (first | exact (Kd.R_reads' HO639.out).2.2 | (with_reducible refine Kd.C_alloc ?_ _) | (with_reducible refine Kd.C_drewN ?_ _) | (with_reducible refine Kd.C_drew ?_))); (case side4 => exact (Kd.R_reads' HO639.out).2.1); rintro e w32 ⟨v641, rfl, ho0, hb⟩; refine ⟨_, rfl, ?_⟩; have n0_ := Aside0.mk (Kd.R_below (by (with_reducible repeat (first | apply Kd.R_alloc | apply Kd.R_drewN | apply Kd.R_drew)); exact HO639.out) hb); have n1_ := Aside0.mk (Kd.V_lower (Kd.V_mono (ok' := fun k_ => some k_ ≠ (.slice Ao31 y637.length co31 : Value).ownBlock ∧ k_ ≠ gb635) ho0 (fun k_ hk_ => ⟨(Kd.fresh' (Kd.R_lt (by (with_reducible repeat (first | apply Kd.R_alloc | apply Kd.R_drewN | apply Kd.R_drew)); exact HO639.out)) k_ hk_), (Kd.freshB (g := gb635) (o := .cells #[.int .i64 a0_0, .slice A0_1 l0_1.length c0_1] 24 (0, 0)) (by (with_reducible repeat (first | refine blk_drewN ?_ _ | refine blk_drew ?_ | refine blk_alloc ?_ _)); exact BK635.out) k_ hk_)⟩)) (below_size (by repeat (first | (with_reducible first | exact HB.out | apply below_alloc | apply pw_below_drewN | apply below_drew1 | refine below_set ?_ GE635.out) | exact HB.out)))); have n2_ := Aside0.mk (blk_below (g := gb635) (o := .cells #[.int .i64 a0_0, .slice A0_1 l0_1.length c0_1] 24 (0, 0)) (by (with_reducible repeat (first | refine blk_drewN ?_ _ | refine blk_drew ?_ | refine blk_alloc ?_ _)); exact BK635.out) hb); have n3_ := Aside0.mk (below_step (by repeat (first | (with_reducible first | exact HB.out | apply below_alloc | apply pw_below_drewN | apply below_drew1 | refine below_set ?_ GE635.out) | exact HB.out)) hb); clear HO639; clear BK635; clear HB; have HO639 := n0_; have HO642 := n1_; have BK635 := n2_; have HB := n3_; clear n0_ n1_ n2_ n3_; (try clear hb); (try clear hb2); (try clear hk); (try clear hi); (try clear ho0); have hcz33_0 : w32.cell? ⟨gb635, 0, none⟩ = some (.int .i64 a0_0) := (blk_cell BK635.out 0).trans rfl; have hcz33_1 : w32.cell? ⟨gb635, 1, none⟩ = some (.slice A0_1 l0_1.length c0_1) := (blk_cell BK635.out 1).trans rfl; have hfz33_0 := blk_frozen BK635.out 0; have hfz33_1 := blk_frozen BK635.out 1) | ((with_reducible refine gate_callee (f := 36) rfl ?_); refine goesL_ (some 54) rfl rfl Try.func36 (by kernel_rfl) rfl #[.agg #[.int .i64 a0_0, .slice A0_1 l0_1.length c0_1], .slice A1 l1.length c1, .int .i64 a2, .int .i64 a3, .int .i64 a4] rfl (by (try simp only [List.map_toArray, List.map_cons, List.map_nil]); first | done | rfl | (simp only [List.length_drop, List.length_take]; rfl)) ?_; (with_reducible refine (billetref06_Push.calls kj6 a0_0 _ _ l0_1 _ _ l1 a2 a3 a4 t645 t648 t649 _ ?side1 ?side2 ?side3 ?side4 A16.out).mono ?_); (case side1 => repeat (first | exact (Kd.C_below HR0_1.out HB.out) | (with_reducible refine Kd.C_alloc ?_ _) | (with_reducible refine Kd.C_drewN ?_ _) | (with_reducible refine Kd.C_drew ?_))); (case side2 => exact HC0_1.out); (case side3 => repeat (first | exact (Kd.C_below HR1.out HB.out) | (with_reducible refine Kd.C_alloc ?_ _) | (with_reducible refine Kd.C_drewN ?_ _) | (with_reducible refine Kd.C_drew ?_))); (case side4 => exact HC1.out); rintro e w34 ⟨v646, rfl, ho0, hb⟩; refine ⟨_, rfl, ?_⟩; have n0_ := Aside0.mk (Kd.R_elder' (by (with_reducible repeat (first | apply Kd.R_alloc | apply Kd.R_drewN | apply Kd.R_drew)); exact HO639.out) (Kd.R_base ho0) hb); have n1_ := Aside0.mk (Kd.V_elder' (by (with_reducible repeat (first | apply Kd.V_alloc | apply Kd.V_drewN | apply Kd.V_drew)); exact HO642.out) (Kd.R_base ho0) hb); have n2_ := Aside0.mk (Kd.R_lower (Kd.R_new' ho0 (Kd.R_lt (by (with_reducible repeat (first | apply Kd.R_alloc | apply Kd.R_drewN | apply Kd.R_drew)); exact HO639.out))) (below_size (by repeat (first | (with_reducible first | exact HB.out | apply below_alloc | apply pw_below_drewN | apply below_drew1 | refine below_set ?_ GE635.out) | exact HB.out)))); have n3_ := Aside0.mk (blk_below (g := gb635) (o := .cells #[.int .i64 a0_0, .slice A0_1 l0_1.length c0_1] 24 (0, 0)) (by (with_reducible repeat (first | refine blk_drewN ?_ _ | refine blk_drew ?_ | refine blk_alloc ?_ _)); exact BK635.out) hb); have n4_ := Aside0.mk (below_step (by repeat (first | (with_reducible first | exact HB.out | apply below_alloc | apply pw_below_drewN | apply below_drew1 | refine below_set ?_ GE635.out) | exact HB.out)) hb); clear HO639; clear HO642; clear BK635; clear HB; have HO639 := n0_; have HO642 := n1_; have HO647 := n2_; have BK635 := n3_; have HB := n4_; clear n0_ n1_ n2_ n3_ n4_; (try clear hb); (try clear hb2); (try clear hk); (try clear hi); (try clear ho0); have hcz35_0 : w34.cell? ⟨gb635, 0, none⟩ = some (.int .i64 a0_0) := (blk_cell BK635.out 0).trans rfl; have hcz35_1 : w34.cell? ⟨gb635, 1, none⟩ = some (.slice A0_1 l0_1.length c0_1) := (blk_cell BK635.out 1).trans rfl; have hfz35_0 := blk_frozen BK635.out 0; have hfz35_1 := blk_frozen BK635.out 1) | ((with_reducible refine gate_callee (f := 37) rfl ?_); refine goesL_ (some 62) rfl rfl Try.func37 (by kernel_rfl) rfl #[.agg #[.int .i64 a0_0, .slice A0_1 l0_1.length c0_1], .int .i64 a2, .int .i64 a3] rfl (by (try simp only [List.map_toArray, List.map_cons, List.map_nil]); first | done | rfl | (simp only [List.length_drop, List.length_take]; rfl)) ?_; (with_reducible refine (flow_Max.calls kj6 a0_0 _ _ l0_1 a2 a3 t650 t653 t654 _ ?side1 ?side2 A17.out).mono ?_); (case side1 => repeat (first | exact (Kd.C_below HR0_1.out HB.out) | (with_reducible refine Kd.C_alloc ?_ _) | (with_reducible refine Kd.C_drewN ?_ _) | (with_reducible refine Kd.C_drew ?_))); (case side2 => exact HC0_1.out); rintro e w36 ⟨v651, rfl, ho0, hb⟩; refine ⟨_, rfl, ?_⟩; have n0_ := Aside0.mk (Kd.R_below (by (with_reducible repeat (first | apply Kd.R_alloc | apply Kd.R_drewN | apply Kd.R_drew)); exact HO639.out) hb); have n1_ := Aside0.mk (Kd.V_below (by (with_reducible repeat (first | apply Kd.V_alloc | apply Kd.V_drewN | apply Kd.V_drew)); exact HO642.out) hb); have n2_ := Aside0.mk (Kd.R_below (by (with_reducible repeat (first | apply Kd.R_alloc | apply Kd.R_drewN | apply Kd.R_drew)); exact HO647.out) hb); have n3_ := Aside0.mk (Kd.V_lower (Kd.V_mono (ok' := fun k_ => some k_ ≠ (.slice Ao31 y637.length co31 : Value).ownBlock ∧ some k_ ≠ (v646 : Value).ownBlock ∧ k_ ≠ gb635) ho0 (fun k_ hk_ => ⟨(Kd.fresh' (Kd.R_lt (by (with_reducible repeat (first | apply Kd.R_alloc | apply Kd.R_drewN | apply Kd.R_drew)); exact HO639.out)) k_ hk_), (Kd.fresh' (Kd.R_lt (by (with_reducible repeat (first | apply Kd.R_alloc | apply Kd.R_drewN | apply Kd.R_drew)); exact HO647.out)) k_ hk_), (Kd.freshB (g := gb635) (o := .cells #[.int .i64 a0_0, .slice A0_1 l0_1.length c0_1] 24 (0, 0)) (by (with_reducible repeat (first | refine blk_drewN ?_ _ | refine blk_drew ?_ | refine blk_alloc ?_ _)); exact BK635.out) k_ hk_)⟩)) (below_size (by repeat (first | (with_reducible first | exact HB.out | apply below_alloc | apply pw_below_drewN | apply below_drew1 | refine below_set ?_ GE635.out) | exact HB.out)))); have n4_ := Aside0.mk (blk_below (g := gb635) (o := .cells #[.int .i64 a0_0, .slice A0_1 l0_1.length c0_1] 24 (0, 0)) (by (with_reducible repeat (first | refine blk_drewN ?_ _ | refine blk_drew ?_ | refine blk_alloc ?_ _)); exact BK635.out) hb); have n5_ := Aside0.mk (below_step (by repeat (first | (with_reducible first | exact HB.out | apply below_alloc | apply pw_below_drewN | apply below_drew1 | refine below_set ?_ GE635.out) | exact HB.out)) hb); clear HO639; clear HO642; clear HO647; clear BK635; clear HB; have HO639 := n0_; have HO642 := n1_; have HO647 := n2_; have HO652 := n3_; have BK635 := n4_; have HB := n5_; clear n0_ n1_ n2_ n3_ n4_ n5_; (try clear hb); (try clear hb2); (try clear hk); (try clear hi); (try clear ho0); have hcz37_0 : w36.cell? ⟨gb635, 0, none⟩ = some (.int .i64 a0_0) := (blk_cell BK635.out 0).trans rfl; have hcz37_1 : w36.cell? ⟨gb635, 1, none⟩ = some (.slice A0_1 l0_1.length c0_1) := (blk_cell BK635.out 1).trans rfl; have hfz37_0 := blk_frozen BK635.out 0; have hfz37_1 := blk_frozen BK635.out 1) | ((with_reducible refine gate_callee (f := 38) rfl ?_); refine goesL_ (some 70) rfl rfl Try.func38 (by kernel_rfl) rfl #[.agg #[.int .i64 a0_0, .slice A0_1 l0_1.length c0_1], .int .i64 a2, .int .i64 a3] rfl (by (try simp only [List.map_toArray, List.map_cons, List.map_nil]); first | done | rfl | (simp only [List.length_drop, List.length_take]; rfl)) ?_; (with_reducible refine (billetref06_Max.calls kj6 a0_0 _ _ l0_1 a2 a3 t655 t658 t659 _ ?side1 ?side2 A18.out).mono ?_); (case side1 => repeat (first | exact (Kd.C_below HR0_1.out HB.out) | (with_reducible refine Kd.C_alloc ?_ _) | (with_reducible refine Kd.C_drewN ?_ _) | (with_reducible refine Kd.C_drew ?_))); (case side2 => exact HC0_1.out); rintro e w38 ⟨v656, rfl, ho0, hb⟩; refine ⟨_, rfl, ?_⟩; have n0_ := Aside0.mk (Kd.R_elder' (by (with_reducible repeat (first | apply Kd.R_alloc | apply Kd.R_drewN | apply Kd.R_drew)); exact HO639.out) (Kd.R_base ho0) hb); have n1_ := Aside0.mk (Kd.V_elder' (by (with_reducible repeat (first | apply Kd.V_alloc | apply Kd.V_drewN | apply Kd.V_drew)); exact HO642.out) (Kd.R_base ho0) hb); have n2_ := Aside0.mk (Kd.R_elder' (by (with_reducible repeat (first | apply Kd.R_alloc | apply Kd.R_drewN | apply Kd.R_drew)); exact HO647.out) (Kd.R_base ho0) hb); have n3_ := Aside0.mk (Kd.V_elder' (by (with_reducible repeat (first | apply Kd.V_alloc | apply Kd.V_drewN | apply Kd.V_drew)); exact HO652.out) (Kd.R_base ho0) hb); have n4_ := Aside0.mk (Kd.R_lower (Kd.R_new' (Kd.R_new' ho0 (Kd.R_lt (by (with_reducible repeat (first | apply Kd.R_alloc | apply Kd.R_drewN | apply Kd.R_drew)); exact HO639.out))) (Kd.R_lt (by (with_reducible repeat (first | apply Kd.R_alloc | apply Kd.R_drewN | apply Kd.R_drew)); exact HO647.out))) (below_size (by repeat (first | (with_reducible first | exact HB.out | apply below_alloc | apply pw_below_drewN | apply below_drew1 | refine below_set ?_ GE635.out) | exact HB.out)))); have n5_ := Aside0.mk (blk_below (g := gb635) (o := .cells #[.int .i64 a0_0, .slice A0_1 l0_1.length c0_1] 24 (0, 0)) (by (with_reducible repeat (first | refine blk_drewN ?_ _ | refine blk_drew ?_ | refine blk_alloc ?_ _)); exact BK635.out) hb); have n6_ := Aside0.mk (below_step (by repeat (first | (with_reducible first | exact HB.out | apply below_alloc | apply pw_below_drewN | apply below_drew1 | refine below_set ?_ GE635.out) | exact HB.out)) hb); clear HO639; clear HO642; clear HO647; clear HO652; clear BK635; clear HB; have HO639 := n0_; have HO642 := n1_; have HO647 := n2_; have HO652 := n3_; have HO657 := n4_; have BK635 := n5_; have HB := n6_; clear n0_ n1_ n2_ n3_ n4_ n5_ n6_; (try clear hb); (try clear hb2); (try clear hk); (try clear hi); (try clear ho0); obtain ⟨Ao39, co39, eo39⟩ := Kd.V_slice HO642.out; subst eo39; obtain ⟨Ao40, co40, eo40⟩ := Kd.R_slice HO647.out; subst eo40) | (go_at_call 39; (with_reducible refine (billetlaw06_Ints.calls kj6 _ _ t640 _ _ t645 true _ ?side1 ?side2 ?side3 ?side4 A20.out).mono ?_); (case side1 => repeat (first | exact (Kd.V_reads' HO642.out).2.2 | (with_reducible refine Kd.C_alloc ?_ _) | (with_reducible refine Kd.C_drewN ?_ _) | (with_reducible refine Kd.C_drew ?_))); (case side2 => exact (Kd.V_reads' HO642.out).2.1); (case side3 => repeat (first | exact (Kd.R_reads' HO647.out).2.2 | (with_reducible refine Kd.C_alloc ?_ _) | (with_reducible refine Kd.C_drewN ?_ _) | (with_reducible refine Kd.C_drew ?_))); (case side4 => exact (Kd.R_reads' HO647.out).2.1); rintro e w' ⟨rfl, ⟨nd, rfl⟩⟩; obtain ⟨Ao41, co41, eo41⟩ := Kd.V_slice HO652.out; subst eo41; obtain ⟨Ao42, co42, eo42⟩ := Kd.R_slice HO657.out; subst eo42) | (go_at_call 39; (with_reducible refine (billetlaw06_Ints.calls kj6 _ _ t650 _ _ t655 true _ ?side1 ?side2 ?side3 ?side4 A24.out).mono ?_); (case side1 => repeat (first | exact (Kd.V_reads' HO652.out).2.2 | (with_reducible refine Kd.C_alloc ?_ _) | (with_reducible refine Kd.C_drewN ?_ _) | (with_reducible refine Kd.C_drew ?_))); (case side2 => exact (Kd.V_reads' HO652.out).2.1); (case side3 => repeat (first | exact (Kd.R_reads' HO657.out).2.2 | (with_reducible refine Kd.C_alloc ?_ _) | (with_reducible refine Kd.C_drewN ?_ _) | (with_reducible refine Kd.C_drew ?_))); (case side4 => exact (Kd.R_reads' HO657.out).2.1); rintro e w' ⟨rfl, ⟨nd, rfl⟩⟩) | (go_at_call 39; (with_reducible refine (billetlaw06_Ints.calls kj6 _ _ y637 _ _ l1 t662 _ ?side1 ?side2 ?side3 ?side4 A28.out).mono ?_); (case side1 => repeat (first | exact (Kd.R_reads' HO639.out).2.2 | (with_reducible refine Kd.C_alloc ?_ _) | (with_reducible refine Kd.C_drewN ?_ _) | (with_reducible refine Kd.C_drew ?_))); (case side2 => exact (Kd.R_reads' HO639.out).2.1); (case side3 => repeat (first | exact (Kd.C_below HR1.out (by repeat (first | (with_reducible first | exact HB.out | apply below_alloc | apply pw_below_drewN | apply below_drew1 | refine below_set ?_ GE635.out) | exact HB.out))) | (with_reducible refine Kd.C_alloc ?_ _) | (with_reducible refine Kd.C_drewN ?_ _) | (with_reducible refine Kd.C_drew ?_))); (case side4 => exact HC1.out); rintro e w' ⟨rfl, ⟨nd, rfl⟩⟩))
            go_ret
            exact ⟨by first | rfl | (simp [errW_none, errW_some] <;> rfl) | (simp [*, errW_none, errW_some] <;> rfl), by repeat (first | (with_reducible first | exact HB.out | apply below_alloc | apply pw_below_drewN | apply below_drew1 | refine below_set ?_ GE635.out) | exact HB.out)⟩
           ·rw [if_neg c27] at H
            have c27b0 : (t654 == t659) = false := beq_eq_false_iff_ne.mpr c27
            have c27b1 : (t654 != t659) = true := bne_iff_ne.mpr c27
            exact absurd (H.trans (congrArg some HT_.out)) (by simp)
          ·rw [if_neg c26] at H
           have c26b0 : (t653 == t658) = false := beq_eq_false_iff_ne.mpr c26
           have c26b1 : (t653 != t658) = true := bne_iff_ne.mpr c26
           exact absurd (H.trans (congrArg some HT_.out)) (by simp)
         ·replace c25 := Bool.eq_false_iff.mpr c25
          subst c25
          have H1 : (some false) = some r := by rw [if_neg (show ¬ (false = true) by decide)] at H; exact H
          clear H
          have H := H1
          clear H1
          exact absurd (H.trans (congrArg some HT_.out)) (by simp)
        ·rw [if_neg c23] at H
         have c23b0 : (t644 == t649) = false := beq_eq_false_iff_ne.mpr c23
         have c23b1 : (t644 != t649) = true := bne_iff_ne.mpr c23
         exact absurd (H.trans (congrArg some HT_.out)) (by simp)
       ·rw [if_neg c22] at H
        have c22b0 : (t643 == t648) = false := beq_eq_false_iff_ne.mpr c22
        have c22b1 : (t643 != t648) = true := bne_iff_ne.mpr c22
        exact absurd (H.trans (congrArg some HT_.out)) (by simp)
      ·replace c21 := Bool.eq_false_iff.mpr c21
       subst c21
       have H1 : (some false) = some r := by rw [if_neg (show ¬ (false = true) by decide)] at H; exact H
       clear H
       have H := H1
       clear H1
       exact absurd (H.trans (congrArg some HT_.out)) (by simp)
     ·replace c19 := Bool.eq_false_iff.mpr c19
      subst c19
      have H1 : (some false) = some r := by rw [if_neg (show ¬ (false = true) by decide)] at H; exact H
      clear H
      have H := H1
      clear H1
      exact absurd (H.trans (congrArg some HT_.out)) (by simp)
    ·rw [if_neg c14] at H
     exact absurd H (by simp)

end Go.Proofs.Ytfmfojogcghkkaa.P
