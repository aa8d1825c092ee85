-- Laid by a program of this session (wip/tools/genx.py) out of the kit's print of the translation.
import Derived.Test.YtfmfojogcghkkaaPx0
import Derived.Test.YtfmfojogcghkkaaBf
import Derived.Lib.Hide
import Derived.Test.YtfmfojogcghkkaaPx4
import Derived.Test.YtfmfojogcghkkaaPx10
import Derived.Test.YtfmfojogcghkkaaPx12
import Derived.Test.YtfmfojogcghkkaaPx13
import Derived.Test.YtfmfojogcghkkaaPx21
import Derived.Test.YtfmfojogcghkkaaPx22
namespace Go.Proofs.Ytfmfojogcghkkaa.P
open Go.RowKit Go.Proofs.YtfmfojogcghkkaaW.PrintWords Go.Proofs.YtfmfojogcghkkaaW.PrintLast Go.Proofs.YtfmfojogcghkkaaW.PrintMore
attribute [local go_sem] max2_int min2_int max_two min_two max_three min_three max_four min_four   -- for this text's walks alone
set_option linter.unusedVariables false
set_option linter.unusedSimpArgs false

/-! ### billetlaw05_GraphEnds: function 6 -/
/-- There is room from one that is reached to v, by edge i. -/
def pB (S : List Bool) (F : List Int) (l : List S41) (v : Int) (i : Nat) : Bool := ((rd_T41 l i).f1 == v && rdOf false S (rd_T41 l i).f0 && decide (rd F i < (rd_T41 l i).f2)) || ((rd_T41 l i).f0 == v && rdOf false S (rd_T41 l i).f1 && decide (0 < rd F i))
def frB (S : List Bool) (F : List Int) (l : List S41) (v : Int) : Nat → Bool
  | 0 => !rdOf false S v
  | i + 1 => frB S F l v i || pB S F l v i
/-- What is known of the network, the flow and who is reached. -/
structure EndsOk (N : Int) (l : List S41) (F : List Int) (S : List Bool) : Prop where
  n0 : 2 ≤ N
  n1 : N ≤ 64
  ll : l.length ≤ 256
  fl : F.length = l.length
  sl : (S.length : Int) = N
  ends : Bf.Ends l N
  out_ : ∀ i : Nat, i < l.length → ¬ (rdOf false S (rd_T41 l i).f0 = true ∧ rdOf false S (rd_T41 l i).f1 = false ∧ rd F i < (rd_T41 l i).f2)
  in_ : ∀ i : Nat, i < l.length → ¬ (rdOf false S (rd_T41 l i).f1 = true ∧ rdOf false S (rd_T41 l i).f0 = false ∧ 0 < rd F i)
  frm : ∀ v : Nat, 1 ≤ v → (v : Int) < N → frB S F l v l.length = true
/-- What is in memory behind the calls. -/
structure Ew (w0 : World) (N : Int) (l : List S41) (F : List Int) (S : List Bool) (b6 : Nat) (A6 : Option Addr) (c6 : Nat) (A7 A8 : Option Addr) (W : World) : Prop where
  bel : Below w0.heap.size w0 W
  box : W.heap[b6]? = some (.cells #[.int .i64 N, .slice A6 l.length c6] 24)
  hl : Kd.C k41 W A6 l.length l
  hf : Kd.C (Kd.int .i64) W A7 F.length F
  hs : Kd.C Kd.bool W A8 S.length S
theorem Ew.below {w0 W W' : World} {N : Int} {l : List S41} {F : List Int} {S : List Bool} {b6 : Nat} {A6 : Option Addr} {c6 : Nat} {A7 A8 : Option Addr} (h : Ew w0 N l F S b6 A6 c6 A7 A8 W) (hb : Below W.heap.size W W') : Ew w0 N l F S b6 A6 c6 A7 A8 W' :=
  ⟨h.bel.trans (hb.mono h.bel.size), (hb.block _ (blk_lt h.box)).trans h.box, Kd.C_below h.hl hb, Kd.C_below h.hf hb, Kd.C_below h.hs hb⟩
theorem Ew.alloc {w0 W : World} {N : Int} {l : List S41} {F : List Int} {S : List Bool} {b6 : Nat} {A6 : Option Addr} {c6 : Nat} {A7 A8 : Option Addr} (h : Ew w0 N l F S b6 A6 c6 A7 A8 W) (o : Obj) : Ew w0 N l F S b6 A6 c6 A7 A8 (W.alloc o) := h.below ((Below.refl _ _).alloc (Nat.le_refl _) o)
theorem Ew.drewN {w0 W : World} {N : Int} {l : List S41} {F : List Int} {S : List Bool} {b6 : Nat} {A6 : Option Addr} {c6 : Nat} {A7 A8 : Option Addr} (h : Ew w0 N l F S b6 A6 c6 A7 A8 W) (m : Nat) : Ew w0 N l F S b6 A6 c6 A7 A8 (W.drewN m) := h.below ⟨rfl, rfl, rfl, Nat.le_refl _, fun _ _ => rfl⟩
theorem Ew.cells {w0 W : World} {N : Int} {l : List S41} {F : List Int} {S : List Bool} {b6 : Nat} {A6 : Option Addr} {c6 : Nat} {A7 A8 : Option Addr} (h : Ew w0 N l F S b6 A6 c6 A7 A8 W) : W.cell? ⟨b6, 0, none⟩ = some (.int .i64 N) ∧ W.cell? ⟨b6, 1, none⟩ = some (.slice A6 l.length c6) := ⟨(blk_cell h.box 0).trans rfl, (blk_cell h.box 1).trans rfl⟩

def billetlaw05_GraphEnds.j1 : Nat → List Int → List Bool → Bool → Int → List (S41) → Option (Bool)
  | 0, _, _, _, _, _ => none
  | k + 1, x7, x8, x51, x351000, x351001 => if x51 = true then (some false) else (some true)
def billetlaw05_GraphEnds.j0 : Nat → List Int → List Bool → Bool → Int → List (S41) → Option (Bool)
  | 0, _, _, _, _, _ => none
  | k + 1, x7, x8, x38, x351000, x351001 => if x38 = true then (some false) else (if 1 < (x8.length : Int) then (if rdOf false x8 1 = true then (billetlaw05_GraphEnds.j1 k x7 x8 false x351000 x351001) else ((graph_Cut.f k x351000 x351001 x8).bind fun t359 => ((graph_Value.f k x351000 x351001 x7 0).bind fun t360 => (billetlaw05_GraphEnds.j1 k x7 x8 (t359 != t360) x351000 x351001)))) else (none))
def billetlaw05_GraphEnds.f (k : Nat) (a0_0 : Int) (l0_1 : List (S41)) (l1 : List Int) : Option (Bool) := (billetlaw05_awake.f k).bind fun t345 => ((billetlaw05_Fit.f k a0_0 l0_1).bind fun bt346 => ((billetlaw05_Flow.f k bt346.1 bt346.2 l1).bind fun t351 => ((graph_Reach.f k bt346.1 bt346.2 t351 0).bind fun t354 => (if t345 = true then (if (t354.length : Int) = bt346.1 then (if 0 < (t354.length : Int) then (billetlaw05_GraphEnds.j0 k t351 t354 (!(rdOf false t354 0)) bt346.1 bt346.2) else (none)) else (billetlaw05_GraphEnds.j0 k t351 t354 true bt346.1 bt346.2)) else (billetlaw05_GraphEnds.j0 k t351 t354 true bt346.1 bt346.2)))))
def billetlaw05_GraphEnds.T7 : Bool × List (List Nat × List Nat) := (true, [([], []), ([0], [0]), ([1], [1]), ([2], [2]), ([3], [3]), ([4], [4]), ([4], [4]), ([5, 6, 4, 4], [4, 5, 6]), ([4], [4]), ([4], [4]), ([8, 9, 7, 4], [4, 8, 9]), ([7, 10, 4], [4, 7, 10]), ([4, 11], [4, 11])])
def billetlaw05_GraphEnds.B7 : List Nat := [0, 1, 3, 7, 15, 31, 31, 127, 31, 31, 1023, 2047, 4095]
theorem billetlaw05_GraphEnds.tab7 : rtab .any (opsOf Try.f6 7) = billetlaw05_GraphEnds.T7 := by kernel_rfl
theorem billetlaw05_GraphEnds.bits7 : waitsOk billetlaw05_GraphEnds.T7.2 billetlaw05_GraphEnds.B7 = true := by kernel_rfl
set_option maxHeartbeats 8000000 in
set_option maxRecDepth 100000 in
theorem billetlaw05_GraphEnds.calls (k : Nat) (a0_0 : Int) (A0_1 : Option Addr) (c0_1 : Nat) (l0_1 : List (S41)) (A1 : Option Addr) (c1 : Nat) (l1 : List Int) (r : Bool) (w : World) (hr0_1 : Kd.C k41 w A0_1 l0_1.length l0_1) (hc0_1 : l0_1.length ≤ c0_1) (hr1 : Kd.C (Kd.int .i64) w A1 l1.length l1) (hc1 : l1.length ≤ c1) (h : billetlaw05_GraphEnds.f k a0_0 l0_1 l1 = some r) (hT_ : r = true)
    (hP : ∀ N l F S, billetlaw05_Fit.f k a0_0 l0_1 = some (N, l) → billetlaw05_Flow.f k N l l1 = some F → graph_Reach.f k N l F 0 = some S → EndsOk N l F S) :
    Calls Try.prog 6 #[.agg #[.int .i64 a0_0, .slice A0_1 l0_1.length c0_1], .slice A1 l1.length c1] w fun e w' => e = .returned (.bool r) ∧ Below w.heap.size w w' := by
  have hu24 := Try.underlying24
  have hu41 := Try.underlying41
  have HR0_1 := Aside0.mk hr0_1
  have HC0_1 := Aside0.mk hc0_1
  clear hr0_1 hc0_1
  have HR1 := Aside0.mk hr1
  have HC1 := Aside0.mk hc1
  clear hr1 hc1
  have HTr_ := Aside0.mk hT_
  clear hT_
  have HB := Aside0.mk (Below.refl w.heap.size w)
  have H : ((billetlaw05_awake.f k).bind fun t345 => ((billetlaw05_Fit.f k a0_0 l0_1).bind fun bt346 => ((billetlaw05_Flow.f k bt346.1 bt346.2 l1).bind fun t351 => ((graph_Reach.f k bt346.1 bt346.2 t351 0).bind fun t354 => (if t345 = true then (if (t354.length : Int) = bt346.1 then (if 0 < (t354.length : Int) then (billetlaw05_GraphEnds.j0 k t351 t354 (!(rdOf false t354 0)) bt346.1 bt346.2) else (none)) else (billetlaw05_GraphEnds.j0 k t351 t354 true bt346.1 bt346.2)) else (billetlaw05_GraphEnds.j0 k t351 t354 true bt346.1 bt346.2)))))) = some r := h
  clear h
  replace H := Option.bind_eq_some_iff.mp H
  obtain ⟨t345, A30, H⟩ := H
  replace H : ((billetlaw05_Fit.f k a0_0 l0_1).bind fun bt346 => ((billetlaw05_Flow.f k bt346.1 bt346.2 l1).bind fun t351 => ((graph_Reach.f k bt346.1 bt346.2 t351 0).bind fun t354 => (if t345 = true then (if (t354.length : Int) = bt346.1 then (if 0 < (t354.length : Int) then (billetlaw05_GraphEnds.j0 k t351 t354 (!(rdOf false t354 0)) bt346.1 bt346.2) else (none)) else (billetlaw05_GraphEnds.j0 k t351 t354 true bt346.1 bt346.2)) else (billetlaw05_GraphEnds.j0 k t351 t354 true bt346.1 bt346.2))))) = some r := H
  have A3 := Aside0.mk A30
  clear A30
  replace H := Option.bind_eq_some_iff.mp H
  obtain ⟨⟨t346, t347⟩, A40, H⟩ := H
  replace H : ((billetlaw05_Flow.f k t346 t347 l1).bind fun t351 => ((graph_Reach.f k t346 t347 t351 0).bind fun t354 => (if t345 = true then (if (t354.length : Int) = t346 then (if 0 < (t354.length : Int) then (billetlaw05_GraphEnds.j0 k t351 t354 (!(rdOf false t354 0)) t346 t347) else (none)) else (billetlaw05_GraphEnds.j0 k t351 t354 true t346 t347)) else (billetlaw05_GraphEnds.j0 k t351 t354 true t346 t347)))) = some r := H
  have A4 := Aside0.mk A40
  clear A40
  replace H := Option.bind_eq_some_iff.mp H
  obtain ⟨t351, A50, H⟩ := H
  replace H : ((graph_Reach.f k t346 t347 t351 0).bind fun t354 => (if t345 = true then (if (t354.length : Int) = t346 then (if 0 < (t354.length : Int) then (billetlaw05_GraphEnds.j0 k t351 t354 (!(rdOf false t354 0)) t346 t347) else (none)) else (billetlaw05_GraphEnds.j0 k t351 t354 true t346 t347)) else (billetlaw05_GraphEnds.j0 k t351 t354 true t346 t347))) = some r := H
  have A5 := Aside0.mk A50
  clear A50
  replace H := Option.bind_eq_some_iff.mp H
  obtain ⟨t354, A60, H⟩ := H
  replace H : (if t345 = true then (if (t354.length : Int) = t346 then (if 0 < (t354.length : Int) then (billetlaw05_GraphEnds.j0 k t351 t354 (!(rdOf false t354 0)) t346 t347) else (none)) else (billetlaw05_GraphEnds.j0 k t351 t354 true t346 t347)) else (billetlaw05_GraphEnds.j0 k t351 t354 true t346 t347)) = some r := H
  have HE_ := Aside0.mk (hP t346 t347 t351 t354 A4.out A5.out A60)
  clear hP
  have A6 := Aside0.mk A60
  clear A60
  have HC7 := Aside0.mk H
  clear H
  go_enter Try.func6, Try.ntmps6
  go_upto_region 5 with (first | ((with_reducible refine gate_dst (N := 2) rfl ?_); (try (refine gate_guard (by rfl) ?_; dsimp only)); refine box_event ?hg (N := 2) ?hd (cs := #[.int .i64 a0_0, .slice A0_1 l0_1.length c0_1]) (t := 24) ?hr ?_; (case hd => rfl); (case hg => rfl); (case hr => first | (go_simp; done) | (go_simp; rfl)); intro gb344 hg w8 hbox hb; have n0_ := Aside0.mk (below_step (by repeat (first | (with_reducible first | exact HB.out | apply below_alloc | apply pw_below_drewN | apply below_drew1) | exact HB.out)) hb); have n1_ := Aside0.mk (hbox); have n2_ := Aside0.mk ((by rw [hg]; exact (below_size (by repeat (first | (with_reducible first | exact HB.out | apply below_alloc | apply pw_below_drewN | apply below_drew1) | exact HB.out))) : w.heap.size ≤ gb344)); have n3_ := Aside0.mk ((by rw [hg]; exact (below_size (by repeat (first | (with_reducible first | exact HB.out | apply below_alloc | apply pw_below_drewN | apply below_drew1) | exact HB.out))) : w.heap.size ≤ gb344)); clear HB; have HB := n0_; have BK344 := n1_; have GW344 := n2_; have GE344 := n3_; clear n0_ n1_ n2_ n3_; clear hb hbox hg) | ((with_reducible refine gate_callee (f := 18) rfl ?_); refine goesL_ (some 15) rfl rfl Try.func18 (by kernel_rfl) rfl #[] rfl (by (try simp only [List.map_toArray, List.map_cons, List.map_nil]); first | done | rfl | (simp only [List.length_drop, List.length_take]; rfl)) ?_; (with_reducible refine (billetlaw05_awake.calls k  t345 _ A3.out).mono ?_); rintro e w9 ⟨rfl, hb⟩; refine ⟨_, rfl, ?_⟩; have n0_ := Aside0.mk (blk_below (g := gb344) (o := .cells #[.int .i64 a0_0, .slice A0_1 l0_1.length c0_1] 24 (0, 0)) (by (with_reducible repeat (first | refine blk_drewN ?_ _ | refine blk_drew ?_ | refine blk_alloc ?_ _)); exact BK344.out) hb); have n1_ := Aside0.mk (below_step (by repeat (first | (with_reducible first | exact HB.out | apply below_alloc | apply pw_below_drewN | apply below_drew1 | refine below_set ?_ GE344.out) | exact HB.out)) hb); clear BK344; clear HB; have BK344 := n0_; have HB := n1_; clear n0_ n1_; (try clear hb); (try clear hb2); (try clear hk); (try clear hi); have hcz10_0 : w9.cell? ⟨gb344, 0, none⟩ = some (.int .i64 a0_0) := (blk_cell BK344.out 0).trans rfl; have hcz10_1 : w9.cell? ⟨gb344, 1, none⟩ = some (.slice A0_1 l0_1.length c0_1) := (blk_cell BK344.out 1).trans rfl; have hfz10_0 := blk_frozen BK344.out 0; have hfz10_1 := blk_frozen BK344.out 1) | ((with_reducible refine gate_callee (f := 30) rfl ?_); refine goesL_ (some 17) rfl rfl Try.func30 (by kernel_rfl) rfl #[.agg #[.int .i64 a0_0, .slice A0_1 l0_1.length c0_1]] rfl (by (try simp only [List.map_toArray, List.map_cons, List.map_nil]); first | done | rfl | (simp only [List.length_drop, List.length_take]; rfl)) ?_; (with_reducible refine (billetlaw05_Fit.calls k a0_0 _ _ l0_1 t346 t347 _ ?side1 ?side2 A4.out).mono ?_); (case side1 => repeat (first | exact (Kd.C_below HR0_1.out HB.out) | (with_reducible refine Kd.C_alloc ?_ _) | (with_reducible refine Kd.C_drewN ?_ _) | (with_reducible refine Kd.C_drew ?_))); (case side2 => exact HC0_1.out); rintro e w11 ⟨v348, rfl, ho0, hb⟩; refine ⟨_, rfl, ?_⟩; have n0_ := Aside0.mk (Kd.R_lower ho0 (below_size (by repeat (first | (with_reducible first | exact HB.out | apply below_alloc | apply pw_below_drewN | apply below_drew1 | refine below_set ?_ GE344.out) | exact HB.out)))); have n1_ := Aside0.mk (blk_below (g := gb344) (o := .cells #[.int .i64 a0_0, .slice A0_1 l0_1.length c0_1] 24 (0, 0)) (by (with_reducible repeat (first | refine blk_drewN ?_ _ | refine blk_drew ?_ | refine blk_alloc ?_ _)); exact BK344.out) hb); have n2_ := Aside0.mk (below_step (by repeat (first | (with_reducible first | exact HB.out | apply below_alloc | apply pw_below_drewN | apply below_drew1 | refine below_set ?_ GE344.out) | exact HB.out)) hb); clear BK344; clear HB; have HO349 := n0_; have BK344 := n1_; have HB := n2_; clear n0_ n1_ n2_; (try clear hb); (try clear hb2); (try clear hk); (try clear hi); (try clear ho0)) | ((with_reducible refine gate_dst (N := 6) rfl ?_); (try (refine gate_guard (by rfl) ?_; dsimp only)); refine box_event ?hg (N := 6) ?hd (cs := #[.int .i64 0, .slice none 0 0]) (t := 24) ?hr ?_; (case hd => rfl); (case hg => rfl); (case hr => first | (go_simp; done) | (go_simp; rfl)); intro gb350 hg w12 hbox hb; have n0_ := Aside0.mk (Kd.R_below (by (with_reducible repeat (first | apply Kd.R_alloc | apply Kd.R_drewN | apply Kd.R_drew)); exact HO349.out) hb); have n1_ := Aside0.mk (blk_below (g := gb344) (o := .cells #[.int .i64 a0_0, .slice A0_1 l0_1.length c0_1] 24 (0, 0)) (by (with_reducible repeat (first | refine blk_drewN ?_ _ | refine blk_drew ?_ | refine blk_alloc ?_ _)); exact BK344.out) hb); have n2_ := Aside0.mk (below_step (by repeat (first | (with_reducible first | exact HB.out | apply below_alloc | apply pw_below_drewN | apply below_drew1 | refine below_set ?_ GE344.out) | exact HB.out)) hb); have n3_ := Aside0.mk (hbox); have n4_ := Aside0.mk ((by rw [hg]; exact (below_size (by repeat (first | (with_reducible first | exact HB.out | apply below_alloc | apply pw_below_drewN | apply below_drew1 | refine below_set ?_ GE344.out) | exact HB.out))) : w.heap.size ≤ gb350)); have n5_ := Aside0.mk ((by rw [hg]; exact (below_size (by repeat (first | (with_reducible first | exact HB.out | apply below_alloc | apply pw_below_drewN | apply below_drew1 | refine below_set ?_ GE344.out) | exact HB.out))) : w.heap.size ≤ gb350)); have n6_ := Aside0.mk ((by rw [hg]; exact Nat.ne_of_lt (blk_lt (g := gb344) (o := .cells #[.int .i64 a0_0, .slice A0_1 l0_1.length c0_1] 24 (0, 0)) (by (with_reducible repeat (first | refine blk_drewN ?_ _ | refine blk_drew ?_ | refine blk_alloc ?_ _)); exact BK344.out)) : gb344 ≠ gb350)); have n7_ := Aside0.mk ((by rw [hg]; exact Nat.ne_of_gt (blk_lt (g := gb344) (o := .cells #[.int .i64 a0_0, .slice A0_1 l0_1.length c0_1] 24 (0, 0)) (by (with_reducible repeat (first | refine blk_drewN ?_ _ | refine blk_drew ?_ | refine blk_alloc ?_ _)); exact BK344.out)) : gb350 ≠ gb344)); clear HO349; clear BK344; clear HB; have HO349 := n0_; have BK344 := n1_; have HB := n2_; have BK350 := n3_; have GW350 := n4_; have GE350 := n5_; have NB344_350 := n6_; have NB350_344 := n7_; clear n0_ n1_ n2_ n3_ n4_ n5_ n6_ n7_; clear hb hbox hg; have hnb13 := NB350_344.out; have hnc13 := NB344_350.out; have hcz14_0 : w12.cell? ⟨gb350, 0, none⟩ = some (.int .i64 0) := (blk_cell BK350.out 0).trans rfl; have hcz14_1 : w12.cell? ⟨gb350, 1, none⟩ = some (.slice none 0 0) := (blk_cell BK350.out 1).trans rfl; have hfz14_0 := blk_frozen BK350.out 0; have hfz14_1 := blk_frozen BK350.out 1; obtain ⟨Ao15, co15, eo15⟩ := Kd.R_slice HO349.out; subst eo15) | ((with_reducible refine gate_callee (f := 31) rfl ?_); refine goesL_ (some 20) rfl rfl Try.func31 (by kernel_rfl) rfl #[.agg #[.int .i64 t346, .slice Ao15 t347.length co15], .slice A1 l1.length c1] rfl (by (try simp only [List.map_toArray, List.map_cons, List.map_nil]); first | done | rfl | (simp only [List.length_drop, List.length_take]; rfl)) ?_; (with_reducible refine (billetlaw05_Flow.calls k t346 _ _ t347 _ _ l1 t351 _ ?side1 ?side2 ?side3 ?side4 A5.out).mono ?_); (case side1 => refine (Kd.R_reads' (e := 41) (base := w.heap.size) (ok := fun k_ => True) (n := t347.length) (c := co15) ?_).2.2; exact (by (with_reducible repeat (first | apply Kd.R_alloc | apply Kd.R_drewN | apply Kd.R_drew)); exact (Kd.R_mono (Kd.R_far (p := ⟨gb350, 1, none⟩) (Kd.R_far (p := ⟨gb350, 0, none⟩) (Kd.R_types HO349.out BK350.out (by decide)) (fun _ hk => hk.2) (.int .i64 t346)) (fun _ hk => hk.2) (.slice Ao15 t347.length co15)) (fun _ h_ => h_.1)))); (case side2 => exact (Kd.R_reads' HO349.out).2.1); (case side3 => exact Kd.C_below HR1.out (by repeat (first | (with_reducible first | exact HB.out | apply below_alloc | apply pw_below_drewN | apply below_drew1 | refine below_set ?_ GE344.out | refine below_set ?_ GE350.out) | exact HB.out))); (case side4 => exact HC1.out); rintro e w16 ⟨v352, rfl, ho0, hb⟩; refine ⟨_, rfl, ?_⟩; have n0_ := Aside0.mk (Kd.R_below (by (with_reducible repeat (first | apply Kd.R_alloc | apply Kd.R_drewN | apply Kd.R_drew)); exact (Kd.R_mono (Kd.R_far (p := ⟨gb350, 1, none⟩) (Kd.R_far (p := ⟨gb350, 0, none⟩) (Kd.R_types HO349.out BK350.out (by decide)) (fun _ hk => hk.2) (.int .i64 t346)) (fun _ hk => hk.2) (.slice Ao15 t347.length co15)) (fun _ h_ => h_.1))) hb); have n1_ := Aside0.mk (Kd.R_lower ho0 (below_size (by repeat (first | (with_reducible first | exact HB.out | apply below_alloc | apply pw_below_drewN | apply below_drew1 | refine below_set ?_ GE344.out | refine below_set ?_ GE350.out) | exact HB.out)))); have n2_ := Aside0.mk (blk_below (g := gb344) (o := .cells #[.int .i64 a0_0, .slice A0_1 l0_1.length c0_1] 24 (0, 0)) (by (with_reducible repeat (first | refine blk_drewN ?_ _ | refine blk_drew ?_ | refine blk_alloc ?_ _)); refine blk_far ?_ NB344_350.out _; (with_reducible repeat (first | refine blk_drewN ?_ _ | refine blk_drew ?_ | refine blk_alloc ?_ _)); refine blk_far ?_ NB344_350.out _; (with_reducible repeat (first | refine blk_drewN ?_ _ | refine blk_drew ?_ | refine blk_alloc ?_ _)); exact BK344.out) hb); have n3_ := Aside0.mk (blk_below (g := gb350) (o := .cells #[.int .i64 t346, .slice Ao15 t347.length co15] 24 (0, 0)) (by (with_reducible repeat (first | refine blk_drewN ?_ _ | refine blk_drew ?_ | refine blk_alloc ?_ _)); refine blk_put (cs := #[.int .i64 t346, .slice none 0 0]) ?_ 1 _ rfl; (with_reducible repeat (first | refine blk_drewN ?_ _ | refine blk_drew ?_ | refine blk_alloc ?_ _)); refine blk_put (cs := #[.int .i64 0, .slice none 0 0]) ?_ 0 _ rfl; (with_reducible repeat (first | refine blk_drewN ?_ _ | refine blk_drew ?_ | refine blk_alloc ?_ _)); exact BK350.out) hb); have n4_ := Aside0.mk (below_step (by repeat (first | (with_reducible first | exact HB.out | apply below_alloc | apply pw_below_drewN | apply below_drew1 | refine below_set ?_ GE344.out | refine below_set ?_ GE350.out) | exact HB.out)) hb); clear HO349; clear BK344; clear BK350; clear HB; have HO349 := n0_; have HO353 := n1_; have BK344 := n2_; have BK350 := n3_; have HB := n4_; clear n0_ n1_ n2_ n3_ n4_; (try clear hb); (try clear hb2); (try clear hk); (try clear hi); (try clear ho0); have hcz17_0 : w16.cell? ⟨gb350, 0, none⟩ = some (.int .i64 t346) := (blk_cell BK350.out 0).trans rfl; have hcz17_1 : w16.cell? ⟨gb350, 1, none⟩ = some (.slice Ao15 t347.length co15) := (blk_cell BK350.out 1).trans rfl; have hfz17_0 := blk_frozen BK350.out 0; have hfz17_1 := blk_frozen BK350.out 1; obtain ⟨Ao18, co18, eo18⟩ := Kd.R_slice HO353.out; subst eo18) | ((with_reducible refine gate_callee (f := 20) rfl ?_); refine goesL_ (some 23) rfl rfl Try.func20 (by kernel_rfl) rfl #[.agg #[.int .i64 t346, .slice Ao15 t347.length co15], .slice Ao18 t351.length co18, .int .i64 0] rfl (by (try simp only [List.map_toArray, List.map_cons, List.map_nil]); first | done | rfl | (simp only [List.length_drop, List.length_take]; rfl)) ?_; (with_reducible refine (graph_Reach.calls k t346 _ _ t347 _ _ t351 0 t354 _ ?side1 ?side2 ?side3 ?side4 A6.out).mono ?_); (case side1 => repeat (first | exact (Kd.R_reads' HO349.out).2.2 | (with_reducible refine Kd.C_alloc ?_ _) | (with_reducible refine Kd.C_drewN ?_ _) | (with_reducible refine Kd.C_drew ?_))); (case side2 => exact (Kd.R_reads' HO349.out).2.1); (case side3 => repeat (first | exact (Kd.R_reads' HO353.out).2.2 | (with_reducible refine Kd.C_alloc ?_ _) | (with_reducible refine Kd.C_drewN ?_ _) | (with_reducible refine Kd.C_drew ?_))); (case side4 => exact (Kd.R_reads' HO353.out).2.1); rintro e w19 ⟨v355, rfl, ho0, hb⟩; refine ⟨_, rfl, ?_⟩; have n0_ := Aside0.mk (Kd.R_below (by (with_reducible repeat (first | apply Kd.R_alloc | apply Kd.R_drewN | apply Kd.R_drew)); exact HO349.out) hb); have n1_ := Aside0.mk (Kd.R_below (by (with_reducible repeat (first | apply Kd.R_alloc | apply Kd.R_drewN | apply Kd.R_drew)); exact HO353.out) hb); have n2_ := Aside0.mk (Kd.R_lower ho0 (below_size (by repeat (first | (with_reducible first | exact HB.out | apply below_alloc | apply pw_below_drewN | apply below_drew1 | refine below_set ?_ GE344.out | refine below_set ?_ GE350.out) | exact HB.out)))); have n3_ := Aside0.mk (blk_below (g := gb344) (o := .cells #[.int .i64 a0_0, .slice A0_1 l0_1.length c0_1] 24 (0, 0)) (by (with_reducible repeat (first | refine blk_drewN ?_ _ | refine blk_drew ?_ | refine blk_alloc ?_ _)); exact BK344.out) hb); have n4_ := Aside0.mk (blk_below (g := gb350) (o := .cells #[.int .i64 t346, .slice Ao15 t347.length co15] 24 (0, 0)) (by (with_reducible repeat (first | refine blk_drewN ?_ _ | refine blk_drew ?_ | refine blk_alloc ?_ _)); exact BK350.out) hb); have n5_ := Aside0.mk (below_step (by repeat (first | (with_reducible first | exact HB.out | apply below_alloc | apply pw_below_drewN | apply below_drew1 | refine below_set ?_ GE344.out | refine below_set ?_ GE350.out) | exact HB.out)) hb); clear HO349; clear HO353; clear BK344; clear BK350; clear HB; have HO349 := n0_; have HO353 := n1_; have HO356 := n2_; have BK344 := n3_; have BK350 := n4_; have HB := n5_; clear n0_ n1_ n2_ n3_ n4_ n5_; (try clear hb); (try clear hb2); (try clear hk); (try clear hi); (try clear ho0)))
  (try simp only [Act.put, List.setIfInBounds_toArray, List.set_cons_zero, List.set_cons_succ])
  go_cut [38] (fun v38 wc => ∃ (kq : Nat) (x38_6 : Bool), v38 = .bool x38_6 ∧ Aside0 (billetlaw05_GraphEnds.j0 kq t351 t354 x38_6 t346 t347 = some r) ∧ Aside0 (kq ≤ k) ∧ Aside0 (Kd.R (Kd.int .i64) 3 wc w.heap.size (fun _ => True) (.slice Ao18 t351.length co18) t351) ∧ Aside0 (Kd.R Kd.bool 4 wc w.heap.size (fun _ => True) v355 t354) ∧ Aside0 (Kd.R k41 41 wc w.heap.size (fun _ => True) (.slice Ao15 t347.length co15) t347) ∧ Aside0 (wc.heap[gb344]? = some (.cells #[.int .i64 a0_0, (.slice A0_1 l0_1.length c0_1)] 24 (0, 0))) ∧ Aside0 (wc.heap[gb350]? = some (.cells #[.int .i64 t346, (.slice Ao15 t347.length co15)] 24 (0, 0))) ∧ Aside0 (Below w.heap.size w wc))
  case first =>
    have H := HC7.out
    clear HC7
    by_cases c20 : t345 = true
    · subst c20
      have H1 : (if (t354.length : Int) = t346 then (if 0 < (t354.length : Int) then (billetlaw05_GraphEnds.j0 k t351 t354 (!(rdOf false t354 0)) t346 t347) else (none)) else (billetlaw05_GraphEnds.j0 k t351 t354 true t346 t347)) = some r := by rw [if_pos rfl] at H; exact H
      clear H
      have H := H1
      clear H1
      by_cases c21 : (t354.length : Int) = t346
      · rw [if_pos c21] at H
        have c21b0 : ((t354.length : Int) == t346) = true := beq_iff_eq.mpr c21
        have c21b1 : ((t354.length : Int) != t346) = false := bne_eq_false_iff_eq.mpr c21
        clear c21
        (first | rw [c21b0] | (simp only [i64_w, i32_w]; rw [c21b0]) | skip)
        by_cases c22 : 0 < (t354.length : Int)
        · rw [if_pos c22] at H
          have c22b0 : decide (0 < (t354.length : Int)) = true := decide_eq_true c22
          have c22b1 : decide (0 < t354.length) = true := decide_eq_true (by omega)
          clear c22
          have H' := Aside0.mk H
          clear H
          obtain ⟨Ao23, co23, eo23⟩ := Kd.R_slice HO356.out
          subst eo23
          have hnb24 := NB350_344.out
          have hnc24 := NB344_350.out
          have hcz25_0 : w19.cell? ⟨gb350, 0, none⟩ = some (.int .i64 t346) := (blk_cell BK350.out 0).trans rfl
          have hcz25_1 : w19.cell? ⟨gb350, 1, none⟩ = some (.slice Ao15 t347.length co15) := (blk_cell BK350.out 1).trans rfl
          have hfz25_0 := blk_frozen BK350.out 0
          have hfz25_1 := blk_frozen BK350.out 1
          have p357 : 0 ≤ (0 : Int) := (by omega)
          have q357 : 0 < (t354.length : Int) := of_decide_eq_true (by first | (with_reducible assumption) | assumption)
          obtain ⟨ad357, e357, hx357_0⟩ := Kd.at_bool (Kd.R_reads' HO356.out).2.2 0 p357 q357
          cases e357
          have qi357 : (0 < t354.length) = True := eq_true (by omega)
          (try rw [show ((0 : Int)).toNat = 0 from rfl] at hx357_0)
          (try rw [Addr.add_zero'] at hx357_0)
          replace p357 := eq_true p357
          replace q357 := eq_true q357
          go_wp2
          go_meet
          case rel => exact ⟨_, (!(rdOf false t354 0)), (by first | rfl | (simp; done) | (simp [*]; done)), H', ⟨by first | omega | exact Nat.le_refl _⟩, ⟨by (with_reducible repeat (first | apply Kd.R_alloc | apply Kd.R_drewN | apply Kd.R_drew)); exact HO353.out⟩, ⟨by (with_reducible repeat (first | apply Kd.R_alloc | apply Kd.R_drewN | apply Kd.R_drew)); exact HO356.out⟩, ⟨by (with_reducible repeat (first | apply Kd.R_alloc | apply Kd.R_drewN | apply Kd.R_drew)); exact HO349.out⟩, ⟨by (with_reducible repeat (first | refine blk_drewN ?_ _ | refine blk_drew ?_ | refine blk_alloc ?_ _)); exact BK344.out⟩, ⟨by (with_reducible repeat (first | refine blk_drewN ?_ _ | refine blk_drew ?_ | refine blk_alloc ?_ _)); exact BK350.out⟩, ⟨by repeat (first | (with_reducible first | exact HB.out | apply below_alloc | apply pw_below_drewN | apply below_drew1 | refine below_set ?_ GE344.out | refine below_set ?_ GE350.out) | exact HB.out)⟩⟩
        · rw [if_neg c22] at H
          exact absurd H (by simp)
      · rw [if_neg c21] at H
        have c21b0 : ((t354.length : Int) == t346) = false := beq_eq_false_iff_ne.mpr c21
        have c21b1 : ((t354.length : Int) != t346) = true := bne_iff_ne.mpr c21
        (first | rw [c21b0] | (simp only [i64_w, i32_w]; rw [c21b0]) | skip)
        have H' := Aside0.mk H
        clear H
        obtain ⟨Ao26, co26, eo26⟩ := Kd.R_slice HO356.out
        subst eo26
        have hnb27 := NB350_344.out
        have hnc27 := NB344_350.out
        have hcz28_0 : w19.cell? ⟨gb350, 0, none⟩ = some (.int .i64 t346) := (blk_cell BK350.out 0).trans rfl
        have hcz28_1 : w19.cell? ⟨gb350, 1, none⟩ = some (.slice Ao15 t347.length co15) := (blk_cell BK350.out 1).trans rfl
        have hfz28_0 := blk_frozen BK350.out 0
        have hfz28_1 := blk_frozen BK350.out 1
        go_wp2
        go_meet
        case rel => exact ⟨_, (true), (by first | rfl | (simp; done) | (simp [*]; done)), H', ⟨by first | omega | exact Nat.le_refl _⟩, ⟨by (with_reducible repeat (first | apply Kd.R_alloc | apply Kd.R_drewN | apply Kd.R_drew)); exact HO353.out⟩, ⟨by (with_reducible repeat (first | apply Kd.R_alloc | apply Kd.R_drewN | apply Kd.R_drew)); exact HO356.out⟩, ⟨by (with_reducible repeat (first | apply Kd.R_alloc | apply Kd.R_drewN | apply Kd.R_drew)); exact HO349.out⟩, ⟨by (with_reducible repeat (first | refine blk_drewN ?_ _ | refine blk_drew ?_ | refine blk_alloc ?_ _)); exact BK344.out⟩, ⟨by (with_reducible repeat (first | refine blk_drewN ?_ _ | refine blk_drew ?_ | refine blk_alloc ?_ _)); exact BK350.out⟩, ⟨by repeat (first | (with_reducible first | exact HB.out | apply below_alloc | apply pw_below_drewN | apply below_drew1 | refine below_set ?_ GE344.out | refine below_set ?_ GE350.out) | exact HB.out)⟩⟩
    · replace c20 := Bool.eq_false_iff.mpr c20
      subst c20
      have H1 : (billetlaw05_GraphEnds.j0 k t351 t354 true t346 t347) = some r := by rw [if_neg (show ¬ (false = true) by decide)] at H; exact H
      clear H
      have H := H1
      clear H1
      have H' := Aside0.mk H
      clear H
      go_wp2
      go_meet
      case rel => exact ⟨_, (true), (by first | rfl | (simp; done) | (simp [*]; done)), H', ⟨by first | omega | exact Nat.le_refl _⟩, ⟨by (with_reducible repeat (first | apply Kd.R_alloc | apply Kd.R_drewN | apply Kd.R_drew)); exact HO353.out⟩, ⟨by (with_reducible repeat (first | apply Kd.R_alloc | apply Kd.R_drewN | apply Kd.R_drew)); exact HO356.out⟩, ⟨by (with_reducible repeat (first | apply Kd.R_alloc | apply Kd.R_drewN | apply Kd.R_drew)); exact HO349.out⟩, ⟨by (with_reducible repeat (first | refine blk_drewN ?_ _ | refine blk_drew ?_ | refine blk_alloc ?_ _)); exact BK344.out⟩, ⟨by (with_reducible repeat (first | refine blk_drewN ?_ _ | refine blk_drew ?_ | refine blk_alloc ?_ _)); exact BK350.out⟩, ⟨by repeat (first | (with_reducible first | exact HB.out | apply below_alloc | apply pw_below_drewN | apply below_drew1 | refine below_set ?_ GE344.out | refine below_set ?_ GE350.out) | exact HB.out)⟩⟩
  case rest =>
    clear HC7
    try clear c1
    try clear c2
    try clear p2
    try clear c3
    try clear p3
    try clear q3
    try clear hx3
    try clear qi3
    try clear c6
    try clear c13
    try clear c18
    try clear c20
    try clear c21
    try clear c21b0
    try clear c21b1
    try clear c22
    try clear c22b0
    try clear c22b1
    try clear c24
    try clear c27
    try clear hcz10_0
    try clear hcz10_1
    try clear hcz14_0
    try clear hcz14_1
    try clear hcz17_0
    try clear hcz17_1
    try clear hcz25_0
    try clear hcz25_1
    try clear hcz28_0
    try clear hcz28_1
    try clear hfz10_0
    try clear hfz10_1
    try clear hfz14_0
    try clear hfz14_1
    try clear hfz17_0
    try clear hfz17_1
    try clear hfz25_0
    try clear hfz25_1
    try clear hfz28_0
    try clear hfz28_1
    try clear hx357_0
    try clear p357
    try clear q357
    obtain ⟨kq, x38_6, rfl, HA, HJ6, HO_7, HO_8, HO_351001, BK344, BK350, HB⟩ := hcut
    cases kq with
    | zero => exact absurd HA.out (by simp [billetlaw05_GraphEnds.j0])
    | succ kj6 =>
      have H := HA.out
      clear HA
      simp only [billetlaw05_GraphEnds.j0] at H
      by_cases c29 : x38_6 = true
      · subst c29
        have H1 : (some false) = some r := by rw [if_pos rfl] at H; exact H
        clear H
        have H := H1
        clear H1
        exact absurd (H.trans (congrArg some HTr_.out)) (by simp)
      · replace c29 := Bool.eq_false_iff.mpr c29
        subst c29
        have H1 : (if 1 < (t354.length : Int) then (if rdOf false t354 1 = true then (billetlaw05_GraphEnds.j1 kj6 t351 t354 false t346 t347) else ((graph_Cut.f kj6 t346 t347 t354).bind fun t359 => ((graph_Value.f kj6 t346 t347 t351 0).bind fun t360 => (billetlaw05_GraphEnds.j1 kj6 t351 t354 (t359 != t360) t346 t347)))) else (none)) = some r := by rw [if_neg (show ¬ (false = true) by decide)] at H; exact H
        clear H
        have H := H1
        clear H1
        have HC30 := Aside0.mk H
        clear H
        go_upto_region 7 with (fail)
        go_cut [51] (fun v51 wc => ∃ (kq : Nat) (x51_29 : Bool), v51 = .bool x51_29 ∧ Aside0 (billetlaw05_GraphEnds.j1 kq t351 t354 x51_29 t346 t347 = some r) ∧ Aside0 (kq ≤ kj6) ∧ Aside0 (Kd.R (Kd.int .i64) 3 wc w.heap.size (fun _ => True) (.slice Ao18 t351.length co18) t351) ∧ Aside0 (Kd.R Kd.bool 4 wc w.heap.size (fun _ => True) v355 t354) ∧ Aside0 (Kd.R k41 41 wc w.heap.size (fun _ => True) (.slice Ao15 t347.length co15) t347) ∧ Aside0 (wc.heap[gb344]? = some (.cells #[.int .i64 a0_0, (.slice A0_1 l0_1.length c0_1)] 24 (0, 0))) ∧ Aside0 (wc.heap[gb350]? = some (.cells #[.int .i64 t346, (.slice Ao15 t347.length co15)] 24 (0, 0))) ∧ Aside0 (Below w.heap.size w wc))
        case first =>
          have H := HC30.out
          clear HC30
          by_cases c31 : 1 < (t354.length : Int)
          · rw [if_pos c31] at H
            have c31b0 : decide (1 < (t354.length : Int)) = true := decide_eq_true c31
            have c31b1 : decide (1 < t354.length) = true := decide_eq_true (by omega)
            clear c31
            (first | rw [c31b0] | (simp only [i64_w, i32_w]; rw [c31b0]) | skip)
            obtain ⟨bq32, hbq32⟩ : ∃ b_ : Bool, b_ = (rdOf false t354 1) := ⟨_, rfl⟩
            replace H : (if bq32 = true then (billetlaw05_GraphEnds.j1 kj6 t351 t354 false t346 t347) else ((graph_Cut.f kj6 t346 t347 t354).bind fun t359 => ((graph_Value.f kj6 t346 t347 t351 0).bind fun t360 => (billetlaw05_GraphEnds.j1 kj6 t351 t354 (t359 != t360) t346 t347)))) = some r := by rw [← hbq32] at H; exact H
            have Nbq32 := Aside0.mk hbq32
            clear hbq32
            by_cases c33 : bq32 = true
            · subst c33
              have H1 : (billetlaw05_GraphEnds.j1 kj6 t351 t354 false t346 t347) = some r := by rw [if_pos rfl] at H; exact H
              clear H
              have H := H1
              clear H1
              have H' := Aside0.mk H
              clear H
              try go_wp2
              have n0_ := Aside0.mk (Kd.R_drew HO_7.out)
              have n1_ := Aside0.mk (Kd.R_drew HO_8.out)
              have n2_ := Aside0.mk (Kd.R_drew HO_351001.out)
              have n3_ := Aside0.mk (blk_drew BK344.out)
              have n4_ := Aside0.mk (blk_drew BK350.out)
              have n5_ := Aside0.mk (below_drew1 HB.out)
              clear HO_7
              clear HO_8
              clear HO_351001
              clear BK344
              clear BK350
              clear HB
              have HO_7 := n0_
              have HO_8 := n1_
              have HO_351001 := n2_
              have BK344 := n3_
              have BK350 := n4_
              have HB := n5_
              clear n0_ n1_ n2_ n3_ n4_ n5_
              obtain ⟨Ao35, co35, eo35⟩ := Kd.R_slice HO_8.out
              (first | subst eo35 | (injection eo35 with f1_ f2_ f3_; have f4_ := f1_.symm; have f5_ := f3_.symm; clear f1_ f2_ f3_; subst f4_; subst f5_))
              have p358 : 0 ≤ (1 : Int) := (by omega)
              have q358 : 1 < (t354.length : Int) := of_decide_eq_true (by first | (with_reducible assumption) | assumption)
              obtain ⟨ad358, e358, hx358_0⟩ := Kd.at_bool (Kd.R_reads' HO_8.out).2.2 1 p358 q358
              (try rw [← Nbq32.out] at hx358_0)
              cases e358
              (try simp only [show (1 : Int).toNat = 1 from rfl, Nat.reduceMul, Nat.reduceEqDiff, Go.Addr.add, ↓reduceIte] at hx358_0)
              have qi358 : (1 < t354.length) = True := eq_true (by omega)
              (try rw [show ((1 : Int)).toNat = 1 from rfl] at hx358_0)
              replace p358 := eq_true p358
              replace q358 := eq_true q358
              refine start_ (n := 13) (S := fun w' => w'.cell? ⟨ad358.block, ad358.off + 1, none⟩ = some (.bool true)) (ds := []) #[false, false, false, false, false, false, false, false, false, false, false, false, false] (by kernel_rfl) rfl rfl (hx358_0) (fun hHeld => ?_); refine with_tabW billetlaw05_GraphEnds.tab7 billetlaw05_GraphEnds.bits7 (fun HT_ HW_ => ?_)
              generalize wc.drew = w34 at HO_7 HO_8 HO_351001 BK344 BK350 HB hx358_0 hHeld ⊢
              refine pure_ (i := 0) (N := some 39) (v := ?_) (a' := ?_) #[true, false, false, false, false, false, false, false, false, false, false, false, false] rfl rfl (any_of HT_.out (by kernel_rfl)) (fun _ _ _ h => h) (Or.inl ⟨by rfl, ?_⟩) ?_ ?_
              rotate_left
              · intro w'
                go_simp
                with_reducible rfl
              rotate_left
              · simp only [Act.put, List.setIfInBounds_toArray, List.set_cons_zero, List.set_cons_succ, i64_w, i32_w]
                rfl
              refine pure_ (i := 1) (N := some 40) (v := ?_) (a' := ?_) #[true, true, false, false, false, false, false, false, false, false, false, false, false] rfl rfl (any_of HT_.out (by kernel_rfl)) (fun _ _ _ h => h) (Or.inl ⟨by rfl, ?_⟩) ?_ ?_
              rotate_left
              · intro w'
                go_simp
                with_reducible rfl
              rotate_left
              · simp only [Act.put, List.setIfInBounds_toArray, List.set_cons_zero, List.set_cons_succ, i64_w, i32_w]
                rfl
              refine take_ (i := 2) (N := some 41) (v := ?_) (a' := ?_) #[true, true, true, false, false, false, false, false, false, false, false, false, false] rfl rfl (take_ofW HT_.out HW_.out (by kernel_rfl)) (fun _ _ _ h => h) (Or.inl ⟨by rfl, ?_⟩) hHeld ?_ ?_
              rotate_left
              · intro w' s0
                go_simp
                with_reducible rfl
              rotate_left
              · simp only [Act.put, List.setIfInBounds_toArray, List.set_cons_zero, List.set_cons_succ, i64_w, i32_w]
                rfl
              refine pure_ (i := 3) (N := some 42) (v := ?_) (a' := ?_) #[true, true, true, true, false, false, false, false, false, false, false, false, false] rfl rfl (any_of HT_.out (by kernel_rfl)) (fun _ _ _ h => h) (Or.inl ⟨by rfl, ?_⟩) ?_ ?_
              rotate_left
              · intro w'
                go_simp
                with_reducible rfl
              rotate_left
              · simp only [Act.put, List.setIfInBounds_toArray, List.set_cons_zero, List.set_cons_succ, i64_w, i32_w]
                rfl
              refine pure_ (i := 4) (N := some 43) (v := ?_) (a' := ?_) #[true, true, true, true, true, false, false, false, false, false, false, false, false] rfl rfl (any_of HT_.out (by kernel_rfl)) (fun _ _ _ h => h) (Or.inl ⟨by rfl, ?_⟩) ?_ ?_
              rotate_left
              · intro w'
                go_simp
                with_reducible rfl
              rotate_left
              · simp only [Act.put, List.setIfInBounds_toArray, List.set_cons_zero, List.set_cons_succ, i64_w, i32_w]
                rfl
              refine pure_ (i := 5) (N := some 44) (v := undef) (a' := ?_) #[true, true, true, true, true, true, false, false, false, false, false, false, false] rfl rfl (any_of HT_.out (by kernel_rfl)) (fun _ _ _ h => h) (Or.inr ⟨by rfl, rfl⟩) ?_ ?_
              rotate_left
              · simp only [Act.put, List.setIfInBounds_toArray, List.set_cons_zero, List.set_cons_succ, i64_w, i32_w]
                rfl
              refine pure_ (i := 6) (N := some 45) (v := undef) (a' := ?_) #[true, true, true, true, true, true, true, false, false, false, false, false, false] rfl rfl (any_of HT_.out (by kernel_rfl)) (fun _ _ _ h => h) (Or.inr ⟨by rfl, rfl⟩) ?_ ?_
              rotate_left
              · simp only [Act.put, List.setIfInBounds_toArray, List.set_cons_zero, List.set_cons_succ, i64_w, i32_w]
                rfl
              refine pure_ (i := 7) (N := some 46) (v := undef) (a' := ?_) #[true, true, true, true, true, true, true, true, false, false, false, false, false] rfl rfl (any_of HT_.out (by kernel_rfl)) (fun _ _ _ h => h) (Or.inr ⟨by rfl, rfl⟩) ?_ ?_
              rotate_left
              · simp only [Act.put, List.setIfInBounds_toArray, List.set_cons_zero, List.set_cons_succ, i64_w, i32_w]
                rfl
              refine pure_ (i := 8) (N := some 47) (v := undef) (a' := ?_) #[true, true, true, true, true, true, true, true, true, false, false, false, false] rfl rfl (any_of HT_.out (by kernel_rfl)) (fun _ _ _ h => h) (Or.inr ⟨by rfl, rfl⟩) ?_ ?_
              rotate_left
              · simp only [Act.put, List.setIfInBounds_toArray, List.set_cons_zero, List.set_cons_succ, i64_w, i32_w]
                rfl
              refine pure_ (i := 9) (N := some 48) (v := undef) (a' := ?_) #[true, true, true, true, true, true, true, true, true, true, false, false, false] rfl rfl (any_of HT_.out (by kernel_rfl)) (fun _ _ _ h => h) (Or.inr ⟨by rfl, rfl⟩) ?_ ?_
              rotate_left
              · simp only [Act.put, List.setIfInBounds_toArray, List.set_cons_zero, List.set_cons_succ, i64_w, i32_w]
                rfl
              refine pure_ (i := 10) (N := some 49) (v := undef) (a' := ?_) #[true, true, true, true, true, true, true, true, true, true, true, false, false] rfl rfl (any_of HT_.out (by kernel_rfl)) (fun _ _ _ h => h) (Or.inr ⟨by rfl, rfl⟩) ?_ ?_
              rotate_left
              · simp only [Act.put, List.setIfInBounds_toArray, List.set_cons_zero, List.set_cons_succ, i64_w, i32_w]
                rfl
              refine pure_ (i := 11) (N := some 50) (v := undef) (a' := ?_) #[true, true, true, true, true, true, true, true, true, true, true, true, false] rfl rfl (any_of HT_.out (by kernel_rfl)) (fun _ _ _ h => h) (Or.inr ⟨by rfl, rfl⟩) ?_ ?_
              rotate_left
              · simp only [Act.put, List.setIfInBounds_toArray, List.set_cons_zero, List.set_cons_succ, i64_w, i32_w]
                rfl
              refine pure_ (i := 12) (N := some 51) (v := ?_) (a' := ?_) #[true, true, true, true, true, true, true, true, true, true, true, true, true] rfl rfl (any_of HT_.out (by kernel_rfl)) (fun _ _ _ h => h) (Or.inl ⟨by rfl, ?_⟩) ?_ ?_
              rotate_left
              · intro w'
                go_simp
                with_reducible rfl
              rotate_left
              · simp only [Act.put, List.setIfInBounds_toArray, List.set_cons_zero, List.set_cons_succ, i64_w, i32_w]
                rfl
              refine done_ (done_of HT_.out (by kernel_rfl)) ?_
              try go_wp2
              go_meet
              case rel => exact ⟨_, (false), (by first | rfl | (simp; done) | (simp [*]; done)), H', ⟨by have := HJ6.out; first | omega | exact Nat.le_refl _⟩, ⟨by (with_reducible repeat (first | apply Kd.R_alloc | apply Kd.R_drewN | apply Kd.R_drew)); exact HO_7.out⟩, ⟨by (with_reducible repeat (first | apply Kd.R_alloc | apply Kd.R_drewN | apply Kd.R_drew)); exact HO_8.out⟩, ⟨by (with_reducible repeat (first | apply Kd.R_alloc | apply Kd.R_drewN | apply Kd.R_drew)); exact HO_351001.out⟩, ⟨by (with_reducible repeat (first | refine blk_drewN ?_ _ | refine blk_drew ?_ | refine blk_alloc ?_ _)); exact BK344.out⟩, ⟨by (with_reducible repeat (first | refine blk_drewN ?_ _ | refine blk_drew ?_ | refine blk_alloc ?_ _)); exact BK350.out⟩, ⟨by repeat (first | (with_reducible first | exact HB.out | apply below_alloc | apply pw_below_drewN | apply below_drew1 | refine below_set ?_ GE344.out | refine below_set ?_ GE350.out) | exact HB.out)⟩⟩
            · replace c33 := Bool.eq_false_iff.mpr c33
              subst c33
              have H1 : ((graph_Cut.f kj6 t346 t347 t354).bind fun t359 => ((graph_Value.f kj6 t346 t347 t351 0).bind fun t360 => (billetlaw05_GraphEnds.j1 kj6 t351 t354 (t359 != t360) t346 t347))) = some r := by rw [if_neg (show ¬ (false = true) by decide)] at H; exact H
              clear H
              have H := H1
              clear H1
              replace H := Option.bind_eq_some_iff.mp H
              obtain ⟨t359, A360, H⟩ := H
              replace H : ((graph_Value.f kj6 t346 t347 t351 0).bind fun t360 => (billetlaw05_GraphEnds.j1 kj6 t351 t354 (t359 != t360) t346 t347)) = some r := H
              have A36 := Aside0.mk A360
              clear A360
              replace H := Option.bind_eq_some_iff.mp H
              obtain ⟨t360, A370, H⟩ := H
              replace H : (billetlaw05_GraphEnds.j1 kj6 t351 t354 (t359 != t360) t346 t347) = some r := H
              have A37 := Aside0.mk A370
              clear A370
              have H' := Aside0.mk H
              clear H
              try go_wp2
              have n0_ := Aside0.mk (Kd.R_drew HO_7.out)
              have n1_ := Aside0.mk (Kd.R_drew HO_8.out)
              have n2_ := Aside0.mk (Kd.R_drew HO_351001.out)
              have n3_ := Aside0.mk (blk_drew BK344.out)
              have n4_ := Aside0.mk (blk_drew BK350.out)
              have n5_ := Aside0.mk (below_drew1 HB.out)
              clear HO_7
              clear HO_8
              clear HO_351001
              clear BK344
              clear BK350
              clear HB
              have HO_7 := n0_
              have HO_8 := n1_
              have HO_351001 := n2_
              have BK344 := n3_
              have BK350 := n4_
              have HB := n5_
              clear n0_ n1_ n2_ n3_ n4_ n5_
              obtain ⟨Ao39, co39, eo39⟩ := Kd.R_slice HO_8.out
              (first | subst eo39 | (injection eo39 with f1_ f2_ f3_; have f4_ := f1_.symm; have f5_ := f3_.symm; clear f1_ f2_ f3_; subst f4_; subst f5_))
              have p358 : 0 ≤ (1 : Int) := (by omega)
              have q358 : 1 < (t354.length : Int) := of_decide_eq_true (by first | (with_reducible assumption) | assumption)
              obtain ⟨ad358, e358, hx358_0⟩ := Kd.at_bool (Kd.R_reads' HO_8.out).2.2 1 p358 q358
              (try rw [← Nbq32.out] at hx358_0)
              cases e358
              (try simp only [show (1 : Int).toNat = 1 from rfl, Nat.reduceMul, Nat.reduceEqDiff, Go.Addr.add, ↓reduceIte] at hx358_0)
              have qi358 : (1 < t354.length) = True := eq_true (by omega)
              (try rw [show ((1 : Int)).toNat = 1 from rfl] at hx358_0)
              replace p358 := eq_true p358
              replace q358 := eq_true q358
              refine start_ (n := 13) (S := fun w' => w'.cell? ⟨gb350, 0, none⟩ = some (.int .i64 t346) ∧ w'.cell? ⟨gb350, 1, none⟩ = some (.slice Ao15 t347.length co15) ∧ w'.cell? ⟨ad358.block, ad358.off + 1, none⟩ = some (.bool false)) (ds := []) #[false, false, false, false, false, false, false, false, false, false, false, false, false] (by kernel_rfl) rfl rfl ⟨(blk_cell BK350.out 0).trans rfl, (blk_cell BK350.out 1).trans rfl, hx358_0⟩ (fun hHeld => ?_); refine with_tabW billetlaw05_GraphEnds.tab7 billetlaw05_GraphEnds.bits7 (fun HT_ HW_ => ?_)
              generalize wc.drew = w38 at HO_7 HO_8 HO_351001 BK344 BK350 HB hx358_0 hHeld ⊢
              refine pure_ (i := 0) (N := some 39) (v := ?_) (a' := ?_) #[true, false, false, false, false, false, false, false, false, false, false, false, false] rfl rfl (any_of HT_.out (by kernel_rfl)) (fun _ _ _ h => h) (Or.inl ⟨by rfl, ?_⟩) ?_ ?_
              rotate_left
              · intro w'
                go_simp
                with_reducible rfl
              rotate_left
              · simp only [Act.put, List.setIfInBounds_toArray, List.set_cons_zero, List.set_cons_succ, i64_w, i32_w]
                rfl
              refine pure_ (i := 1) (N := some 40) (v := ?_) (a' := ?_) #[true, true, false, false, false, false, false, false, false, false, false, false, false] rfl rfl (any_of HT_.out (by kernel_rfl)) (fun _ _ _ h => h) (Or.inl ⟨by rfl, ?_⟩) ?_ ?_
              rotate_left
              · intro w'
                go_simp
                with_reducible rfl
              rotate_left
              · simp only [Act.put, List.setIfInBounds_toArray, List.set_cons_zero, List.set_cons_succ, i64_w, i32_w]
                rfl
              refine take_ (i := 2) (N := some 41) (v := ?_) (a' := ?_) #[true, true, true, false, false, false, false, false, false, false, false, false, false] rfl rfl (take_ofW HT_.out HW_.out (by kernel_rfl)) (fun _ _ _ h => h) (Or.inl ⟨by rfl, ?_⟩) hHeld ?_ ?_
              rotate_left
              · rintro w' ⟨s0, s1, s2⟩
                go_simp
                with_reducible rfl
              rotate_left
              · simp only [Act.put, List.setIfInBounds_toArray, List.set_cons_zero, List.set_cons_succ, i64_w, i32_w]
                rfl
              refine pure_ (i := 3) (N := some 42) (v := ?_) (a' := ?_) #[true, true, true, true, false, false, false, false, false, false, false, false, false] rfl rfl (any_of HT_.out (by kernel_rfl)) (fun _ _ _ h => h) (Or.inl ⟨by rfl, ?_⟩) ?_ ?_
              rotate_left
              · intro w'
                go_simp
                with_reducible rfl
              rotate_left
              · simp only [Act.put, List.setIfInBounds_toArray, List.set_cons_zero, List.set_cons_succ, i64_w, i32_w]
                rfl
              refine pure_ (i := 4) (N := some 43) (v := ?_) (a' := ?_) #[true, true, true, true, true, false, false, false, false, false, false, false, false] rfl rfl (any_of HT_.out (by kernel_rfl)) (fun _ _ _ h => h) (Or.inl ⟨by rfl, ?_⟩) ?_ ?_
              rotate_left
              · intro w'
                go_simp
                with_reducible rfl
              rotate_left
              · simp only [Act.put, List.setIfInBounds_toArray, List.set_cons_zero, List.set_cons_succ, i64_w, i32_w]
                rfl
              refine pure_ (i := 6) (N := some 45) (v := ?_) (a' := ?_) #[true, true, true, true, true, false, true, false, false, false, false, false, false] rfl rfl (any_of HT_.out (by kernel_rfl)) (fun _ _ _ h => h) (Or.inl ⟨by rfl, ?_⟩) ?_ ?_
              rotate_left
              · intro w'
                go_simp
                with_reducible rfl
              rotate_left
              · simp only [Act.put, List.setIfInBounds_toArray, List.set_cons_zero, List.set_cons_succ, i64_w, i32_w]
                rfl
              refine pure_ (i := 9) (N := some 48) (v := ?_) (a' := ?_) #[true, true, true, true, true, false, true, false, false, true, false, false, false] rfl rfl (any_of HT_.out (by kernel_rfl)) (fun _ _ _ h => h) (Or.inl ⟨by rfl, ?_⟩) ?_ ?_
              rotate_left
              · intro w'
                go_simp
                with_reducible rfl
              rotate_left
              · simp only [Act.put, List.setIfInBounds_toArray, List.set_cons_zero, List.set_cons_succ, i64_w, i32_w]
                rfl
              refine take_ (i := 5) (N := some 44) (v := ?_) (a' := ?_) #[true, true, true, true, true, true, true, false, false, true, false, false, false] rfl rfl (take_ofW HT_.out HW_.out (by kernel_rfl)) (fun _ _ _ h => h) (Or.inl ⟨by rfl, ?_⟩) hHeld ?_ ?_
              rotate_left
              · rintro w' ⟨s0, s1, s2⟩
                go_simp
                with_reducible rfl
              rotate_left
              · simp only [Act.put, List.setIfInBounds_toArray, List.set_cons_zero, List.set_cons_succ, i64_w, i32_w]
                rfl
              refine take_ (i := 8) (N := some 47) (v := ?_) (a' := ?_) #[true, true, true, true, true, true, true, false, true, true, false, false, false] rfl rfl (take_ofW HT_.out HW_.out (by kernel_rfl)) (fun _ _ _ h => h) (Or.inl ⟨by rfl, ?_⟩) hHeld ?_ ?_
              rotate_left
              · rintro w' ⟨s0, s1, s2⟩
                go_simp
                with_reducible rfl
              rotate_left
              · simp only [Act.put, List.setIfInBounds_toArray, List.set_cons_zero, List.set_cons_succ, i64_w, i32_w]
                rfl
              refine one_ (i := 7) (N := some 46) #[true, true, true, true, true, true, true, true, true, true, false, false, false] rfl rfl (one_of HT_.out (by kernel_rfl)) (by decide) (fun K hK => ?_)
              refine goes_ Try.func28 (by kernel_rfl) rfl #[.agg #[.int .i64 t346, .slice Ao15 t347.length co15], .slice (some ad358) t354.length co39] (by rfl) rfl rfl (by (try simp only [List.map_toArray, List.map_cons, List.map_nil]); first | done | rfl | (simp only [List.length_drop, List.length_take]; rfl)) ?_
              with_reducible refine (graph_Cut.calls kj6 t346 _ _ t347 _ _ t354 t359 _ ?side1 ?side2 ?side3 ?side4 A36.out).mono ?_
              (case side1 => repeat (first | exact (Kd.R_reads' HO_351001.out).2.2 | (with_reducible refine Kd.C_alloc ?_ _) | (with_reducible refine Kd.C_drewN ?_ _) | (with_reducible refine Kd.C_drew ?_)))
              (case side2 => exact (Kd.R_reads' HO_351001.out).2.1)
              (case side3 => repeat (first | exact (Kd.R_reads' HO_8.out).2.2 | (with_reducible refine Kd.C_alloc ?_ _) | (with_reducible refine Kd.C_drewN ?_ _) | (with_reducible refine Kd.C_drew ?_)))
              (case side4 => exact (Kd.R_reads' HO_8.out).2.1)
              rintro e w40 ⟨rfl, hb⟩
              have HS2_ := (hb.cell (World.block_lt_of_cell? _ _ (hHeld.2.2))).trans (hHeld.2.2)
              refine ⟨_, rfl, ?_⟩
              have n0_ := Aside0.mk (Kd.R_below (by (with_reducible repeat (first | apply Kd.R_alloc | apply Kd.R_drewN | apply Kd.R_drew)); exact HO_7.out) hb)
              have n1_ := Aside0.mk (Kd.R_below (by (with_reducible repeat (first | apply Kd.R_alloc | apply Kd.R_drewN | apply Kd.R_drew)); exact HO_8.out) hb)
              have n2_ := Aside0.mk (Kd.R_below (by (with_reducible repeat (first | apply Kd.R_alloc | apply Kd.R_drewN | apply Kd.R_drew)); exact HO_351001.out) hb)
              have n3_ := Aside0.mk (blk_below (g := gb344) (o := .cells #[.int .i64 a0_0, .slice A0_1 l0_1.length c0_1] 24 (0, 0)) (by (with_reducible repeat (first | refine blk_drewN ?_ _ | refine blk_drew ?_ | refine blk_alloc ?_ _)); exact BK344.out) hb)
              have n4_ := Aside0.mk (blk_below (g := gb350) (o := .cells #[.int .i64 t346, .slice Ao15 t347.length co15] 24 (0, 0)) (by (with_reducible repeat (first | refine blk_drewN ?_ _ | refine blk_drew ?_ | refine blk_alloc ?_ _)); exact BK350.out) hb)
              have n5_ := Aside0.mk (below_step (by repeat (first | (with_reducible first | exact HB.out | apply below_alloc | apply pw_below_drewN | apply below_drew1 | refine below_set ?_ GE344.out | refine below_set ?_ GE350.out) | exact HB.out)) hb)
              clear HO_7
              clear HO_8
              clear HO_351001
              clear BK344
              clear BK350
              clear HB
              have HO_7 := n0_
              have HO_8 := n1_
              have HO_351001 := n2_
              have BK344 := n3_
              have BK350 := n4_
              have HB := n5_
              clear n0_ n1_ n2_ n3_ n4_ n5_
              (try clear hb)
              (try clear hb2)
              (try clear hk)
              (try clear hi)
              refine hK.out _ _ ⟨(blk_cell BK350.out 0).trans rfl, (blk_cell BK350.out 1).trans rfl, HS2_⟩ (fun hHeld => ?_)
              clear hK K
              refine norm_ (a' := ?_) ?_ ?_
              rotate_left
              · show Act.put _ (some 46) _ = _
                simp only [Act.put, List.setIfInBounds_toArray, List.set_cons_zero, List.set_cons_succ, i64_w, i32_w]
                rfl
              refine one_ (i := 10) (N := some 49) #[true, true, true, true, true, true, true, true, true, true, true, false, false] rfl rfl (one_of HT_.out (by kernel_rfl)) (by decide) (fun K hK => ?_)
              refine goes_ Try.func25 (by kernel_rfl) rfl #[.agg #[.int .i64 t346, .slice Ao15 t347.length co15], .slice Ao18 t351.length co18, .int .i64 0] (by rfl) rfl rfl (by (try simp only [List.map_toArray, List.map_cons, List.map_nil]); first | done | rfl | (simp only [List.length_drop, List.length_take]; rfl)) ?_
              with_reducible refine (graph_Value.calls kj6 t346 _ _ t347 _ _ t351 0 t360 _ ?side1 ?side2 ?side3 ?side4 A37.out).mono ?_
              (case side1 => repeat (first | exact (Kd.R_reads' HO_351001.out).2.2 | (with_reducible refine Kd.C_alloc ?_ _) | (with_reducible refine Kd.C_drewN ?_ _) | (with_reducible refine Kd.C_drew ?_)))
              (case side2 => exact (Kd.R_reads' HO_351001.out).2.1)
              (case side3 => repeat (first | exact (Kd.R_reads' HO_7.out).2.2 | (with_reducible refine Kd.C_alloc ?_ _) | (with_reducible refine Kd.C_drewN ?_ _) | (with_reducible refine Kd.C_drew ?_)))
              (case side4 => exact (Kd.R_reads' HO_7.out).2.1)
              rintro e w41 ⟨rfl, hb⟩
              have HS2_ := (hb.cell (World.block_lt_of_cell? _ _ (hHeld.2.2))).trans (hHeld.2.2)
              refine ⟨_, rfl, ?_⟩
              have n0_ := Aside0.mk (Kd.R_below (by (with_reducible repeat (first | apply Kd.R_alloc | apply Kd.R_drewN | apply Kd.R_drew)); exact HO_7.out) hb)
              have n1_ := Aside0.mk (Kd.R_below (by (with_reducible repeat (first | apply Kd.R_alloc | apply Kd.R_drewN | apply Kd.R_drew)); exact HO_8.out) hb)
              have n2_ := Aside0.mk (Kd.R_below (by (with_reducible repeat (first | apply Kd.R_alloc | apply Kd.R_drewN | apply Kd.R_drew)); exact HO_351001.out) hb)
              have n3_ := Aside0.mk (blk_below (g := gb344) (o := .cells #[.int .i64 a0_0, .slice A0_1 l0_1.length c0_1] 24 (0, 0)) (by (with_reducible repeat (first | refine blk_drewN ?_ _ | refine blk_drew ?_ | refine blk_alloc ?_ _)); exact BK344.out) hb)
              have n4_ := Aside0.mk (blk_below (g := gb350) (o := .cells #[.int .i64 t346, .slice Ao15 t347.length co15] 24 (0, 0)) (by (with_reducible repeat (first | refine blk_drewN ?_ _ | refine blk_drew ?_ | refine blk_alloc ?_ _)); exact BK350.out) hb)
              have n5_ := Aside0.mk (below_step (by repeat (first | (with_reducible first | exact HB.out | apply below_alloc | apply pw_below_drewN | apply below_drew1 | refine below_set ?_ GE344.out | refine below_set ?_ GE350.out) | exact HB.out)) hb)
              clear HO_7
              clear HO_8
              clear HO_351001
              clear BK344
              clear BK350
              clear HB
              have HO_7 := n0_
              have HO_8 := n1_
              have HO_351001 := n2_
              have BK344 := n3_
              have BK350 := n4_
              have HB := n5_
              clear n0_ n1_ n2_ n3_ n4_ n5_
              (try clear hb)
              (try clear hb2)
              (try clear hk)
              (try clear hi)
              refine hK.out _ _ ⟨(blk_cell BK350.out 0).trans rfl, (blk_cell BK350.out 1).trans rfl, HS2_⟩ (fun hHeld => ?_)
              clear hK K
              refine norm_ (a' := ?_) ?_ ?_
              rotate_left
              · show Act.put _ (some 49) _ = _
                simp only [Act.put, List.setIfInBounds_toArray, List.set_cons_zero, List.set_cons_succ, i64_w, i32_w]
                rfl
              refine pure_ (i := 11) (N := some 50) (v := ?_) (a' := ?_) #[true, true, true, true, true, true, true, true, true, true, true, true, false] rfl rfl (any_of HT_.out (by kernel_rfl)) (fun _ _ _ h => h) (Or.inl ⟨by rfl, ?_⟩) ?_ ?_
              rotate_left
              · intro w'
                go_simp
                with_reducible rfl
              rotate_left
              · simp only [Act.put, List.setIfInBounds_toArray, List.set_cons_zero, List.set_cons_succ, i64_w, i32_w]
                rfl
              refine pure_ (i := 12) (N := some 51) (v := ?_) (a' := ?_) #[true, true, true, true, true, true, true, true, true, true, true, true, true] rfl rfl (any_of HT_.out (by kernel_rfl)) (fun _ _ _ h => h) (Or.inl ⟨by rfl, ?_⟩) ?_ ?_
              rotate_left
              · intro w'
                go_simp
                with_reducible rfl
              rotate_left
              · simp only [Act.put, List.setIfInBounds_toArray, List.set_cons_zero, List.set_cons_succ, i64_w, i32_w]
                rfl
              refine done_ (done_of HT_.out (by kernel_rfl)) ?_
              try go_wp2
              go_meet
              case rel => exact ⟨_, ((t359 != t360)), (by first | rfl | (simp; done) | (simp [*]; done)), H', ⟨by have := HJ6.out; first | omega | exact Nat.le_refl _⟩, ⟨by (with_reducible repeat (first | apply Kd.R_alloc | apply Kd.R_drewN | apply Kd.R_drew)); exact HO_7.out⟩, ⟨by (with_reducible repeat (first | apply Kd.R_alloc | apply Kd.R_drewN | apply Kd.R_drew)); exact HO_8.out⟩, ⟨by (with_reducible repeat (first | apply Kd.R_alloc | apply Kd.R_drewN | apply Kd.R_drew)); exact HO_351001.out⟩, ⟨by (with_reducible repeat (first | refine blk_drewN ?_ _ | refine blk_drew ?_ | refine blk_alloc ?_ _)); exact BK344.out⟩, ⟨by (with_reducible repeat (first | refine blk_drewN ?_ _ | refine blk_drew ?_ | refine blk_alloc ?_ _)); exact BK350.out⟩, ⟨by repeat (first | (with_reducible first | exact HB.out | apply below_alloc | apply pw_below_drewN | apply below_drew1 | refine below_set ?_ GE344.out | refine below_set ?_ GE350.out) | exact HB.out)⟩⟩
          · rw [if_neg c31] at H
            exact absurd H (by simp)
        case rest =>
          clear HC30
          try clear c1
          try clear c2
          try clear p2
          try clear c3
          try clear p3
          try clear q3
          try clear hx3
          try clear qi3
          try clear c6
          try clear c13
          try clear c18
          try clear c20
          try clear c21
          try clear c21b0
          try clear c21b1
          try clear c22
          try clear c22b0
          try clear c22b1
          try clear c24
          try clear c25
          try clear c27
          try clear c28
          try clear c29
          try clear c30
          try clear c31
          try clear c31b0
          try clear c31b1
          try clear q32
          try clear c33
          try clear p35
          try clear q35
          try clear hx35
          try clear qi35
          try clear hcz10_0
          try clear hcz10_1
          try clear hcz14_0
          try clear hcz14_1
          try clear hcz17_0
          try clear hcz17_1
          try clear hcz25_0
          try clear hcz25_1
          try clear hcz28_0
          try clear hcz28_1
          try clear hfz10_0
          try clear hfz10_1
          try clear hfz14_0
          try clear hfz14_1
          try clear hfz17_0
          try clear hfz17_1
          try clear hfz25_0
          try clear hfz25_1
          try clear hfz28_0
          try clear hfz28_1
          try clear hx357_0
          try clear hx358_0
          try clear p2
          try clear p3
          try clear p357
          try clear p358
          try clear q3
          try clear q357
          try clear q358
          obtain ⟨kq, x51_29, rfl, HA, HJ29, HO_7, HO_8, HO_351001, BK344, BK350, HB⟩ := hcut
          cases kq with
          | zero => exact absurd HA.out (by simp [billetlaw05_GraphEnds.j1])
          | succ kj29 =>
            have H := HA.out
            clear HA
            simp only [billetlaw05_GraphEnds.j1] at H
            by_cases c42 : x51_29 = true
            · subst c42
              have H1 : (some false) = some r := by rw [if_pos rfl] at H; exact H
              clear H
              have H := H1
              clear H1
              exact absurd (H.trans (congrArg some HTr_.out)) (by simp)
            · replace c42 := Bool.eq_false_iff.mpr c42
              subst c42
              clear H
              go_wp2
              obtain ⟨A8, c8, e8⟩ := Kd.R_slice HO_8.out
              subst e8
              have HK := HE_.out
              obtain ⟨n0, n1, hll, hFl, hSl, hEnds, hOut, hIn, hFrm⟩ := HK
              have HEnds := Lib.hid hEnds
              have HOut := Lib.hid hOut
              have HIn := Lib.hid hIn
              have HFrm := Lib.hid hFrm
              have HW : Hid (Ew w t346 t347 t351 t354 gb350 Ao15 co15 Ao18 A8 wc) := Lib.hid ⟨HB.out, BK350.out, (Kd.R_reads' HO_351001.out).2.2, (Kd.R_reads' HO_7.out).2.2, (Kd.R_reads' HO_8.out).2.2⟩
              have HFl := Lib.hid hFl
              have HSl := Lib.hid hSl
              clear hFl hSl hEnds hOut hIn hFrm HE_ HO_8 HO_7 HO_351001 BK350 BK344 HB
              go_loopw [9] (fun v9 wr => ∃ i : Nat, i ≤ t347.length ∧ v9 = .int .i64 i ∧ Hid (Ew w t346 t347 t351 t354 gb350 Ao15 co15 Ao18 A8 wr)) (fun v9 _ => t347.length - (intOf v9).toNat)
              case atStart => exact ⟨0, Nat.zero_le _, rfl, HW⟩
              case round =>
                clear HW
                obtain ⟨i, hi, rfl, HW⟩ := hrel
                obtain ⟨x0, x1⟩ := HW.out.cells
                by_cases hil : i < t347.length
                · obtain ⟨ad, rfl, hx0, hx1, hx2⟩ := at_T41 HW.out.hl (i : Int) (by omega) (by omega)
                  obtain ⟨ad1, rfl, hy⟩ := Kd.at_int HW.out.hf (i : Int) (by omega) (by have := HFl.out; have := HSl.out; omega)
                  rw [Int.toNat_natCast] at hx0 hx1 hx2 hy
                  have hEi := HEnds.out i hil
                  have hOi := HOut.out i hil
                  have hIi := HIn.out i hil
                  obtain ⟨ad2, e2, hz0⟩ := Kd.at_bool HW.out.hs (rd_T41 t347 i).f0 hEi.1.1 (by have := HFl.out; have := HSl.out; omega)
                  subst e2
                  obtain ⟨ad3, e3, hz1⟩ := Kd.at_bool HW.out.hs (rd_T41 t347 i).f1 hEi.2.1.1 (by have := HFl.out; have := HSl.out; omega)
                  obtain rfl : ad2 = ad3 := by injection e3
                  obtain ⟨f, Hf⟩ : ∃ f, Hid ((rd_T41 t347 i).f0 = f) := ⟨_, rfl⟩
                  obtain ⟨t, Ht⟩ : ∃ t, Hid ((rd_T41 t347 i).f1 = t) := ⟨_, rfl⟩
                  obtain ⟨cp, Hc⟩ : ∃ cp, Hid ((rd_T41 t347 i).f2 = cp) := ⟨_, rfl⟩
                  obtain ⟨x, Hx⟩ : ∃ x, Hid (rd t351 i = x) := ⟨_, rfl⟩
                  rw [Hf.out] at hx0 hz0
                  rw [Ht.out] at hx1 hz1
                  rw [Hc.out] at hx2
                  rw [Hx.out] at hy
                  obtain ⟨b1, Hb1⟩ : ∃ b, Hid (rdOf false t354 f = b) := ⟨_, rfl⟩
                  obtain ⟨b2, Hb2⟩ : ∃ b, Hid (rdOf false t354 t = b) := ⟨_, rfl⟩
                  rw [Hb1.out] at hz0
                  rw [Hb2.out] at hz1
                  rw [Hf.out, Ht.out] at hEi
                  obtain ⟨⟨hf0, hf1⟩, ⟨ht0, ht1⟩, hft⟩ := hEi
                  have hfl : f < (t354.length : Int) := by have := HSl.out; omega
                  have htl : t < (t354.length : Int) := by have := HSl.out; omega
                  have hxl : (i : Int) < (t351.length : Int) := by have := HFl.out; omega
                  rw [Hf.out, Ht.out, Hc.out, Hx.out, Hb1.out, Hb2.out] at hOi
                  rw [Hf.out, Ht.out, Hx.out, Hb1.out, Hb2.out] at hIi
                  clear hf1 ht1
                  have hf0' : (wr.alloc (.cells #[.int .i64 f, .int .i64 t, .int .i64 cp] 41)).cell? ⟨wr.heap.size, 0, none⟩ = some (.int .i64 f) := (World.cell?_alloc_at _ _ _ 0 rfl).trans rfl
                  have hf1' : (wr.alloc (.cells #[.int .i64 f, .int .i64 t, .int .i64 cp] 41)).cell? ⟨wr.heap.size, 1, none⟩ = some (.int .i64 t) := (World.cell?_alloc_at _ _ _ 1 rfl).trans rfl
                  have hf2' : (wr.alloc (.cells #[.int .i64 f, .int .i64 t, .int .i64 cp] 41)).cell? ⟨wr.heap.size, 2, none⟩ = some (.int .i64 cp) := (World.cell?_alloc_at _ _ _ 2 rfl).trans rfl
                  have hbb := (Below.refl wr.heap.size wr).alloc (Nat.le_refl _) (.cells #[.int .i64 f, .int .i64 t, .int .i64 cp] 41)
                  have hy' := (hbb.cell (World.block_lt_of_cell? wr _ hy)).trans hy
                  have hz0' := (hbb.cell (World.block_lt_of_cell? wr _ hz0)).trans hz0
                  have hz1' := (hbb.cell (World.block_lt_of_cell? wr _ hz1)).trans hz1
                  have HW2 := Lib.hid (HW.out.alloc (.cells #[.int .i64 f, .int .i64 t, .int .i64 cp] 41))
                  go_wp2_with fail
                  clear hx0 hx1 hx2 hy hz0 hz1 hbb x0 x1 HW
                  generalize wr.alloc (.cells #[.int .i64 f, .int .i64 t, .int .i64 cp] 41) = w2 at HW2 hf0' hf1' hf2' hy' hz0' hz1' ⊢
                  generalize wr.heap.size = b3 at hf0' hf1' hf2' ⊢
                  cases b1 <;> cases b2
                  · clear hOi hIi
                    as_aux_lemma =>
                      go_quiet (fail)
                      go_wp2_with fail
                      go_roundw
                      case rel => exact ⟨i + 1, by omega, by go_num, Lib.hid (HW2.out.drewN nq)⟩
                      case measure => change t347.length - ((i : Int) + 1).toNat < t347.length - ((i : Int)).toNat; omega
                  · have hxx : decide (0 < x) = false := decide_eq_false (fun h => hIi ⟨rfl, rfl, h⟩)
                    clear hOi hIi
                    as_aux_lemma =>
                      go_quiet (fail)
                      go_wp2_with fail
                      go_roundw
                      case rel => exact ⟨i + 1, by omega, by go_num, Lib.hid (HW2.out.drewN nq)⟩
                      case measure => change t347.length - ((i : Int) + 1).toNat < t347.length - ((i : Int)).toNat; omega
                  · have hxx : decide (x < cp) = false := decide_eq_false (fun h => hOi ⟨rfl, rfl, h⟩)
                    clear hOi hIi
                    as_aux_lemma =>
                      go_quiet (fail)
                      go_wp2_with fail
                      go_roundw
                      case rel => exact ⟨i + 1, by omega, by go_num, Lib.hid (HW2.out.drewN nq)⟩
                      case measure => change t347.length - ((i : Int) + 1).toNat < t347.length - ((i : Int)).toNat; omega
                  · clear hOi hIi
                    as_aux_lemma =>
                      go_quiet (fail)
                      go_wp2_with fail
                      go_roundw
                      case rel => exact ⟨i + 1, by omega, by go_num, Lib.hid (HW2.out.drewN nq)⟩
                      case measure => change t347.length - ((i : Int) + 1).toNat < t347.length - ((i : Int)).toNat; omega
                · clear x0
                  go_wp2_with fail
                  clear x1
                  go_loopw [11] (fun v11 wr => ∃ v : Nat, 1 ≤ v ∧ (v : Int) ≤ t346 ∧ v11 = .int .i64 v ∧ Hid (Ew w t346 t347 t351 t354 gb350 Ao15 co15 Ao18 A8 wr)) (fun v11 _ => 64 - (intOf v11).toNat)
                  case atStart => exact ⟨1, Nat.le_refl _, by omega, rfl, HW⟩
                  case round =>
                    clear HW hil
                    obtain ⟨v, hv1, hv2, rfl, HW⟩ := hrel
                    obtain ⟨x0, x1⟩ := HW.out.cells
                    by_cases hvN : (v : Int) < t346
                    · obtain ⟨ad2, e2, hz⟩ := Kd.at_bool HW.out.hs (v : Int) (by omega) (by have := HFl.out; have := HSl.out; omega)
                      subst e2
                      rw [Int.toNat_natCast] at hz
                      have hvl : v < t354.length := by have := HSl.out; omega
                      have HFv := Lib.hid (HFrm.out v hv1 hvN)
                      go_wp2_with fail
                      clear hz x0 x1
                      go_loopw [12, 13] (fun v12 v13 wr => ∃ (i : Nat) (fr : Bool), i ≤ t347.length ∧ v13 = .int .i64 i ∧ v12 = .bool fr ∧ Hid (frB t354 t351 t347 v i = fr) ∧ Hid (Ew w t346 t347 t351 t354 gb350 Ao15 co15 Ao18 (some ad2) wr)) (fun _ v13 _ => t347.length - (intOf v13).toNat)
                      case atStart => exact ⟨0, _, Nat.zero_le _, rfl, rfl, Lib.hid rfl, HW⟩
                      case round =>
                        clear HW
                        obtain ⟨i, fr, hi, rfl, rfl, HFr, HW⟩ := hrel
                        obtain ⟨x0, x1⟩ := HW.out.cells
                        by_cases hil : i < t347.length
                        · obtain ⟨ad, rfl, hx0, hx1, hx2⟩ := at_T41 HW.out.hl (i : Int) (by omega) (by omega)
                          obtain ⟨ad1, rfl, hy⟩ := Kd.at_int HW.out.hf (i : Int) (by omega) (by have := HFl.out; have := HSl.out; omega)
                          rw [Int.toNat_natCast] at hx0 hx1 hx2 hy
                          have hEi := HEnds.out i hil
                          obtain ⟨ad4, e4, hz0⟩ := Kd.at_bool HW.out.hs (rd_T41 t347 i).f0 hEi.1.1 (by have := HFl.out; have := HSl.out; omega)
                          obtain rfl : ad2 = ad4 := by injection e4
                          obtain ⟨ad3, e3, hz1⟩ := Kd.at_bool HW.out.hs (rd_T41 t347 i).f1 hEi.2.1.1 (by have := HFl.out; have := HSl.out; omega)
                          obtain rfl : ad2 = ad3 := by injection e3
                          obtain ⟨f, Hf⟩ : ∃ f, Hid ((rd_T41 t347 i).f0 = f) := ⟨_, rfl⟩
                          obtain ⟨t, Ht⟩ : ∃ t, Hid ((rd_T41 t347 i).f1 = t) := ⟨_, rfl⟩
                          obtain ⟨cp, Hc⟩ : ∃ cp, Hid ((rd_T41 t347 i).f2 = cp) := ⟨_, rfl⟩
                          obtain ⟨x, Hx⟩ : ∃ x, Hid (rd t351 i = x) := ⟨_, rfl⟩
                          rw [Hf.out] at hx0 hz0
                          rw [Ht.out] at hx1 hz1
                          rw [Hc.out] at hx2
                          rw [Hx.out] at hy
                          obtain ⟨b1, Hb1⟩ : ∃ b, Hid (rdOf false t354 f = b) := ⟨_, rfl⟩
                          obtain ⟨b2, Hb2⟩ : ∃ b, Hid (rdOf false t354 t = b) := ⟨_, rfl⟩
                          rw [Hb1.out] at hz0
                          rw [Hb2.out] at hz1
                          rw [Hf.out, Ht.out] at hEi
                          obtain ⟨⟨hf0, hf1⟩, ⟨ht0, ht1⟩, hft⟩ := hEi
                          have hfl : f < (t354.length : Int) := by have := HSl.out; omega
                          have htl : t < (t354.length : Int) := by have := HSl.out; omega
                          have hxl : (i : Int) < (t351.length : Int) := by have := HFl.out; omega
                          have HpB := Lib.hid (show pB t354 t351 t347 v i = ((t == (v : Int) && b1 && decide (x < cp)) || (f == (v : Int) && b2 && decide (0 < x))) from by unfold pB; rw [Hf.out, Ht.out, Hc.out, Hx.out, Hb1.out, Hb2.out])
                          clear hf1 ht1
                          have hf0' : (wr.alloc (.cells #[.int .i64 f, .int .i64 t, .int .i64 cp] 41)).cell? ⟨wr.heap.size, 0, none⟩ = some (.int .i64 f) := (World.cell?_alloc_at _ _ _ 0 rfl).trans rfl
                          have hf1' : (wr.alloc (.cells #[.int .i64 f, .int .i64 t, .int .i64 cp] 41)).cell? ⟨wr.heap.size, 1, none⟩ = some (.int .i64 t) := (World.cell?_alloc_at _ _ _ 1 rfl).trans rfl
                          have hf2' : (wr.alloc (.cells #[.int .i64 f, .int .i64 t, .int .i64 cp] 41)).cell? ⟨wr.heap.size, 2, none⟩ = some (.int .i64 cp) := (World.cell?_alloc_at _ _ _ 2 rfl).trans rfl
                          have hbb := (Below.refl wr.heap.size wr).alloc (Nat.le_refl _) (.cells #[.int .i64 f, .int .i64 t, .int .i64 cp] 41)
                          have hy' := (hbb.cell (World.block_lt_of_cell? wr _ hy)).trans hy
                          have hz0' := (hbb.cell (World.block_lt_of_cell? wr _ hz0)).trans hz0
                          have hz1' := (hbb.cell (World.block_lt_of_cell? wr _ hz1)).trans hz1
                          have HW2 := Lib.hid (HW.out.alloc (.cells #[.int .i64 f, .int .i64 t, .int .i64 cp] 41))
                          go_wp2_with fail
                          clear hx0 hx1 hx2 hy hz0 hz1 hbb x0 x1 HW
                          generalize wr.alloc (.cells #[.int .i64 f, .int .i64 t, .int .i64 cp] 41) = w2 at HW2 hf0' hf1' hf2' hy' hz0' hz1' ⊢
                          generalize wr.heap.size = b3 at hf0' hf1' hf2' ⊢
                          cases fr
                          · skip
                            cases hTV : (t == (v : Int))
                            · skip
                              cases hFV : (f == (v : Int))
                              · skip
                                as_aux_lemma =>
                                  go_quiet (fail)
                                  go_wp2_with fail
                                  go_roundw
                                  case rel => exact ⟨i + 1, false, by omega, by go_num, rfl, Lib.hid (by simp only [frB]; rw [HFr.out, HpB.out]; simp [hTV, hFV]), Lib.hid (HW2.out.drewN nq)⟩
                                  case measure => change t347.length - ((i : Int) + 1).toNat < t347.length - ((i : Int)).toNat; omega
                              · cases b2
                                · skip
                                  as_aux_lemma =>
                                    go_quiet (fail)
                                    go_wp2_with fail
                                    go_roundw
                                    case rel => exact ⟨i + 1, false, by omega, by go_num, rfl, Lib.hid (by simp only [frB]; rw [HFr.out, HpB.out]; simp [hTV, hFV]), Lib.hid (HW2.out.drewN nq)⟩
                                    case measure => change t347.length - ((i : Int) + 1).toNat < t347.length - ((i : Int)).toNat; omega
                                · cases hx0 : decide (0 < x)
                                  · skip
                                    as_aux_lemma =>
                                      go_quiet (fail)
                                      go_wp2_with fail
                                      go_roundw
                                      case rel => exact ⟨i + 1, false, by omega, by go_num, rfl, Lib.hid (by simp only [frB]; rw [HFr.out, HpB.out]; simp [hTV, hFV, hx0]), Lib.hid (HW2.out.drewN nq)⟩
                                      case measure => change t347.length - ((i : Int) + 1).toNat < t347.length - ((i : Int)).toNat; omega
                                  · skip
                                    as_aux_lemma =>
                                      go_quiet (fail)
                                      go_wp2_with fail
                                      go_roundw
                                      case rel => exact ⟨i + 1, true, by omega, by go_num, rfl, Lib.hid (by simp only [frB]; rw [HFr.out, HpB.out]; simp [hTV, hFV, hx0]), Lib.hid (HW2.out.drewN nq)⟩
                                      case measure => change t347.length - ((i : Int) + 1).toNat < t347.length - ((i : Int)).toNat; omega
                            · cases b1
                              · skip
                                cases hFV : (f == (v : Int))
                                · skip
                                  as_aux_lemma =>
                                    go_quiet (fail)
                                    go_wp2_with fail
                                    go_roundw
                                    case rel => exact ⟨i + 1, false, by omega, by go_num, rfl, Lib.hid (by simp only [frB]; rw [HFr.out, HpB.out]; simp [hTV, hFV]), Lib.hid (HW2.out.drewN nq)⟩
                                    case measure => change t347.length - ((i : Int) + 1).toNat < t347.length - ((i : Int)).toNat; omega
                                · cases b2
                                  · skip
                                    as_aux_lemma =>
                                      go_quiet (fail)
                                      go_wp2_with fail
                                      go_roundw
                                      case rel => exact ⟨i + 1, false, by omega, by go_num, rfl, Lib.hid (by simp only [frB]; rw [HFr.out, HpB.out]; simp [hTV, hFV]), Lib.hid (HW2.out.drewN nq)⟩
                                      case measure => change t347.length - ((i : Int) + 1).toNat < t347.length - ((i : Int)).toNat; omega
                                  · cases hx0 : decide (0 < x)
                                    · skip
                                      as_aux_lemma =>
                                        go_quiet (fail)
                                        go_wp2_with fail
                                        go_roundw
                                        case rel => exact ⟨i + 1, false, by omega, by go_num, rfl, Lib.hid (by simp only [frB]; rw [HFr.out, HpB.out]; simp [hTV, hFV, hx0]), Lib.hid (HW2.out.drewN nq)⟩
                                        case measure => change t347.length - ((i : Int) + 1).toNat < t347.length - ((i : Int)).toNat; omega
                                    · skip
                                      as_aux_lemma =>
                                        go_quiet (fail)
                                        go_wp2_with fail
                                        go_roundw
                                        case rel => exact ⟨i + 1, true, by omega, by go_num, rfl, Lib.hid (by simp only [frB]; rw [HFr.out, HpB.out]; simp [hTV, hFV, hx0]), Lib.hid (HW2.out.drewN nq)⟩
                                        case measure => change t347.length - ((i : Int) + 1).toNat < t347.length - ((i : Int)).toNat; omega
                              · cases hxc : decide (x < cp)
                                · skip
                                  cases hFV : (f == (v : Int))
                                  · skip
                                    as_aux_lemma =>
                                      go_quiet (fail)
                                      go_wp2_with fail
                                      go_roundw
                                      case rel => exact ⟨i + 1, false, by omega, by go_num, rfl, Lib.hid (by simp only [frB]; rw [HFr.out, HpB.out]; simp [hTV, hxc, hFV]), Lib.hid (HW2.out.drewN nq)⟩
                                      case measure => change t347.length - ((i : Int) + 1).toNat < t347.length - ((i : Int)).toNat; omega
                                  · cases b2
                                    · skip
                                      as_aux_lemma =>
                                        go_quiet (fail)
                                        go_wp2_with fail
                                        go_roundw
                                        case rel => exact ⟨i + 1, false, by omega, by go_num, rfl, Lib.hid (by simp only [frB]; rw [HFr.out, HpB.out]; simp [hTV, hxc, hFV]), Lib.hid (HW2.out.drewN nq)⟩
                                        case measure => change t347.length - ((i : Int) + 1).toNat < t347.length - ((i : Int)).toNat; omega
                                    · cases hx0 : decide (0 < x)
                                      · skip
                                        as_aux_lemma =>
                                          go_quiet (fail)
                                          go_wp2_with fail
                                          go_roundw
                                          case rel => exact ⟨i + 1, false, by omega, by go_num, rfl, Lib.hid (by simp only [frB]; rw [HFr.out, HpB.out]; simp [hTV, hxc, hFV, hx0]), Lib.hid (HW2.out.drewN nq)⟩
                                          case measure => change t347.length - ((i : Int) + 1).toNat < t347.length - ((i : Int)).toNat; omega
                                      · skip
                                        as_aux_lemma =>
                                          go_quiet (fail)
                                          go_wp2_with fail
                                          go_roundw
                                          case rel => exact ⟨i + 1, true, by omega, by go_num, rfl, Lib.hid (by simp only [frB]; rw [HFr.out, HpB.out]; simp [hTV, hxc, hFV, hx0]), Lib.hid (HW2.out.drewN nq)⟩
                                          case measure => change t347.length - ((i : Int) + 1).toNat < t347.length - ((i : Int)).toNat; omega
                                · skip
                                  as_aux_lemma =>
                                    go_quiet (fail)
                                    go_wp2_with fail
                                    go_roundw
                                    case rel => exact ⟨i + 1, true, by omega, by go_num, rfl, Lib.hid (by simp only [frB]; rw [HFr.out, HpB.out]; simp [hTV, hxc]), Lib.hid (HW2.out.drewN nq)⟩
                                    case measure => change t347.length - ((i : Int) + 1).toNat < t347.length - ((i : Int)).toNat; omega
                          · skip
                            as_aux_lemma =>
                              go_quiet (fail)
                              go_wp2_with fail
                              go_roundw
                              case rel => exact ⟨i + 1, true, by omega, by go_num, rfl, Lib.hid (by simp only [frB]; rw [HFr.out, HpB.out]; simp), Lib.hid (HW2.out.drewN nq)⟩
                              case measure => change t347.length - ((i : Int) + 1).toNat < t347.length - ((i : Int)).toNat; omega
                        · obtain rfl : i = t347.length := by omega
                          have hfr : fr = true := HFr.out.symm.trans HFv.out
                          subst hfr
                          go_wp2_with fail
                          go_roundw
                          case rel => exact ⟨v + 1, by omega, by omega, by go_num, HW⟩
                          case measure => change 64 - ((v : Int) + 1).toNat < 64 - ((v : Int)).toNat; omega
                    · go_wp2_with fail
                      go_ret
                      exact ⟨by have h := HTr_.out; subst h; rfl, HW.out.bel⟩


end Go.Proofs.Ytfmfojogcghkkaa.P
