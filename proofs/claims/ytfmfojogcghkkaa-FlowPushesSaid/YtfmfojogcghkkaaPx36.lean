-- Laid by a program of this session (wip/tools/genx.py) out of the kit's print of the translation.
import Derived.Test.YtfmfojogcghkkaaPx0
import Derived.Test.YtfmfojogcghkkaaPx16
import Derived.Test.YtfmfojogcghkkaaPx30
import Derived.Test.YtfmfojogcghkkaaPx31
namespace Go.Proofs.Ytfmfojogcghkkaa.P
open Go.RowKit Go.Proofs.YtfmfojogcghkkaaW.PrintWords Go.Proofs.YtfmfojogcghkkaaW.PrintLast Go.Proofs.YtfmfojogcghkkaaW.PrintMore
attribute [local go_sem] max2_int min2_int max_two min_two max_three min_three max_four min_four   -- for this text's walks alone
set_option linter.unusedVariables false
set_option linter.unusedSimpArgs false

/-! ### billetref06_Push: function 36 -/
mutual
def billetref06_Push.j0 : Nat → List Int → Int → Int → Int → Bool → Int → List (S41) → Option (List Int × Int × Int)
 | 0, _, _, _, _, _, _, _ => none
 | k + 1, x1, x2, x3, x4, x33, x596000, x596001 => if x33 = true then (some (([] : List Int), 0, 50)) else (if ([] : List Int).length + x1.length < 17592186044416 then (billetref06_Push.l0 k x2 x3 x4 (([] : List Int) ++ x1) 0 x596000 x596001) else (none))
def billetref06_Push.l0 : Nat → Int → Int → Int → List Int → Int → Int → List (S41) → Option (List Int × Int × Int)
 | 0, _, _, _, _, _, _, _ => none
 | k + 1, x2, x3, x4, x14, x15, x596000, x596001 => if x15 < x4 then ((billetref06_way.f k x596000 x596001 x14 x2 x3).bind fun bt600 => (if bt600.2 = true then ((billetref06_along.f k x596000 x596001 bt600.1 x2 x3).bind fun bt604 => (billetref06_Push.l1 k x2 x3 x4 x14 x15 bt604.1 bt604.2 (wrap64 (x4 - x15)) 0 x596000 x596001)) else (some (x14, x15, 0)))) else (some (x14, x15, 0))
def billetref06_Push.l1 : Nat → Int → Int → Int → List Int → Int → List Int → List Bool → Int → Int → Int → List (S41) → Option (List Int × Int × Int)
 | 0, _, _, _, _, _, _, _, _, _, _, _ => none
 | k + 1, x2, x3, x4, x14, x15, x18, x19, x20, x21, x596000, x596001 => if x21 < (x18.length : Int) then (if 0 ≤ x21 then (if x21 < (x19.length : Int) then (if rdOf false x19 x21 = true then (if 0 ≤ (rd x18 x21) then (if (rd x18 x21) < (x596001.length : Int) then (if (rd x18 x21) < (x14.length : Int) then (billetref06_Push.l1 k x2 x3 x4 x14 x15 x18 x19 (mn x20 (wrap64 (((rd_T41 x596001 (rd x18 x21)).f2) - (rd x14 (rd x18 x21))))) (wrap64 (x21 + 1)) x596000 x596001) else (none)) else (none)) else (none)) else (if 0 ≤ (rd x18 x21) then (if (rd x18 x21) < (x14.length : Int) then (billetref06_Push.l1 k x2 x3 x4 x14 x15 x18 x19 (mn x20 (rd x14 (rd x18 x21))) (wrap64 (x21 + 1)) x596000 x596001) else (none)) else (none))) else (none)) else (none)) else (billetref06_Push.l2 k x2 x3 x4 x14 x15 x18 x19 x20 0 x596000 x596001)
def billetref06_Push.l2 : Nat → Int → Int → Int → List Int → Int → List Int → List Bool → Int → Int → Int → List (S41) → Option (List Int × Int × Int)
 | 0, _, _, _, _, _, _, _, _, _, _, _ => none
 | k + 1, x2, x3, x4, x14, x15, x18, x19, x20, x22, x596000, x596001 => if x22 < (x18.length : Int) then (if 0 ≤ x22 then (if x22 < (x19.length : Int) then (if rdOf false x19 x22 = true then (if 0 ≤ (rd x18 x22) then (if (rd x18 x22) < (x14.length : Int) then (billetref06_Push.l2 k x2 x3 x4 (x14.set ((rd x18 x22) : Int).toNat (wrap64 ((rd x14 (rd x18 x22)) + x20))) x15 x18 x19 x20 (wrap64 (x22 + 1)) x596000 x596001) else (none)) else (none)) else (if 0 ≤ (rd x18 x22) then (if (rd x18 x22) < (x14.length : Int) then (billetref06_Push.l2 k x2 x3 x4 (x14.set ((rd x18 x22) : Int).toNat (wrap64 ((rd x14 (rd x18 x22)) - x20))) x15 x18 x19 x20 (wrap64 (x22 + 1)) x596000 x596001) else (none)) else (none))) else (none)) else (none)) else (billetref06_Push.l0 k x2 x3 x4 x14 (wrap64 (x15 + x20)) x596000 x596001)
end
def billetref06_Push.f (k : Nat) (a0_0 : Int) (l0_1 : List (S41)) (l1 : List Int) (a2 : Int) (a3 : Int) (a4 : Int) : Option (List Int × Int × Int) := (billetref05_Good.f k a0_0 l0_1 l1 a2 a3).bind fun t596 => (if t596 = true then (billetref06_Push.j0 k l1 a2 a3 a4 (decide (a4 < 0)) a0_0 l0_1) else (billetref06_Push.j0 k l1 a2 a3 a4 true a0_0 l0_1))
theorem billetref06_Push.mono_l : ∀ k, (∀ y0 y1 y2 y3 y4 y5 y6, LeO (billetref06_Push.j0 k y0 y1 y2 y3 y4 y5 y6) (billetref06_Push.j0 (k + 1) y0 y1 y2 y3 y4 y5 y6)) ∧ (∀ y0 y1 y2 y3 y4 y5 y6, LeO (billetref06_Push.l0 k y0 y1 y2 y3 y4 y5 y6) (billetref06_Push.l0 (k + 1) y0 y1 y2 y3 y4 y5 y6)) ∧ (∀ y0 y1 y2 y3 y4 y5 y6 y7 y8 y9 y10, LeO (billetref06_Push.l1 k y0 y1 y2 y3 y4 y5 y6 y7 y8 y9 y10) (billetref06_Push.l1 (k + 1) y0 y1 y2 y3 y4 y5 y6 y7 y8 y9 y10)) ∧ (∀ y0 y1 y2 y3 y4 y5 y6 y7 y8 y9 y10, LeO (billetref06_Push.l2 k y0 y1 y2 y3 y4 y5 y6 y7 y8 y9 y10) (billetref06_Push.l2 (k + 1) y0 y1 y2 y3 y4 y5 y6 y7 y8 y9 y10))
 | 0 => ⟨fun _ _ _ _ _ _ _ r h => by simp [billetref06_Push.j0] at h, fun _ _ _ _ _ _ _ r h => by simp [billetref06_Push.l0] at h, fun _ _ _ _ _ _ _ _ _ _ _ r h => by simp [billetref06_Push.l1] at h, fun _ _ _ _ _ _ _ _ _ _ _ r h => by simp [billetref06_Push.l2] at h⟩
 | k + 1 => by
  obtain ⟨ih0, ih1, ih2, ih3⟩ := billetref06_Push.mono_l k
  refine ⟨?_, ?_, ?_, ?_⟩
  ·intro y0 y1 y2 y3 y4 y5 y6
   unfold billetref06_Push.j0
   repeat' first
   | (with_reducible exact ih0 _ _ _ _ _ _ _)
   | (with_reducible exact ih1 _ _ _ _ _ _ _)
   | (with_reducible exact ih2 _ _ _ _ _ _ _ _ _ _ _)
   | (with_reducible exact ih3 _ _ _ _ _ _ _ _ _ _ _)
   | (with_reducible exact billetref05_Good.mono _ _ _ _ _ _)
   | (with_reducible exact billetref06_along.mono _ _ _ _ _ _)
   | (with_reducible exact billetref06_way.mono _ _ _ _ _ _)
   | (with_reducible exact LeO.refl _)
   | (with_reducible exact LeO.none _)
   | (with_reducible refine LeO.ite ?_ ?_)
   | (with_reducible refine LeO.bind ?_ (fun _ => ?_))
   | exact ih0 _ _ _ _ _ _ _
   | exact ih1 _ _ _ _ _ _ _
   | exact ih2 _ _ _ _ _ _ _ _ _ _ _
   | exact ih3 _ _ _ _ _ _ _ _ _ _ _
   | exact billetref05_Good.mono _ _ _ _ _ _
   | exact billetref06_along.mono _ _ _ _ _ _
   | exact billetref06_way.mono _ _ _ _ _ _
   | exact LeO.none _
   | refine LeO.ite ?_ ?_
   | refine LeO.bind ?_ (fun _ => ?_)
  ·intro y0 y1 y2 y3 y4 y5 y6
   unfold billetref06_Push.l0
   repeat' first
   | (with_reducible exact ih0 _ _ _ _ _ _ _)
   | (with_reducible exact ih1 _ _ _ _ _ _ _)
   | (with_reducible exact ih2 _ _ _ _ _ _ _ _ _ _ _)
   | (with_reducible exact ih3 _ _ _ _ _ _ _ _ _ _ _)
   | (with_reducible exact billetref05_Good.mono _ _ _ _ _ _)
   | (with_reducible exact billetref06_along.mono _ _ _ _ _ _)
   | (with_reducible exact billetref06_way.mono _ _ _ _ _ _)
   | (with_reducible exact LeO.refl _)
   | (with_reducible exact LeO.none _)
   | (with_reducible refine LeO.ite ?_ ?_)
   | (with_reducible refine LeO.bind ?_ (fun _ => ?_))
   | exact ih0 _ _ _ _ _ _ _
   | exact ih1 _ _ _ _ _ _ _
   | exact ih2 _ _ _ _ _ _ _ _ _ _ _
   | exact ih3 _ _ _ _ _ _ _ _ _ _ _
   | exact billetref05_Good.mono _ _ _ _ _ _
   | exact billetref06_along.mono _ _ _ _ _ _
   | exact billetref06_way.mono _ _ _ _ _ _
   | exact LeO.none _
   | refine LeO.ite ?_ ?_
   | refine LeO.bind ?_ (fun _ => ?_)
  ·intro y0 y1 y2 y3 y4 y5 y6 y7 y8 y9 y10
   unfold billetref06_Push.l1
   repeat' first
   | (with_reducible exact ih0 _ _ _ _ _ _ _)
   | (with_reducible exact ih1 _ _ _ _ _ _ _)
   | (with_reducible exact ih2 _ _ _ _ _ _ _ _ _ _ _)
   | (with_reducible exact ih3 _ _ _ _ _ _ _ _ _ _ _)
   | (with_reducible exact billetref05_Good.mono _ _ _ _ _ _)
   | (with_reducible exact billetref06_along.mono _ _ _ _ _ _)
   | (with_reducible exact billetref06_way.mono _ _ _ _ _ _)
   | (with_reducible exact LeO.refl _)
   | (with_reducible exact LeO.none _)
   | (with_reducible refine LeO.ite ?_ ?_)
   | (with_reducible refine LeO.bind ?_ (fun _ => ?_))
   | exact ih0 _ _ _ _ _ _ _
   | exact ih1 _ _ _ _ _ _ _
   | exact ih2 _ _ _ _ _ _ _ _ _ _ _
   | exact ih3 _ _ _ _ _ _ _ _ _ _ _
   | exact billetref05_Good.mono _ _ _ _ _ _
   | exact billetref06_along.mono _ _ _ _ _ _
   | exact billetref06_way.mono _ _ _ _ _ _
   | exact LeO.none _
   | refine LeO.ite ?_ ?_
   | refine LeO.bind ?_ (fun _ => ?_)
  ·intro y0 y1 y2 y3 y4 y5 y6 y7 y8 y9 y10
   unfold billetref06_Push.l2
   repeat' first
   | (with_reducible exact ih0 _ _ _ _ _ _ _)
   | (with_reducible exact ih1 _ _ _ _ _ _ _)
   | (with_reducible exact ih2 _ _ _ _ _ _ _ _ _ _ _)
   | (with_reducible exact ih3 _ _ _ _ _ _ _ _ _ _ _)
   | (with_reducible exact billetref05_Good.mono _ _ _ _ _ _)
   | (with_reducible exact billetref06_along.mono _ _ _ _ _ _)
   | (with_reducible exact billetref06_way.mono _ _ _ _ _ _)
   | (with_reducible exact LeO.refl _)
   | (with_reducible exact LeO.none _)
   | (with_reducible refine LeO.ite ?_ ?_)
   | (with_reducible refine LeO.bind ?_ (fun _ => ?_))
   | exact ih0 _ _ _ _ _ _ _
   | exact ih1 _ _ _ _ _ _ _
   | exact ih2 _ _ _ _ _ _ _ _ _ _ _
   | exact ih3 _ _ _ _ _ _ _ _ _ _ _
   | exact billetref05_Good.mono _ _ _ _ _ _
   | exact billetref06_along.mono _ _ _ _ _ _
   | exact billetref06_way.mono _ _ _ _ _ _
   | exact LeO.none _
   | refine LeO.ite ?_ ?_
   | refine LeO.bind ?_ (fun _ => ?_)
theorem billetref06_Push.mono : ∀ a0 a1 a2 a3 a4 a5 k, LeO (billetref06_Push.f k a0 a1 a2 a3 a4 a5) (billetref06_Push.f (k + 1) a0 a1 a2 a3 a4 a5) := by
 intro a0 a1 a2 a3 a4 a5 k
 obtain ⟨ih0, ih1, ih2, ih3⟩ := billetref06_Push.mono_l k
 unfold billetref06_Push.f
 repeat' first
   | (with_reducible exact ih0 _ _ _ _ _ _ _)
   | (with_reducible exact ih1 _ _ _ _ _ _ _)
   | (with_reducible exact ih2 _ _ _ _ _ _ _ _ _ _ _)
   | (with_reducible exact ih3 _ _ _ _ _ _ _ _ _ _ _)
   | (with_reducible exact billetref05_Good.mono _ _ _ _ _ _)
   | (with_reducible exact billetref06_along.mono _ _ _ _ _ _)
   | (with_reducible exact billetref06_way.mono _ _ _ _ _ _)
   | (with_reducible exact LeO.refl _)
   | (with_reducible exact LeO.none _)
   | (with_reducible refine LeO.ite ?_ ?_)
   | (with_reducible refine LeO.bind ?_ (fun _ => ?_))
   | exact ih0 _ _ _ _ _ _ _
   | exact ih1 _ _ _ _ _ _ _
   | exact ih2 _ _ _ _ _ _ _ _ _ _ _
   | exact ih3 _ _ _ _ _ _ _ _ _ _ _
   | exact billetref05_Good.mono _ _ _ _ _ _
   | exact billetref06_along.mono _ _ _ _ _ _
   | exact billetref06_way.mono _ _ _ _ _ _
   | exact LeO.none _
   | refine LeO.ite ?_ ?_
   | refine LeO.bind ?_ (fun _ => ?_)
def billetref06_Push.T16 : Bool × List (List Nat × List Nat) := (true, [([], []), ([], []), ([1], [1]), ([], []), ([], []), ([3, 4], [3, 4]), ([5], [5]), ([2, 6], [2, 6]), ([7], [7]), ([8], [8]), ([], []), ([], []), ([], []), ([11, 12], [11, 12]), ([13], [13]), ([10, 14], [10, 14]), ([15], [15]), ([9, 16], [9, 16]), ([0, 17], [0, 17]), ([18, 0, 1, 2, 3, 4, 5, 6, 7, 8, 9, 10, 11, 12, 13, 14, 15, 16, 17, 18], [0, 18])])
def billetref06_Push.B16 : List Nat := [0, 0, 2, 0, 0, 24, 56, 126, 254, 510, 0, 0, 0, 6144, 14336, 31744, 64512, 131070, 262143, 524287]
theorem billetref06_Push.tab16 : rtab .any (opsOf Try.f36 16) = billetref06_Push.T16 := by kernel_rfl
theorem billetref06_Push.bits16 : waitsOk billetref06_Push.T16.2 billetref06_Push.B16 = true := by kernel_rfl
def billetref06_Push.T22 : Bool × List (List Nat × List Nat) := (true, [([], []), ([], []), ([], []), ([1, 2], [1, 2]), ([3], [3]), ([], []), ([], []), ([], []), ([6, 7], [6, 7]), ([8], [8]), ([5, 9], [5, 9]), ([10], [10]), ([], []), ([11, 12], [11, 12]), ([0, 4, 0, 1, 2, 3, 4, 5, 6, 7, 8, 9, 10, 11, 12, 13], [0, 4]), ([14, 13, 0, 1, 2, 3, 4, 5, 6, 7, 8, 9, 10, 11, 12, 13], [13, 14])])
def billetref06_Push.B22 : List Nat := [0, 0, 0, 6, 14, 0, 0, 0, 192, 448, 992, 2016, 0, 8160, 16383, 32767]
theorem billetref06_Push.tab22 : rtab .any (opsOf Try.f36 22) = billetref06_Push.T22 := by kernel_rfl
theorem billetref06_Push.bits22 : waitsOk billetref06_Push.T22.2 billetref06_Push.B22 = true := by kernel_rfl
def billetref06_Push.T23 : Bool × List (List Nat × List Nat) := (true, [([], []), ([], []), ([], []), ([1, 2], [1, 2]), ([3], [3]), ([], []), ([], []), ([], []), ([6, 7], [6, 7]), ([8], [8]), ([5, 9], [5, 9]), ([10], [10]), ([], []), ([11, 12], [11, 12]), ([0, 4, 0, 1, 2, 3, 4, 5, 6, 7, 8, 9, 10, 11, 12, 13], [0, 4]), ([14, 13, 0, 1, 2, 3, 4, 5, 6, 7, 8, 9, 10, 11, 12, 13], [13, 14])])
def billetref06_Push.B23 : List Nat := [0, 0, 0, 6, 14, 0, 0, 0, 192, 448, 992, 2016, 0, 8160, 16383, 32767]
theorem billetref06_Push.tab23 : rtab .any (opsOf Try.f36 23) = billetref06_Push.T23 := by kernel_rfl
theorem billetref06_Push.bits23 : waitsOk billetref06_Push.T23.2 billetref06_Push.B23 = true := by kernel_rfl
set_option maxHeartbeats 8000000 in
set_option maxRecDepth 100000 in
theorem billetref06_Push.calls (k : Nat) (a0_0 : Int) (A0_1 : Option Addr) (c0_1 : Nat) (l0_1 : List (S41)) (A1 : Option Addr) (c1 : Nat) (l1 : List Int) (a2 : Int) (a3 : Int) (a4 : Int) (r1 : List Int) (r2 : Int) (r3 : Int) (w : World) (hr0_1 : Kd.C k41 w A0_1 l0_1.length l0_1) (hc0_1 : l0_1.length ≤ c0_1) (hr1 : Kd.C (Kd.int .i64) w A1 l1.length l1) (hc1 : l1.length ≤ c1) (h : billetref06_Push.f k a0_0 l0_1 l1 a2 a3 a4 = some (r1, r2, r3)) :
  Calls Try.prog 36 #[.agg #[.int .i64 a0_0, .slice A0_1 l0_1.length c0_1], .slice A1 l1.length c1, .int .i64 a2, .int .i64 a3, .int .i64 a4] w fun e w' => ∃ v0_ : Value, e = .returned (.tuple #[v0_, .int .i64 r2, .int .i64 r3]) ∧ Kd.R (Kd.int .i64) 3 w' w.heap.size (fun _ => True) v0_ r1 ∧ Below w.heap.size w w' := by
 have hu24 := Try.underlying24
 have HR0_1 := Aside0.mk hr0_1
 have HC0_1 := Aside0.mk hc0_1
 clear hr0_1 hc0_1
 have HR1 := Aside0.mk hr1
 have HC1 := Aside0.mk hc1
 clear hr1 hc1
 have HB := Aside0.mk (Below.refl w.heap.size w)
 have H : ((billetref05_Good.f k a0_0 l0_1 l1 a2 a3).bind fun t596 => (if t596 = true then (billetref06_Push.j0 k l1 a2 a3 a4 (decide (a4 < 0)) a0_0 l0_1) else (billetref06_Push.j0 k l1 a2 a3 a4 true a0_0 l0_1))) = some (r1, r2, r3) := h
 clear h
 replace H := Option.bind_eq_some_iff.mp H
 obtain ⟨t596, A60, H⟩ := H
 replace H : (if t596 = true then (billetref06_Push.j0 k l1 a2 a3 a4 (decide (a4 < 0)) a0_0 l0_1) else (billetref06_Push.j0 k l1 a2 a3 a4 true a0_0 l0_1)) = some (r1, r2, r3) := H
 have A6 := Aside0.mk A60
 clear A60
 have HC7 := Aside0.mk H
 clear H
 go_enter Try.func36, Try.ntmps36
 go_upto_region 2 with (first | ((with_reducible refine gate_dst (N := 5) rfl ?_); refine box_event ?hg (N := 5) ?hd (cs := #[.int .i64 a0_0, .slice A0_1 l0_1.length c0_1]) (t := 24) ?hr ?_; (case hd => rfl); (case hg => rfl); (case hr => first | (go_simp; done) | (go_simp; rfl)); intro gb595 hg w8 hbox hb; have n0_ := Aside0.mk (below_step (by repeat (first | (with_reducible first | exact HB.out | apply below_alloc | apply pw_below_drewN | apply below_drew1) | exact HB.out)) hb); have n1_ := Aside0.mk (hbox); have n2_ := Aside0.mk ((by rw [hg]; exact (below_size (by repeat (first | (with_reducible first | exact HB.out | apply below_alloc | apply pw_below_drewN | apply below_drew1) | exact HB.out))) : w.heap.size ≤ gb595)); have n3_ := Aside0.mk ((by rw [hg]; exact (below_size (by repeat (first | (with_reducible first | exact HB.out | apply below_alloc | apply pw_below_drewN | apply below_drew1) | exact HB.out))) : w.heap.size ≤ gb595)); clear HB; have HB := n0_; have BK595 := n1_; have GW595 := n2_; have GE595 := n3_; clear n0_ n1_ n2_ n3_; clear hb hbox hg; have hcz9_0 : w8.cell? ⟨gb595, 0, none⟩ = some (.int .i64 a0_0) := (blk_cell BK595.out 0).trans rfl; have hcz9_1 : w8.cell? ⟨gb595, 1, none⟩ = some (.slice A0_1 l0_1.length c0_1) := (blk_cell BK595.out 1).trans rfl; have hfz9_0 := blk_frozen BK595.out 0; have hfz9_1 := blk_frozen BK595.out 1) | ((with_reducible refine gate_callee (f := 24) rfl ?_); refine goesL_ (some 27) rfl rfl Try.func24 (by kernel_rfl) rfl #[.agg #[.int .i64 a0_0, .slice A0_1 l0_1.length c0_1], .slice A1 l1.length c1, .int .i64 a2, .int .i64 a3] rfl (by (try simp only [List.map_toArray, List.map_cons, List.map_nil]); first | done | rfl | (simp only [List.length_drop, List.length_take]; rfl)) ?_; (with_reducible refine (billetref05_Good.calls k a0_0 _ _ l0_1 _ _ l1 a2 a3 t596 _ ?side1 ?side2 ?side3 ?side4 A6.out).mono ?_); (case side1 => repeat (first | exact (Kd.C_below HR0_1.out HB.out) | (with_reducible refine Kd.C_alloc ?_ _) | (with_reducible refine Kd.C_drewN ?_ _) | (with_reducible refine Kd.C_drew ?_))); (case side2 => exact HC0_1.out); (case side3 => repeat (first | exact (Kd.C_below HR1.out HB.out) | (with_reducible refine Kd.C_alloc ?_ _) | (with_reducible refine Kd.C_drewN ?_ _) | (with_reducible refine Kd.C_drew ?_))); (case side4 => exact HC1.out); rintro e w10 ⟨rfl, hb⟩; refine ⟨_, rfl, ?_⟩; have n0_ := Aside0.mk (blk_below (g := gb595) (o := .cells #[.int .i64 a0_0, .slice A0_1 l0_1.length c0_1] 24 (0, 0)) (by (with_reducible repeat (first | refine blk_drewN ?_ _ | refine blk_drew ?_ | refine blk_alloc ?_ _)); exact BK595.out) hb); have n1_ := Aside0.mk (below_step (by repeat (first | (with_reducible first | exact HB.out | apply below_alloc | apply pw_below_drewN | apply below_drew1 | refine below_set ?_ GE595.out) | exact HB.out)) hb); clear BK595; clear HB; have BK595 := n0_; have HB := n1_; clear n0_ n1_; (try clear hb); (try clear hb2); (try clear hk); (try clear hi)))
 (try simp only [Act.put, List.setIfInBounds_toArray, List.set_cons_zero, List.set_cons_succ])
 go_cut [33] (fun v33 wc => ∃ (kq : Nat) (x33_6 : Bool), v33 = .bool x33_6 ∧ Aside0 (billetref06_Push.j0 kq l1 a2 a3 a4 x33_6 a0_0 l0_1 = some (r1, r2, r3)) ∧ Aside0 (kq ≤ k) ∧ Aside0 (wc.heap[gb595]? = some (.cells #[.int .i64 a0_0, (.slice A0_1 l0_1.length c0_1)] 24 (0, 0))) ∧ Aside0 (Below w.heap.size w wc))
 case first =>
  have H := HC7.out
  clear HC7
  by_cases c11 : t596 = true
  ·subst c11
   have H1 : (billetref06_Push.j0 k l1 a2 a3 a4 (decide (a4 < 0)) a0_0 l0_1) = some (r1, r2, r3) := by rw [if_pos rfl] at H; exact H
   clear H
   have H := H1
   clear H1
   have H' := Aside0.mk H
   clear H
   go_wp2
   go_meet
   case rel => exact ⟨_, (decide (a4 < 0)), (by first | rfl | (simp; done) | (simp [*]; done)), H', ⟨by first | omega | exact Nat.le_refl _⟩, ⟨by (with_reducible repeat (first | refine blk_drewN ?_ _ | refine blk_drew ?_ | refine blk_alloc ?_ _)); exact BK595.out⟩, ⟨by repeat (first | (with_reducible first | exact HB.out | apply below_alloc | apply pw_below_drewN | apply below_drew1 | refine below_set ?_ GE595.out) | exact HB.out)⟩⟩
  ·replace c11 := Bool.eq_false_iff.mpr c11
   subst c11
   have H1 : (billetref06_Push.j0 k l1 a2 a3 a4 true a0_0 l0_1) = some (r1, r2, r3) := by rw [if_neg (show ¬ (false = true) by decide)] at H; exact H
   clear H
   have H := H1
   clear H1
   have H' := Aside0.mk H
   clear H
   go_wp2
   go_meet
   case rel => exact ⟨_, (true), (by first | rfl | (simp; done) | (simp [*]; done)), H', ⟨by first | omega | exact Nat.le_refl _⟩, ⟨by (with_reducible repeat (first | refine blk_drewN ?_ _ | refine blk_drew ?_ | refine blk_alloc ?_ _)); exact BK595.out⟩, ⟨by repeat (first | (with_reducible first | exact HB.out | apply below_alloc | apply pw_below_drewN | apply below_drew1 | refine below_set ?_ GE595.out) | exact HB.out)⟩⟩
 case rest =>
  clear HC7
  obtain ⟨kq, x33_6, rfl, HA, HJ6, BK595, HB⟩ := hcut
  cases kq with
  | zero => exact absurd HA.out (by simp [billetref06_Push.j0])
  | succ kj6 =>
   have H := HA.out
   clear HA
   simp only [billetref06_Push.j0] at H
   by_cases c12 : x33_6 = true
   ·subst c12
    have H1 : (some (([] : List Int), 0, 50)) = some (r1, r2, r3) := by rw [if_pos rfl] at H; exact H
    clear H
    have H := H1
    clear H1
    simp only [Option.some.injEq, Prod.mk.injEq] at H
    obtain ⟨rfl, rfl, rfl⟩ := H
    go_wp2
    go_ret3
    exact ⟨_, by first | rfl | (simp [errW_none, errW_some] <;> rfl) | (simp [*, errW_none, errW_some] <;> rfl), by first | exact Kd.R_nil _ _ _ _ _ | exact Kd.N_nil _ _ _ _ _ | exact Kd.V_nil _ _ _ _ _ | exact Kd.Q_nil _ _ _ _ _ | exact Kd.S_nil _ _ _ _ _, by repeat (first | (with_reducible first | exact HB.out | apply below_alloc | apply pw_below_drewN | apply below_drew1 | refine below_set ?_ GE595.out) | exact HB.out)⟩
   ·replace c12 := Bool.eq_false_iff.mpr c12
    subst c12
    have H1 : (if ([] : List Int).length + l1.length < 17592186044416 then (billetref06_Push.l0 kj6 a2 a3 a4 (([] : List Int) ++ l1) 0 a0_0 l0_1) else (none)) = some (r1, r2, r3) := by rw [if_neg (show ¬ (false = true) by decide)] at H; exact H
    clear H
    have H := H1
    clear H1
    by_cases c13 : ([] : List Int).length + l1.length < 17592186044416
    ·rw [if_pos c13] at H
     have LMc13 := Aside0.mk c13
     clear c13
     obtain ⟨y597, hy597⟩ : ∃ y_ : List Int, y_ = (([] : List Int) ++ l1) := ⟨_, rfl⟩
     replace H : (billetref06_Push.l0 kj6 a2 a3 a4 y597 0 a0_0 l0_1) = some (r1, r2, r3) := by first | (rw [hy597]; with_reducible exact H) | (have H2_ := (Option.bind_some _ _).symm.trans H; rw [hy597]; with_reducible exact H2_) | (have H2_ := (Option.bind_some _ _).symm.trans H; with_reducible exact H2_) | with_reducible exact H | (rw [hy597]; exact H) | exact H
     have Ny597 := Aside0.mk hy597
     clear hy597
     have H' := Aside0.mk H
     clear H
     go_wp2_with (first | ((with_reducible refine gate_builtin (b := .append) (xs := #[.tmp 34, .tmp 35]) rfl ?_); at_builtin; refine Kd.R_append_rows (Kd.int .i64) (w0 := w) w.heap.size rfl (.tmp 34) (.tmp 35) 25 3 (.int .i64 0) 8 rfl Try.underlying25 info3 rfl (by decide) (by omega) (.slice none 0 0) ([] : List Int) l1 _ _ _ (fun _ => True) (fun _ => False) rfl rfl ?aO ?aR (fun _ _ h => h) (fun _ h => h.elim) ?aF ?aB ?aS ?aL ?_; (case aR => repeat (first | exact (Kd.C_below HR1.out HB.out) | (with_reducible refine Kd.C_alloc ?_ _) | (with_reducible refine Kd.C_drewN ?_ _) | (with_reducible refine Kd.C_drew ?_))); (case aB => exact (by repeat (first | (with_reducible first | exact HB.out | apply below_alloc | apply pw_below_drewN | apply below_drew1 | refine below_set ?_ GE595.out) | exact HB.out))); (case aF => exact (fun _ _ => trivial)); (case aO => exact ((Kd.R_nil _ _ _ _ (fun _ => True)))); (case aS => exact (below_size (by repeat (first | (with_reducible first | exact HB.out | apply below_alloc | apply pw_below_drewN | apply below_drew1 | refine below_set ?_ GE595.out) | exact HB.out)))); (case aL => have := LMc13.out; omega); intro v598 w14 ho hb hg hat; rw [← Ny597.out] at ho; have n0_ := Aside0.mk (blk_grown (g := gb595) (o := .cells #[.int .i64 a0_0, .slice A0_1 l0_1.length c0_1] 24 (0, 0)) (by (with_reducible repeat (first | refine blk_drewN ?_ _ | refine blk_drew ?_ | refine blk_alloc ?_ _)); exact BK595.out) hg (by simp [Value.ownBlock])); have n1_ := Aside0.mk (hb); have n2_ := Aside0.mk (ho); clear BK595; clear HB; have BK595 := n0_; have HB := n1_; have HO599 := n2_; clear n0_ n1_ n2_; clear ho hb hg hat))
     go_loopg [15] kj6 (fun kq v15 w' => ∃ (x14_2 : List Int) (x15_2 : Int), v15 = .int .i64 x15_2 ∧ Aside0 (billetref06_Push.l0 kq a2 a3 a4 x14_2 x15_2 a0_0 l0_1 = some (r1, r2, r3)) ∧ Aside0 (kq ≤ kj6) ∧ Aside0 (Kd.R (Kd.int .i64) 3 w' w.heap.size (fun _ => True) v598 x14_2) ∧ Aside0 (w'.heap[gb595]? = some (.cells #[.int .i64 a0_0, (.slice A0_1 l0_1.length c0_1)] 24 (0, 0))) ∧ Aside0 (Below w.heap.size w w'))
     case atStart => exact ⟨(y597), (0), (by first | rfl | (simp; done) | (simp [*]; done)), H', ⟨Nat.le_refl _⟩, ⟨by (with_reducible repeat (first | apply Kd.R_alloc | apply Kd.R_drewN | apply Kd.R_drew)); exact HO599.out⟩, ⟨by (with_reducible repeat (first | refine blk_drewN ?_ _ | refine blk_drew ?_ | refine blk_alloc ?_ _)); exact BK595.out⟩, ⟨by repeat (first | (with_reducible first | exact HB.out | apply below_alloc | apply pw_below_drewN | apply below_drew1 | refine below_set ?_ GE595.out) | exact HB.out)⟩⟩
     case round =>
      clear H'
      obtain ⟨x14_2, x15_2, rfl, HA, HK2, HO_14, BK595, HB⟩ := hrel
      cases gk with
      | zero => exact absurd HA.out (by simp [billetref06_Push.l0])
      | succ k2 =>
       have H := HA.out
       clear HA
       simp only [billetref06_Push.l0] at H
       by_cases c15 : x15_2 < a4
       ·rw [if_pos c15] at H
        have c15b0 : decide (x15_2 < a4) = true := decide_eq_true c15
        clear c15
        replace H := Option.bind_eq_some_iff.mp H
        obtain ⟨⟨t600, t603⟩, A160, H⟩ := H
        replace H : (if t603 = true then ((billetref06_along.f k2 a0_0 l0_1 t600 a2 a3).bind fun bt604 => (billetref06_Push.l1 k2 a2 a3 a4 x14_2 x15_2 bt604.1 bt604.2 (wrap64 (a4 - x15_2)) 0 a0_0 l0_1)) else (some (x14_2, x15_2, 0))) = some (r1, r2, r3) := H
        have A16 := Aside0.mk A160
        clear A160
        by_cases c17 : t603 = true
        ·subst c17
         have H1 : ((billetref06_along.f k2 a0_0 l0_1 t600 a2 a3).bind fun bt604 => (billetref06_Push.l1 k2 a2 a3 a4 x14_2 x15_2 bt604.1 bt604.2 (wrap64 (a4 - x15_2)) 0 a0_0 l0_1)) = some (r1, r2, r3) := by rw [if_pos rfl] at H; exact H
         clear H
         have H := H1
         clear H1
         replace H := Option.bind_eq_some_iff.mp H
         obtain ⟨⟨t604, t607⟩, A180, H⟩ := H
         replace H : (billetref06_Push.l1 k2 a2 a3 a4 x14_2 x15_2 t604 t607 (wrap64 (a4 - x15_2)) 0 a0_0 l0_1) = some (r1, r2, r3) := H
         have A18 := Aside0.mk A180
         clear A180
         have H' := Aside0.mk H
         clear H
         have hcz19_0 : wr.cell? ⟨gb595, 0, none⟩ = some (.int .i64 a0_0) := (blk_cell BK595.out 0).trans rfl
         have hcz19_1 : wr.cell? ⟨gb595, 1, none⟩ = some (.slice A0_1 l0_1.length c0_1) := (blk_cell BK595.out 1).trans rfl
         have hfz19_0 := blk_frozen BK595.out 0
         have hfz19_1 := blk_frozen BK595.out 1
         obtain ⟨Ao20, co20, eo20⟩ := Kd.R_slice HO_14.out
         subst eo20
         go_wp2_with (first | ((with_reducible refine gate_callee (f := 55) rfl ?_); refine goesL_ (some 45) rfl rfl Try.func55 (by kernel_rfl) rfl #[.agg #[.int .i64 a0_0, .slice A0_1 l0_1.length c0_1], .slice Ao20 x14_2.length co20, .int .i64 a2, .int .i64 a3] rfl (by (try simp only [List.map_toArray, List.map_cons, List.map_nil]); first | done | rfl | (simp only [List.length_drop, List.length_take]; rfl)) ?_; (with_reducible refine (billetref06_way.calls k2 a0_0 _ _ l0_1 _ _ x14_2 a2 a3 t600 true _ ?side1 ?side2 ?side3 ?side4 A16.out).mono ?_); (case side1 => repeat (first | exact (Kd.C_below HR0_1.out HB.out) | (with_reducible refine Kd.C_alloc ?_ _) | (with_reducible refine Kd.C_drewN ?_ _) | (with_reducible refine Kd.C_drew ?_))); (case side2 => exact HC0_1.out); (case side3 => repeat (first | exact (Kd.R_reads' HO_14.out).2.2 | (with_reducible refine Kd.C_alloc ?_ _) | (with_reducible refine Kd.C_drewN ?_ _) | (with_reducible refine Kd.C_drew ?_))); (case side4 => exact (Kd.R_reads' HO_14.out).2.1); rintro e w21 ⟨v601, rfl, ho0, hb⟩; refine ⟨_, rfl, ?_⟩; have n0_ := Aside0.mk (Kd.R_elder' (by (with_reducible repeat (first | apply Kd.R_alloc | apply Kd.R_drewN | apply Kd.R_drew)); exact HO_14.out) (Kd.R_base ho0) hb); have n1_ := Aside0.mk (Kd.R_lower (Kd.R_new' ho0 (Kd.R_lt (by (with_reducible repeat (first | apply Kd.R_alloc | apply Kd.R_drewN | apply Kd.R_drew)); exact HO_14.out))) (below_size (by repeat (first | (with_reducible first | exact HB.out | apply below_alloc | apply pw_below_drewN | apply below_drew1 | refine below_set ?_ GE595.out) | exact HB.out)))); have n2_ := Aside0.mk (blk_below (g := gb595) (o := .cells #[.int .i64 a0_0, .slice A0_1 l0_1.length c0_1] 24 (0, 0)) (by (with_reducible repeat (first | refine blk_drewN ?_ _ | refine blk_drew ?_ | refine blk_alloc ?_ _)); exact BK595.out) hb); have n3_ := Aside0.mk (below_step (by repeat (first | (with_reducible first | exact HB.out | apply below_alloc | apply pw_below_drewN | apply below_drew1 | refine below_set ?_ GE595.out) | exact HB.out)) hb); clear HO_14; clear BK595; clear HB; have HO_14 := n0_; have HO602 := n1_; have BK595 := n2_; have HB := n3_; clear n0_ n1_ n2_ n3_; (try clear hb); (try clear hb2); (try clear hk); (try clear hi); (try clear ho0); have hcz22_0 : w21.cell? ⟨gb595, 0, none⟩ = some (.int .i64 a0_0) := (blk_cell BK595.out 0).trans rfl; have hcz22_1 : w21.cell? ⟨gb595, 1, none⟩ = some (.slice A0_1 l0_1.length c0_1) := (blk_cell BK595.out 1).trans rfl; have hfz22_0 := blk_frozen BK595.out 0; have hfz22_1 := blk_frozen BK595.out 1; obtain ⟨Ao23, co23, eo23⟩ := Kd.R_slice HO602.out; subst eo23) | ((with_reducible refine gate_callee (f := 56) rfl ?_); refine goesL_ (some 55) rfl rfl Try.func56 (by kernel_rfl) rfl #[.agg #[.int .i64 a0_0, .slice A0_1 l0_1.length c0_1], .slice Ao23 t600.length co23, .int .i64 a2, .int .i64 a3] rfl (by (try simp only [List.map_toArray, List.map_cons, List.map_nil]); first | done | rfl | (simp only [List.length_drop, List.length_take]; rfl)) ?_; (with_reducible refine (billetref06_along.calls k2 a0_0 _ _ l0_1 _ _ t600 a2 a3 t604 t607 _ ?side1 ?side2 ?side3 ?side4 A18.out).mono ?_); (case side1 => repeat (first | exact (Kd.C_below HR0_1.out HB.out) | (with_reducible refine Kd.C_alloc ?_ _) | (with_reducible refine Kd.C_drewN ?_ _) | (with_reducible refine Kd.C_drew ?_))); (case side2 => exact HC0_1.out); (case side3 => repeat (first | exact (Kd.R_reads' HO602.out).2.2 | (with_reducible refine Kd.C_alloc ?_ _) | (with_reducible refine Kd.C_drewN ?_ _) | (with_reducible refine Kd.C_drew ?_))); (case side4 => exact (Kd.R_reads' HO602.out).2.1); rintro e w24 ⟨v605, v608, rfl, ho0, ho1, hb⟩; refine ⟨_, rfl, ?_⟩; have n0_ := Aside0.mk (Kd.R_elder' (by (with_reducible repeat (first | apply Kd.R_alloc | apply Kd.R_drewN | apply Kd.R_drew)); exact HO_14.out) (Kd.R_base ho0) hb); have n1_ := Aside0.mk (Kd.R_elder' (by (with_reducible repeat (first | apply Kd.R_alloc | apply Kd.R_drewN | apply Kd.R_drew)); exact HO602.out) (Kd.R_base ho0) hb); have n2_ := Aside0.mk (Kd.R_lower (Kd.R_new' (Kd.R_new' ho0 (Kd.R_lt (by (with_reducible repeat (first | apply Kd.R_alloc | apply Kd.R_drewN | apply Kd.R_drew)); exact HO_14.out))) (Kd.R_lt (by (with_reducible repeat (first | apply Kd.R_alloc | apply Kd.R_drewN | apply Kd.R_drew)); exact HO602.out))) (below_size (by repeat (first | (with_reducible first | exact HB.out | apply below_alloc | apply pw_below_drewN | apply below_drew1 | refine below_set ?_ GE595.out) | exact HB.out)))); have n3_ := Aside0.mk (Kd.R_lower ho1 (below_size (by repeat (first | (with_reducible first | exact HB.out | apply below_alloc | apply pw_below_drewN | apply below_drew1 | refine below_set ?_ GE595.out) | exact HB.out)))); have n4_ := Aside0.mk (blk_below (g := gb595) (o := .cells #[.int .i64 a0_0, .slice A0_1 l0_1.length c0_1] 24 (0, 0)) (by (with_reducible repeat (first | refine blk_drewN ?_ _ | refine blk_drew ?_ | refine blk_alloc ?_ _)); exact BK595.out) hb); have n5_ := Aside0.mk (below_step (by repeat (first | (with_reducible first | exact HB.out | apply below_alloc | apply pw_below_drewN | apply below_drew1 | refine below_set ?_ GE595.out) | exact HB.out)) hb); clear HO_14; clear HO602; clear BK595; clear HB; have HO_14 := n0_; have HO602 := n1_; have HO606 := n2_; have HO609 := n3_; have BK595 := n4_; have HB := n5_; clear n0_ n1_ n2_ n3_ n4_ n5_; (try clear hb); (try clear hb2); (try clear hk); (try clear hi); (try clear ho0); (try clear ho1)))
         go_loopg [20, 21] k2 (fun kq v20 v21 w' => ∃ (x20_3 : Int) (x21_3 : Int), v20 = .int .i64 x20_3 ∧ v21 = .int .i64 x21_3 ∧ Aside0 (billetref06_Push.l1 kq a2 a3 a4 x14_2 x15_2 t604 t607 x20_3 x21_3 a0_0 l0_1 = some (r1, r2, r3)) ∧ Aside0 (kq ≤ k2) ∧ Aside0 (Kd.R (Kd.int .i64) 3 w' w.heap.size (fun k_ => some k_ ≠ (v605 : Value).ownBlock) (.slice Ao20 x14_2.length co20) x14_2) ∧ Aside0 (Kd.R (Kd.int .i64) 3 w' w.heap.size (fun k_ => some k_ ≠ ((.slice Ao20 x14_2.length co20) : Value).ownBlock) v605 t604) ∧ Aside0 (Kd.R Kd.bool 4 w' w.heap.size (fun _ => True) v608 t607) ∧ Aside0 (w'.heap[gb595]? = some (.cells #[.int .i64 a0_0, (.slice A0_1 l0_1.length c0_1)] 24 (0, 0))) ∧ Aside0 (Below w.heap.size w w'))
         case atStart => exact ⟨(wrap64 (a4 - x15_2)), (0), (by first | rfl | (simp; done) | (simp [*]; done)), (by first | rfl | (simp; done) | (simp [*]; done)), H', ⟨Nat.le_refl _⟩, ⟨by (with_reducible repeat (first | apply Kd.R_alloc | apply Kd.R_drewN | apply Kd.R_drew)); exact Kd.R_mono HO_14.out (fun _ hk => hk.2)⟩, ⟨by (with_reducible repeat (first | apply Kd.R_alloc | apply Kd.R_drewN | apply Kd.R_drew)); exact Kd.R_mono HO606.out (fun _ hk => hk.1.2)⟩, ⟨by (with_reducible repeat (first | apply Kd.R_alloc | apply Kd.R_drewN | apply Kd.R_drew)); exact HO609.out⟩, ⟨by (with_reducible repeat (first | refine blk_drewN ?_ _ | refine blk_drew ?_ | refine blk_alloc ?_ _)); exact BK595.out⟩, ⟨by repeat (first | (with_reducible first | exact HB.out | apply below_alloc | apply pw_below_drewN | apply below_drew1 | refine below_set ?_ GE595.out) | exact HB.out)⟩⟩
         case round =>
          clear H'
          obtain ⟨x20_3, x21_3, rfl, rfl, HA, HK3, HO_14, HO_18, HO_19, BK595, HB⟩ := hrel
          cases gk with
          | zero => exact absurd HA.out (by simp [billetref06_Push.l1])
          | succ k3 =>
           have H := HA.out
           clear HA
           simp only [billetref06_Push.l1] at H
           by_cases c25 : x21_3 < (t604.length : Int)
           ·rw [if_pos c25] at H
            have c25b0 : decide (x21_3 < (t604.length : Int)) = true := decide_eq_true c25
            clear c25
            by_cases c26 : 0 ≤ x21_3
            ·rw [if_pos c26] at H
             have c26b0 : decide (0 ≤ x21_3) = true := decide_eq_true c26
             clear c26
             by_cases c27 : x21_3 < (t607.length : Int)
             ·rw [if_pos c27] at H
              have c27b0 : decide (x21_3 < (t607.length : Int)) = true := decide_eq_true c27
              clear c27
              obtain ⟨bq28, hbq28⟩ : ∃ b_ : Bool, b_ = (rdOf false t607 x21_3) := ⟨_, rfl⟩
              replace H : (if bq28 = true then (if 0 ≤ (rd t604 x21_3) then (if (rd t604 x21_3) < (l0_1.length : Int) then (if (rd t604 x21_3) < (x14_2.length : Int) then (billetref06_Push.l1 k3 a2 a3 a4 x14_2 x15_2 t604 t607 (mn x20_3 (wrap64 (((rd_T41 l0_1 (rd t604 x21_3)).f2) - (rd x14_2 (rd t604 x21_3))))) (wrap64 (x21_3 + 1)) a0_0 l0_1) else (none)) else (none)) else (none)) else (if 0 ≤ (rd t604 x21_3) then (if (rd t604 x21_3) < (x14_2.length : Int) then (billetref06_Push.l1 k3 a2 a3 a4 x14_2 x15_2 t604 t607 (mn x20_3 (rd x14_2 (rd t604 x21_3))) (wrap64 (x21_3 + 1)) a0_0 l0_1) else (none)) else (none))) = some (r1, r2, r3) := by rw [← hbq28] at H; exact H
              have Nbq28 := Aside0.mk hbq28
              clear hbq28
              by_cases c29 : bq28 = true
              ·subst c29
               have H1 : (if 0 ≤ (rd t604 x21_3) then (if (rd t604 x21_3) < (l0_1.length : Int) then (if (rd t604 x21_3) < (x14_2.length : Int) then (billetref06_Push.l1 k3 a2 a3 a4 x14_2 x15_2 t604 t607 (mn x20_3 (wrap64 (((rd_T41 l0_1 (rd t604 x21_3)).f2) - (rd x14_2 (rd t604 x21_3))))) (wrap64 (x21_3 + 1)) a0_0 l0_1) else (none)) else (none)) else (none)) = some (r1, r2, r3) := by rw [if_pos rfl] at H; exact H
               clear H
               have H := H1
               clear H1
               by_cases c30 : 0 ≤ (rd t604 x21_3)
               ·rw [if_pos c30] at H
                have c30b0 : decide (0 ≤ (rd t604 x21_3)) = true := decide_eq_true c30
                clear c30
                by_cases c31 : (rd t604 x21_3) < (l0_1.length : Int)
                ·rw [if_pos c31] at H
                 have c31b0 : decide ((rd t604 x21_3) < (l0_1.length : Int)) = true := decide_eq_true c31
                 clear c31
                 by_cases c32 : (rd t604 x21_3) < (x14_2.length : Int)
                 ·rw [if_pos c32] at H
                  have c32b0 : decide ((rd t604 x21_3) < (x14_2.length : Int)) = true := decide_eq_true c32
                  clear c32
                  obtain ⟨ji33, hji33⟩ : ∃ j_ : Int, (mn x20_3 (wrap64 (((rd_T41 l0_1 (rd t604 x21_3)).f2) - (rd x14_2 (rd t604 x21_3))))) = j_ := ⟨_, rfl⟩
                  replace H : (billetref06_Push.l1 k3 a2 a3 a4 x14_2 x15_2 t604 t607 ji33 (wrap64 (x21_3 + 1)) a0_0 l0_1) = some (r1, r2, r3) := by first | (rw [hji33] at H; exact H) | (simp only [hji33] at H ⊢; exact H)
                  have hji33_ : (if (wrap64 (((rd_T41 l0_1 (rd t604 x21_3)).f2) - (rd x14_2 (rd t604 x21_3)))) < x20_3 then (wrap64 (((rd_T41 l0_1 (rd t604 x21_3)).f2) - (rd x14_2 (rd t604 x21_3)))) else x20_3) = ji33 := hji33
                  have H' := Aside0.mk H
                  clear H
                  obtain ⟨Ao34, co34, eo34⟩ := Kd.R_slice HO_18.out
                  subst eo34
                  obtain ⟨Ao35, co35, eo35⟩ := Kd.R_slice HO_19.out
                  subst eo35
                  have p610 : 0 ≤ (x21_3 : Int) := of_decide_eq_true (by first | (with_reducible assumption) | assumption)
                  have q610 : x21_3 < (t607.length : Int) := of_decide_eq_true (by first | (with_reducible assumption) | assumption)
                  obtain ⟨ad610, e610, hx610_0⟩ := Kd.at_bool (Kd.R_reads' HO_19.out).2.2 x21_3 p610 q610
                  (try rw [← Nbq28.out] at hx610_0)
                  cases e610
                  replace p610 := eq_true p610
                  replace q610 := eq_true q610
                  try go_wp2
                  have n0_ := Aside0.mk (Kd.R_drew HO_14.out)
                  have n1_ := Aside0.mk (Kd.R_drew HO_18.out)
                  have n2_ := Aside0.mk (Kd.R_drew HO_19.out)
                  have n3_ := Aside0.mk (blk_drew BK595.out)
                  have n4_ := Aside0.mk (below_drew1 HB.out)
                  clear HO_14
                  clear HO_18
                  clear HO_19
                  clear BK595
                  clear HB
                  have HO_14 := n0_
                  have HO_18 := n1_
                  have HO_19 := n2_
                  have BK595 := n3_
                  have HB := n4_
                  clear n0_ n1_ n2_ n3_ n4_
                  have p611 : 0 ≤ (x21_3 : Int) := of_decide_eq_true (by first | (with_reducible assumption) | assumption)
                  have q611 : x21_3 < (t604.length : Int) := of_decide_eq_true (by first | (with_reducible assumption) | assumption)
                  obtain ⟨ad611, e611, hx611_0⟩ := Kd.at_int (Kd.R_reads' HO_18.out).2.2 x21_3 p611 q611
                  cases e611
                  replace p611 := eq_true p611
                  replace q611 := eq_true q611
                  have p612 : 0 ≤ ((rd t604 x21_3) : Int) := of_decide_eq_true (by first | (with_reducible assumption) | assumption)
                  have q612 : (rd t604 x21_3) < (l0_1.length : Int) := of_decide_eq_true (by first | (with_reducible assumption) | assumption)
                  obtain ⟨ad612, e612, hx612_0, hx612_1, hx612_2⟩ := at_T41 HR0_1.out (rd t604 x21_3) p612 q612
                  have hw612_2 := hx612_2
                  have hw612_1 := hx612_1
                  have hw612_0 := hx612_0
                  cases e612
                  replace hx612_0 := (HB.out.cell (World.block_lt_of_cell? w _ hx612_0)).trans hx612_0
                  replace hx612_1 := (HB.out.cell (World.block_lt_of_cell? w _ hx612_1)).trans hx612_1
                  replace hx612_2 := (HB.out.cell (World.block_lt_of_cell? w _ hx612_2)).trans hx612_2
                  replace p612 := eq_true p612
                  replace q612 := eq_true q612
                  have p613 : 0 ≤ (x21_3 : Int) := of_decide_eq_true (by first | (with_reducible assumption) | assumption)
                  have q613 : x21_3 < (t604.length : Int) := of_decide_eq_true (by first | (with_reducible assumption) | assumption)
                  obtain ⟨ad613, e613, hx613_0⟩ := Kd.at_int (Kd.R_reads' HO_18.out).2.2 x21_3 p613 q613
                  obtain rfl : ad611 = ad613 := (by injection e613)
                  replace p613 := eq_true p613
                  replace q613 := eq_true q613
                  have p614 : 0 ≤ ((rd t604 x21_3) : Int) := of_decide_eq_true (by first | (with_reducible assumption) | assumption)
                  have q614 : (rd t604 x21_3) < (x14_2.length : Int) := of_decide_eq_true (by first | (with_reducible assumption) | assumption)
                  obtain ⟨ad614, e614, hx614_0⟩ := Kd.at_int (Kd.R_reads' HO_14.out).2.2 (rd t604 x21_3) p614 q614
                  cases e614
                  replace p614 := eq_true p614
                  replace q614 := eq_true q614
                  refine start_ (n := 20) (S := fun w' => w'.cell? ⟨gb595, 0, none⟩ = some (.int .i64 a0_0) ∧ w'.cell? ⟨gb595, 1, none⟩ = some (.slice (some ad612) l0_1.length c0_1) ∧ w'.cell? (ad611.add (x21_3).toNat) = some (.int .i64 (rd t604 x21_3)) ∧ w'.cell? (ad612.add (((rd t604 x21_3)).toNat * 3)) = some (.int .i64 ((rd_T41 l0_1 (rd t604 x21_3)).f0)) ∧ w'.cell? ⟨(ad612.add (((rd t604 x21_3)).toNat * 3)).block, (ad612.add (((rd t604 x21_3)).toNat * 3)).off + 1, none⟩ = some (.int .i64 ((rd_T41 l0_1 (rd t604 x21_3)).f1)) ∧ w'.cell? ⟨(ad612.add (((rd t604 x21_3)).toNat * 3)).block, (ad612.add (((rd t604 x21_3)).toNat * 3)).off + 2, none⟩ = some (.int .i64 ((rd_T41 l0_1 (rd t604 x21_3)).f2)) ∧ w'.cell? (ad611.add (x21_3).toNat) = some (.int .i64 (rd t604 x21_3)) ∧ w'.cell? (ad614.add ((rd t604 x21_3)).toNat) = some (.int .i64 (rd x14_2 (rd t604 x21_3)))) (ds := []) #[fF,fF,fF,fF,fF,fF,fF,fF,fF,fF,fF,fF,fF,fF,fF,fF,fF,fF,fF,fF] (by kernel_rfl) rfl rfl ⟨(blk_cell BK595.out 0).trans rfl, (blk_cell BK595.out 1).trans rfl, hx611_0, ((HB.out.cell (World.block_lt_of_cell? w _ hw612_0)).trans hw612_0), ((HB.out.cell (World.block_lt_of_cell? w _ hw612_1)).trans hw612_1), ((HB.out.cell (World.block_lt_of_cell? w _ hw612_2)).trans hw612_2), hx613_0, hx614_0⟩ (fun hHeld => ?_); refine with_tabW billetref06_Push.tab16 billetref06_Push.bits16 (fun HT_ HW_ => ?_)
                  generalize wr.drew = w36 at HO_14 HO_18 HO_19 BK595 HB hx611_0 hx612_0 hx612_1 hx612_2 hx613_0 hx614_0 hHeld ⊢
                  refine pure_ (i := 0) (N := some 71) (v := ?_) (a' := ?_) #[tT,fF,fF,fF,fF,fF,fF,fF,fF,fF,fF,fF,fF,fF,fF,fF,fF,fF,fF,fF] rfl rfl (any_of HT_.out (by kernel_rfl)) (fun _ _ _ h => h) (Or.inl ⟨by rfl, ?_⟩) ?_ ?_; rotate_left; (intro w'; go_simp; with_reducible rfl); rotate_left; (simp only [Act.put, List.setIfInBounds_toArray, List.set_cons_zero, List.set_cons_succ, i64_w, i32_w]; rfl)
                  refine pure_ (i := 1) (N := some 72) (v := ?_) (a' := ?_) #[tT,tT,fF,fF,fF,fF,fF,fF,fF,fF,fF,fF,fF,fF,fF,fF,fF,fF,fF,fF] rfl rfl (any_of HT_.out (by kernel_rfl)) (fun _ _ _ h => h) (Or.inl ⟨by rfl, ?_⟩) ?_ ?_; rotate_left; (intro w'; go_simp; with_reducible rfl); rotate_left; (simp only [Act.put, List.setIfInBounds_toArray, List.set_cons_zero, List.set_cons_succ, i64_w, i32_w]; rfl)
                  refine pure_ (i := 3) (N := some 74) (v := ?_) (a' := ?_) #[tT,tT,fF,tT,fF,fF,fF,fF,fF,fF,fF,fF,fF,fF,fF,fF,fF,fF,fF,fF] rfl rfl (any_of HT_.out (by kernel_rfl)) (fun _ _ _ h => h) (Or.inl ⟨by rfl, ?_⟩) ?_ ?_; rotate_left; (intro w'; go_simp; with_reducible rfl); rotate_left; (simp only [Act.put, List.setIfInBounds_toArray, List.set_cons_zero, List.set_cons_succ, i64_w, i32_w]; rfl)
                  refine pure_ (i := 4) (N := some 75) (v := ?_) (a' := ?_) #[tT,tT,fF,tT,tT,fF,fF,fF,fF,fF,fF,fF,fF,fF,fF,fF,fF,fF,fF,fF] rfl rfl (any_of HT_.out (by kernel_rfl)) (fun _ _ _ h => h) (Or.inl ⟨by rfl, ?_⟩) ?_ ?_; rotate_left; (intro w'; go_simp; with_reducible rfl); rotate_left; (simp only [Act.put, List.setIfInBounds_toArray, List.set_cons_zero, List.set_cons_succ, i64_w, i32_w]; rfl)
                  refine pure_ (i := 5) (N := some 76) (v := ?_) (a' := ?_) #[tT,tT,fF,tT,tT,tT,fF,fF,fF,fF,fF,fF,fF,fF,fF,fF,fF,fF,fF,fF] rfl rfl (any_of HT_.out (by kernel_rfl)) (fun _ _ _ h => h) (Or.inl ⟨by rfl, ?_⟩) ?_ ?_; rotate_left; (intro w'; go_simp; with_reducible rfl); rotate_left; (simp only [Act.put, List.setIfInBounds_toArray, List.set_cons_zero, List.set_cons_succ, i64_w, i32_w]; rfl)
                  refine pure_ (i := 10) (N := some 81) (v := ?_) (a' := ?_) #[tT,tT,fF,tT,tT,tT,fF,fF,fF,fF,tT,fF,fF,fF,fF,fF,fF,fF,fF,fF] rfl rfl (any_of HT_.out (by kernel_rfl)) (fun _ _ _ h => h) (Or.inl ⟨by rfl, ?_⟩) ?_ ?_; rotate_left; (intro w'; go_simp; with_reducible rfl); rotate_left; (simp only [Act.put, List.setIfInBounds_toArray, List.set_cons_zero, List.set_cons_succ, i64_w, i32_w]; rfl)
                  refine pure_ (i := 11) (N := some 82) (v := ?_) (a' := ?_) #[tT,tT,fF,tT,tT,tT,fF,fF,fF,fF,tT,tT,fF,fF,fF,fF,fF,fF,fF,fF] rfl rfl (any_of HT_.out (by kernel_rfl)) (fun _ _ _ h => h) (Or.inl ⟨by rfl, ?_⟩) ?_ ?_; rotate_left; (intro w'; go_simp; with_reducible rfl); rotate_left; (simp only [Act.put, List.setIfInBounds_toArray, List.set_cons_zero, List.set_cons_succ, i64_w, i32_w]; rfl)
                  refine pure_ (i := 12) (N := some 83) (v := ?_) (a' := ?_) #[tT,tT,fF,tT,tT,tT,fF,fF,fF,fF,tT,tT,tT,fF,fF,fF,fF,fF,fF,fF] rfl rfl (any_of HT_.out (by kernel_rfl)) (fun _ _ _ h => h) (Or.inl ⟨by rfl, ?_⟩) ?_ ?_; rotate_left; (intro w'; go_simp; with_reducible rfl); rotate_left; (simp only [Act.put, List.setIfInBounds_toArray, List.set_cons_zero, List.set_cons_succ, i64_w, i32_w]; rfl)
                  refine pure_ (i := 13) (N := some 84) (v := ?_) (a' := ?_) #[tT,tT,fF,tT,tT,tT,fF,fF,fF,fF,tT,tT,tT,tT,fF,fF,fF,fF,fF,fF] rfl rfl (any_of HT_.out (by kernel_rfl)) (fun _ _ _ h => h) (Or.inl ⟨by rfl, ?_⟩) ?_ ?_; rotate_left; (intro w'; go_simp; with_reducible rfl); rotate_left; (simp only [Act.put, List.setIfInBounds_toArray, List.set_cons_zero, List.set_cons_succ, i64_w, i32_w]; rfl)
                  refine take_ (i := 2) (N := some 73) (v := ?_) (a' := ?_) #[tT,tT,tT,tT,tT,tT,fF,fF,fF,fF,tT,tT,tT,tT,fF,fF,fF,fF,fF,fF] rfl rfl (take_ofW HT_.out HW_.out (by kernel_rfl)) (fun _ _ _ h => h) (Or.inl ⟨by rfl, ?_⟩) hHeld ?_ ?_; rotate_left; (rintro w' ⟨s0, s1, s2, s3, s4, s5, s6, s7⟩; go_simp; with_reducible rfl); rotate_left; (simp only [Act.put, List.setIfInBounds_toArray, List.set_cons_zero, List.set_cons_succ, i64_w, i32_w]; rfl)
                  refine take_ (i := 6) (N := some 77) (v := ?_) (a' := ?_) #[tT,tT,tT,tT,tT,tT,tT,fF,fF,fF,tT,tT,tT,tT,fF,fF,fF,fF,fF,fF] rfl rfl (take_ofW HT_.out HW_.out (by kernel_rfl)) (fun _ _ _ h => h) (Or.inl ⟨by rfl, ?_⟩) hHeld ?_ ?_; rotate_left; (rintro w' ⟨s0, s1, s2, s3, s4, s5, s6, s7⟩; go_simp; with_reducible rfl); rotate_left; (simp only [Act.put, List.setIfInBounds_toArray, List.set_cons_zero, List.set_cons_succ, i64_w, i32_w]; rfl)
                  refine pure_ (i := 7) (N := some 78) (v := ?_) (a' := ?_) #[tT,tT,tT,tT,tT,tT,tT,tT,fF,fF,tT,tT,tT,tT,fF,fF,fF,fF,fF,fF] rfl rfl (any_of HT_.out (by kernel_rfl)) (fun _ _ _ h => h) (Or.inl ⟨by rfl, ?_⟩) ?_ ?_; rotate_left; (intro w'; go_simp; with_reducible rfl); rotate_left; (simp only [Act.put, List.setIfInBounds_toArray, List.set_cons_zero, List.set_cons_succ, i64_w, i32_w]; rfl)
                  refine pure_ (i := 8) (N := some 79) (v := ?_) (a' := ?_) #[tT,tT,tT,tT,tT,tT,tT,tT,tT,fF,tT,tT,tT,tT,fF,fF,fF,fF,fF,fF] rfl rfl (any_of HT_.out (by kernel_rfl)) (fun _ _ _ h => h) (Or.inl ⟨by rfl, ?_⟩) ?_ ?_; rotate_left; (intro w'; go_simp; with_reducible rfl); rotate_left; (simp only [Act.put, List.setIfInBounds_toArray, List.set_cons_zero, List.set_cons_succ, i64_w, i32_w]; rfl)
                  refine take_ (i := 9) (N := some 80) (v := ?_) (a' := ?_) #[tT,tT,tT,tT,tT,tT,tT,tT,tT,tT,tT,tT,tT,tT,fF,fF,fF,fF,fF,fF] rfl rfl (take_ofW HT_.out HW_.out (by kernel_rfl)) (fun _ _ _ h => h) (Or.inl ⟨by rfl, ?_⟩) hHeld ?_ ?_; rotate_left; (rintro w' ⟨s0, s1, s2, s3, s4, s5, s6, s7⟩; go_simp; with_reducible rfl); rotate_left; (simp only [Act.put, List.setIfInBounds_toArray, List.set_cons_zero, List.set_cons_succ, i64_w, i32_w]; rfl)
                  refine take_ (i := 14) (N := some 85) (v := ?_) (a' := ?_) #[tT,tT,tT,tT,tT,tT,tT,tT,tT,tT,tT,tT,tT,tT,tT,fF,fF,fF,fF,fF] rfl rfl (take_ofW HT_.out HW_.out (by kernel_rfl)) (fun _ _ _ h => h) (Or.inl ⟨by rfl, ?_⟩) hHeld ?_ ?_; rotate_left; (rintro w' ⟨s0, s1, s2, s3, s4, s5, s6, s7⟩; go_simp; with_reducible rfl); rotate_left; (simp only [Act.put, List.setIfInBounds_toArray, List.set_cons_zero, List.set_cons_succ, i64_w, i32_w]; rfl)
                  refine pure_ (i := 15) (N := some 86) (v := ?_) (a' := ?_) #[tT,tT,tT,tT,tT,tT,tT,tT,tT,tT,tT,tT,tT,tT,tT,tT,fF,fF,fF,fF] rfl rfl (any_of HT_.out (by kernel_rfl)) (fun _ _ _ h => h) (Or.inl ⟨by rfl, ?_⟩) ?_ ?_; rotate_left; (intro w'; go_simp; with_reducible rfl); rotate_left; (simp only [Act.put, List.setIfInBounds_toArray, List.set_cons_zero, List.set_cons_succ, i64_w, i32_w]; rfl)
                  refine take_ (i := 16) (N := some 87) (v := ?_) (a' := ?_) #[tT,tT,tT,tT,tT,tT,tT,tT,tT,tT,tT,tT,tT,tT,tT,tT,tT,fF,fF,fF] rfl rfl (take_ofW HT_.out HW_.out (by kernel_rfl)) (fun _ _ _ h => h) (Or.inl ⟨by rfl, ?_⟩) hHeld ?_ ?_; rotate_left; (rintro w' ⟨s0, s1, s2, s3, s4, s5, s6, s7⟩; go_simp; with_reducible rfl); rotate_left; (simp only [Act.put, List.setIfInBounds_toArray, List.set_cons_zero, List.set_cons_succ, i64_w, i32_w]; rfl)
                  refine pure_ (i := 17) (N := some 88) (v := ?_) (a' := ?_) #[tT,tT,tT,tT,tT,tT,tT,tT,tT,tT,tT,tT,tT,tT,tT,tT,tT,tT,fF,fF] rfl rfl (any_of HT_.out (by kernel_rfl)) (fun _ _ _ h => h) (Or.inl ⟨by rfl, ?_⟩) ?_ ?_; rotate_left; (intro w'; go_simp; with_reducible rfl); rotate_left; (simp only [Act.put, List.setIfInBounds_toArray, List.set_cons_zero, List.set_cons_succ, i64_w, i32_w]; rfl)
                  refine pure_ (i := 18) (N := some 89) (v := ?_) (a' := ?_) #[tT,tT,tT,tT,tT,tT,tT,tT,tT,tT,tT,tT,tT,tT,tT,tT,tT,tT,tT,fF] rfl rfl (any_of HT_.out (by kernel_rfl)) (fun _ _ _ h => h) (Or.inl ⟨by rfl, ?_⟩) ?_ ?_; rotate_left; (intro w'; go_simp; with_reducible rfl); rotate_left; (simp only [Act.put, List.setIfInBounds_toArray, List.set_cons_zero, List.set_cons_succ, i64_w, i32_w]; rfl)
                  refine pure_ (i := 19) (N := some 20) (v := ?_) (a' := ?_) #[tT,tT,tT,tT,tT,tT,tT,tT,tT,tT,tT,tT,tT,tT,tT,tT,tT,tT,tT,tT] rfl rfl (any_of HT_.out (by kernel_rfl)) (fun _ _ _ h => h) (Or.inl ⟨by rfl, ?_⟩) ?_ ?_; rotate_left; (intro w'; go_simp; with_reducible rfl); rotate_left; (simp only [Act.put, List.setIfInBounds_toArray, List.set_cons_zero, List.set_cons_succ, i64_w, i32_w]; rfl)
                  refine done_ (done_of HT_.out (by kernel_rfl)) ?_
                  try go_wp2
                  go_roundg k3
                  case measure => have := HJ6.out; have := HK2.out; have := HK3.out; omega
                  case rel => exact ⟨(ji33), (wrap64 (x21_3 + 1)), (by first | rfl | (simp; done) | (simp only [← hji33] <;> (first | rfl | simp)) | (simp [*]; done)), (by first | rfl | (simp; done) | (simp [*]; done)), H', ⟨by have := HJ6.out; have := HK2.out; have := HK3.out; omega⟩, ⟨by (with_reducible repeat (first | apply Kd.R_alloc | apply Kd.R_drewN | apply Kd.R_drew)); exact HO_14.out⟩, ⟨by (with_reducible repeat (first | apply Kd.R_alloc | apply Kd.R_drewN | apply Kd.R_drew)); exact HO_18.out⟩, ⟨by (with_reducible repeat (first | apply Kd.R_alloc | apply Kd.R_drewN | apply Kd.R_drew)); exact HO_19.out⟩, ⟨by (with_reducible repeat (first | refine blk_drewN ?_ _ | refine blk_drew ?_ | refine blk_alloc ?_ _)); exact BK595.out⟩, ⟨by repeat (first | (with_reducible first | exact HB.out | apply below_alloc | apply pw_below_drewN | apply below_drew1 | refine below_set ?_ GE595.out) | exact HB.out)⟩⟩
                 ·rw [if_neg c32] at H
                  exact absurd H (by simp)
                ·rw [if_neg c31] at H
                 exact absurd H (by simp)
               ·rw [if_neg c30] at H
                exact absurd H (by simp)
              ·replace c29 := Bool.eq_false_iff.mpr c29
               subst c29
               have H1 : (if 0 ≤ (rd t604 x21_3) then (if (rd t604 x21_3) < (x14_2.length : Int) then (billetref06_Push.l1 k3 a2 a3 a4 x14_2 x15_2 t604 t607 (mn x20_3 (rd x14_2 (rd t604 x21_3))) (wrap64 (x21_3 + 1)) a0_0 l0_1) else (none)) else (none)) = some (r1, r2, r3) := by rw [if_neg (show ¬ (false = true) by decide)] at H; exact H
               clear H
               have H := H1
               clear H1
               by_cases c37 : 0 ≤ (rd t604 x21_3)
               ·rw [if_pos c37] at H
                have c37b0 : decide (0 ≤ (rd t604 x21_3)) = true := decide_eq_true c37
                clear c37
                by_cases c38 : (rd t604 x21_3) < (x14_2.length : Int)
                ·rw [if_pos c38] at H
                 have c38b0 : decide ((rd t604 x21_3) < (x14_2.length : Int)) = true := decide_eq_true c38
                 clear c38
                 obtain ⟨ji39, hji39⟩ : ∃ j_ : Int, (mn x20_3 (rd x14_2 (rd t604 x21_3))) = j_ := ⟨_, rfl⟩
                 replace H : (billetref06_Push.l1 k3 a2 a3 a4 x14_2 x15_2 t604 t607 ji39 (wrap64 (x21_3 + 1)) a0_0 l0_1) = some (r1, r2, r3) := by first | (rw [hji39] at H; exact H) | (simp only [hji39] at H ⊢; exact H)
                 have hji39_ : (if (rd x14_2 (rd t604 x21_3)) < x20_3 then (rd x14_2 (rd t604 x21_3)) else x20_3) = ji39 := hji39
                 have H' := Aside0.mk H
                 clear H
                 obtain ⟨Ao40, co40, eo40⟩ := Kd.R_slice HO_18.out
                 subst eo40
                 obtain ⟨Ao41, co41, eo41⟩ := Kd.R_slice HO_19.out
                 subst eo41
                 have p610 : 0 ≤ (x21_3 : Int) := of_decide_eq_true (by first | (with_reducible assumption) | assumption)
                 have q610 : x21_3 < (t607.length : Int) := of_decide_eq_true (by first | (with_reducible assumption) | assumption)
                 obtain ⟨ad610, e610, hx610_0⟩ := Kd.at_bool (Kd.R_reads' HO_19.out).2.2 x21_3 p610 q610
                 (try rw [← Nbq28.out] at hx610_0)
                 cases e610
                 replace p610 := eq_true p610
                 replace q610 := eq_true q610
                 have p615 : 0 ≤ (x21_3 : Int) := of_decide_eq_true (by first | (with_reducible assumption) | assumption)
                 have q615 : x21_3 < (t604.length : Int) := of_decide_eq_true (by first | (with_reducible assumption) | assumption)
                 obtain ⟨ad615, e615, hx615_0⟩ := Kd.at_int (Kd.R_reads' HO_18.out).2.2 x21_3 p615 q615
                 cases e615
                 replace p615 := eq_true p615
                 replace q615 := eq_true q615
                 have p616 : 0 ≤ ((rd t604 x21_3) : Int) := of_decide_eq_true (by first | (with_reducible assumption) | assumption)
                 have q616 : (rd t604 x21_3) < (x14_2.length : Int) := of_decide_eq_true (by first | (with_reducible assumption) | assumption)
                 obtain ⟨ad616, e616, hx616_0⟩ := Kd.at_int (Kd.R_reads' HO_14.out).2.2 (rd t604 x21_3) p616 q616
                 cases e616
                 replace p616 := eq_true p616
                 replace q616 := eq_true q616
                 go_wp2
                 go_roundg k3
                 case measure => have := HJ6.out; have := HK2.out; have := HK3.out; omega
                 case rel => exact ⟨(ji39), (wrap64 (x21_3 + 1)), (by first | rfl | (simp; done) | (simp only [← hji39] <;> (first | rfl | simp)) | (simp [*]; done)), (by first | rfl | (simp; done) | (simp [*]; done)), H', ⟨by have := HJ6.out; have := HK2.out; have := HK3.out; omega⟩, ⟨by (with_reducible repeat (first | apply Kd.R_alloc | apply Kd.R_drewN | apply Kd.R_drew)); exact HO_14.out⟩, ⟨by (with_reducible repeat (first | apply Kd.R_alloc | apply Kd.R_drewN | apply Kd.R_drew)); exact HO_18.out⟩, ⟨by (with_reducible repeat (first | apply Kd.R_alloc | apply Kd.R_drewN | apply Kd.R_drew)); exact HO_19.out⟩, ⟨by (with_reducible repeat (first | refine blk_drewN ?_ _ | refine blk_drew ?_ | refine blk_alloc ?_ _)); exact BK595.out⟩, ⟨by repeat (first | (with_reducible first | exact HB.out | apply below_alloc | apply pw_below_drewN | apply below_drew1 | refine below_set ?_ GE595.out) | exact HB.out)⟩⟩
                ·rw [if_neg c38] at H
                 exact absurd H (by simp)
               ·rw [if_neg c37] at H
                exact absurd H (by simp)
             ·rw [if_neg c27] at H
              exact absurd H (by simp)
            ·rw [if_neg c26] at H
             exact absurd H (by simp)
           ·rw [if_neg c25] at H
            have c25b0 : decide (x21_3 < (t604.length : Int)) = false := decide_eq_false c25
            clear c25
            have H' := Aside0.mk H
            clear H
            obtain ⟨Ao42, co42, eo42⟩ := Kd.R_slice HO_18.out
            subst eo42
            go_wp2
            go_loopg [22] k3 (fun kq v22 w' => ∃ (x14_4 : List Int) (x22_4 : Int), v22 = .int .i64 x22_4 ∧ Aside0 (billetref06_Push.l2 kq a2 a3 a4 x14_4 x15_2 t604 t607 x20_3 x22_4 a0_0 l0_1 = some (r1, r2, r3)) ∧ Aside0 (kq ≤ k3) ∧ Aside0 (Kd.R (Kd.int .i64) 3 w' w.heap.size (fun k_ => some k_ ≠ ((.slice Ao42 t604.length co42) : Value).ownBlock) (.slice Ao20 x14_2.length co20) x14_4) ∧ Aside0 (Kd.R (Kd.int .i64) 3 w' w.heap.size (fun k_ => some k_ ≠ ((.slice Ao20 x14_2.length co20) : Value).ownBlock) (.slice Ao42 t604.length co42) t604) ∧ Aside0 (Kd.R Kd.bool 4 w' w.heap.size (fun _ => True) v608 t607) ∧ Aside0 (w'.heap[gb595]? = some (.cells #[.int .i64 a0_0, (.slice A0_1 l0_1.length c0_1)] 24 (0, 0))) ∧ Aside0 (Below w.heap.size w w'))
            case atStart => exact ⟨(x14_2), (0), (by first | rfl | (simp; done) | (simp [*]; done)), H', ⟨Nat.le_refl _⟩, ⟨by (with_reducible repeat (first | apply Kd.R_alloc | apply Kd.R_drewN | apply Kd.R_drew)); exact HO_14.out⟩, ⟨by (with_reducible repeat (first | apply Kd.R_alloc | apply Kd.R_drewN | apply Kd.R_drew)); exact HO_18.out⟩, ⟨by (with_reducible repeat (first | apply Kd.R_alloc | apply Kd.R_drewN | apply Kd.R_drew)); exact HO_19.out⟩, ⟨by (with_reducible repeat (first | refine blk_drewN ?_ _ | refine blk_drew ?_ | refine blk_alloc ?_ _)); exact BK595.out⟩, ⟨by repeat (first | (with_reducible first | exact HB.out | apply below_alloc | apply pw_below_drewN | apply below_drew1 | refine below_set ?_ GE595.out) | exact HB.out)⟩⟩
            case round =>
             clear H'
             obtain ⟨x14_4, x22_4, rfl, HA, HK4, HO_14, HO_18, HO_19, BK595, HB⟩ := hrel
             have hl14_4 := (Kd.R_reads' HO_14.out).1
             rw [hl14_4] at HO_14
             (try simp only [hl14_4])
             (try simp only [hl14_4] at BK595)
             (try simp only [hl14_4] at HO_18)
             (try simp only [hl14_4] at HO_19)
             cases gk with
             | zero => exact absurd HA.out (by simp [billetref06_Push.l2])
             | succ k4 =>
              have H := HA.out
              clear HA
              simp only [billetref06_Push.l2] at H
              by_cases c43 : x22_4 < (t604.length : Int)
              ·rw [if_pos c43] at H
               have c43b0 : decide (x22_4 < (t604.length : Int)) = true := decide_eq_true c43
               clear c43
               by_cases c44 : 0 ≤ x22_4
               ·rw [if_pos c44] at H
                have c44b0 : decide (0 ≤ x22_4) = true := decide_eq_true c44
                clear c44
                by_cases c45 : x22_4 < (t607.length : Int)
                ·rw [if_pos c45] at H
                 have c45b0 : decide (x22_4 < (t607.length : Int)) = true := decide_eq_true c45
                 clear c45
                 obtain ⟨bq46, hbq46⟩ : ∃ b_ : Bool, b_ = (rdOf false t607 x22_4) := ⟨_, rfl⟩
                 replace H : (if bq46 = true then (if 0 ≤ (rd t604 x22_4) then (if (rd t604 x22_4) < (x14_4.length : Int) then (billetref06_Push.l2 k4 a2 a3 a4 (x14_4.set ((rd t604 x22_4) : Int).toNat (wrap64 ((rd x14_4 (rd t604 x22_4)) + x20_3))) x15_2 t604 t607 x20_3 (wrap64 (x22_4 + 1)) a0_0 l0_1) else (none)) else (none)) else (if 0 ≤ (rd t604 x22_4) then (if (rd t604 x22_4) < (x14_4.length : Int) then (billetref06_Push.l2 k4 a2 a3 a4 (x14_4.set ((rd t604 x22_4) : Int).toNat (wrap64 ((rd x14_4 (rd t604 x22_4)) - x20_3))) x15_2 t604 t607 x20_3 (wrap64 (x22_4 + 1)) a0_0 l0_1) else (none)) else (none))) = some (r1, r2, r3) := by rw [← hbq46] at H; exact H
                 have Nbq46 := Aside0.mk hbq46
                 clear hbq46
                 by_cases c47 : bq46 = true
                 ·subst c47
                  have H1 : (if 0 ≤ (rd t604 x22_4) then (if (rd t604 x22_4) < (x14_4.length : Int) then (billetref06_Push.l2 k4 a2 a3 a4 (x14_4.set ((rd t604 x22_4) : Int).toNat (wrap64 ((rd x14_4 (rd t604 x22_4)) + x20_3))) x15_2 t604 t607 x20_3 (wrap64 (x22_4 + 1)) a0_0 l0_1) else (none)) else (none)) = some (r1, r2, r3) := by rw [if_pos rfl] at H; exact H
                  clear H
                  have H := H1
                  clear H1
                  by_cases c48 : 0 ≤ (rd t604 x22_4)
                  ·rw [if_pos c48] at H
                   have c48b0 : decide (0 ≤ (rd t604 x22_4)) = true := decide_eq_true c48
                   clear c48
                   by_cases c49 : (rd t604 x22_4) < (x14_4.length : Int)
                   ·rw [if_pos c49] at H
                    have c49b0 : decide ((rd t604 x22_4) < (x14_4.length : Int)) = true := decide_eq_true c49
                    clear c49
                    obtain ⟨y621, hy621⟩ : ∃ y_ : List Int, y_ = (x14_4.set ((rd t604 x22_4) : Int).toNat (wrap64 ((rd x14_4 (rd t604 x22_4)) + x20_3))) := ⟨_, rfl⟩
                    replace H : (billetref06_Push.l2 k4 a2 a3 a4 y621 x15_2 t604 t607 x20_3 (wrap64 (x22_4 + 1)) a0_0 l0_1) = some (r1, r2, r3) := by first | (rw [hy621]; with_reducible exact H) | (have H2_ := (Option.bind_some _ _).symm.trans H; rw [hy621]; with_reducible exact H2_) | (have H2_ := (Option.bind_some _ _).symm.trans H; with_reducible exact H2_) | with_reducible exact H | (rw [hy621]; exact H) | exact H
                    have Ny621 := Aside0.mk hy621
                    clear hy621
                    have H' := Aside0.mk H
                    clear H
                    obtain ⟨Ao51, co51, eo51⟩ := Kd.R_slice HO_19.out
                    subst eo51
                    have p617 : 0 ≤ (x22_4 : Int) := of_decide_eq_true (by first | (with_reducible assumption) | assumption)
                    have q617 : x22_4 < (t607.length : Int) := of_decide_eq_true (by first | (with_reducible assumption) | assumption)
                    obtain ⟨ad617, e617, hx617_0⟩ := Kd.at_bool (Kd.R_reads' HO_19.out).2.2 x22_4 p617 q617
                    (try rw [← Nbq46.out] at hx617_0)
                    cases e617
                    replace p617 := eq_true p617
                    replace q617 := eq_true q617
                    try go_wp2
                    have n0_ := Aside0.mk (Kd.R_drew HO_14.out)
                    have n1_ := Aside0.mk (Kd.R_drew HO_18.out)
                    have n2_ := Aside0.mk (Kd.R_drew HO_19.out)
                    have n3_ := Aside0.mk (blk_drew BK595.out)
                    have n4_ := Aside0.mk (below_drew1 HB.out)
                    clear HO_14
                    clear HO_18
                    clear HO_19
                    clear BK595
                    clear HB
                    have HO_14 := n0_
                    have HO_18 := n1_
                    have HO_19 := n2_
                    have BK595 := n3_
                    have HB := n4_
                    clear n0_ n1_ n2_ n3_ n4_
                    have p618 : 0 ≤ (x22_4 : Int) := of_decide_eq_true (by first | (with_reducible assumption) | assumption)
                    have q618 : x22_4 < (t604.length : Int) := of_decide_eq_true (by first | (with_reducible assumption) | assumption)
                    obtain ⟨ad618, e618, hx618_0⟩ := Kd.at_int (Kd.R_reads' HO_18.out).2.2 x22_4 p618 q618
                    cases e618
                    replace p618 := eq_true p618
                    replace q618 := eq_true q618
                    have p619 : 0 ≤ (x22_4 : Int) := of_decide_eq_true (by first | (with_reducible assumption) | assumption)
                    have q619 : x22_4 < (t604.length : Int) := of_decide_eq_true (by first | (with_reducible assumption) | assumption)
                    obtain ⟨ad619, e619, hx619_0⟩ := Kd.at_int (Kd.R_reads' HO_18.out).2.2 x22_4 p619 q619
                    obtain rfl : ad618 = ad619 := (by injection e619)
                    replace p619 := eq_true p619
                    replace q619 := eq_true q619
                    have p620 : 0 ≤ ((rd t604 x22_4) : Int) := of_decide_eq_true (by first | (with_reducible assumption) | assumption)
                    have q620 : (rd t604 x22_4) < (x14_4.length : Int) := of_decide_eq_true (by first | (with_reducible assumption) | assumption)
                    obtain ⟨ad620, e620, hx620_0⟩ := Kd.at_int (Kd.R_reads' HO_14.out).2.2 (rd t604 x22_4) p620 q620
                    cases e620
                    replace p620 := eq_true p620
                    replace q620 := eq_true q620
                    have p50 : 0 ≤ ((rd t604 x22_4) : Int) := of_decide_eq_true (by first | (with_reducible assumption) | assumption)
                    have q50 : ((rd t604 x22_4) : Int) < ((x14_4.length : Int) : Int) := of_decide_eq_true (by first | (with_reducible assumption) | assumption)
                    obtain ⟨go50, co50, eo50, gb50, gl50, cl50, HG50⟩ := Kd.R_form HO_14.out (by omega)
                    (first | cases eo50 | (injection eo50 with ea_ en_ ec_; (first | subst ea_ | (injection ea_ with ea_; subst ea_)); subst ec_; clear en_))
                    have GB50 := Aside0.mk gb50
                    have GG50 := Aside0.mk HG50
                    clear gb50 gl50 HG50
                    (first | simp only [add_plain] at hx620_0 | skip)
                    obtain ⟨hx50_0, hf50_0⟩ := Kd.R_celln 0 HO_14.out ((rd t604 x22_4) : Int) p50 q50
                    replace p50 := eq_true p50
                    replace q50 := eq_true q50
                    have HP53 := Kd.R_putn HO_14.out ((rd t604 x22_4) : Int) (wrap64 ((rd x14_4 (rd t604 x22_4)) + x20_3))
                    rw [← Ny621.out] at HP53
                    have HQ53 := Aside0.mk HP53
                    clear HP53
                    refine start_ (n := 16) (S := fun w' => w'.cell? (ad618.add (x22_4).toNat) = some (.int .i64 (rd t604 x22_4)) ∧ w'.cell? (ad618.add (x22_4).toNat) = some (.int .i64 (rd t604 x22_4)) ∧ w'.cell? ⟨go50, ((rd t604 x22_4)).toNat, none⟩ = some (.int .i64 (rd x14_4 (rd t604 x22_4)))) (ds := [15]) #[fF,fF,fF,fF,fF,fF,fF,fF,fF,fF,fF,fF,fF,fF,fF,fF] (by kernel_rfl) rfl rfl ⟨hx618_0, hx619_0, hx620_0⟩ (fun hHeld => ?_); refine with_tabW billetref06_Push.tab22 billetref06_Push.bits22 (fun HT_ HW_ => ?_)
                    generalize wr.drew = w52 at HO_14 HO_18 HO_19 BK595 HB GG50 HQ53 hf50_0 hx50_0 hx618_0 hx619_0 hx620_0 hHeld ⊢
                    refine pure_ (i := 0) (N := some 109) (v := ?_) (a' := ?_) #[tT,fF,fF,fF,fF,fF,fF,fF,fF,fF,fF,fF,fF,fF,fF,fF] rfl rfl (any_of HT_.out (by kernel_rfl)) (fun _ _ _ h => h) (Or.inl ⟨by rfl, ?_⟩) ?_ ?_; rotate_left; (intro w'; go_simp; with_reducible rfl); rotate_left; (simp only [Act.put, List.setIfInBounds_toArray, List.set_cons_zero, List.set_cons_succ, i64_w, i32_w]; rfl)
                    refine pure_ (i := 1) (N := some 110) (v := ?_) (a' := ?_) #[tT,tT,fF,fF,fF,fF,fF,fF,fF,fF,fF,fF,fF,fF,fF,fF] rfl rfl (any_of HT_.out (by kernel_rfl)) (fun _ _ _ h => h) (Or.inl ⟨by rfl, ?_⟩) ?_ ?_; rotate_left; (intro w'; go_simp; with_reducible rfl); rotate_left; (simp only [Act.put, List.setIfInBounds_toArray, List.set_cons_zero, List.set_cons_succ, i64_w, i32_w]; rfl)
                    refine pure_ (i := 2) (N := some 111) (v := ?_) (a' := ?_) #[tT,tT,tT,fF,fF,fF,fF,fF,fF,fF,fF,fF,fF,fF,fF,fF] rfl rfl (any_of HT_.out (by kernel_rfl)) (fun _ _ _ h => h) (Or.inl ⟨by rfl, ?_⟩) ?_ ?_; rotate_left; (intro w'; go_simp; with_reducible rfl); rotate_left; (simp only [Act.put, List.setIfInBounds_toArray, List.set_cons_zero, List.set_cons_succ, i64_w, i32_w]; rfl)
                    refine pure_ (i := 3) (N := some 112) (v := ?_) (a' := ?_) #[tT,tT,tT,tT,fF,fF,fF,fF,fF,fF,fF,fF,fF,fF,fF,fF] rfl rfl (any_of HT_.out (by kernel_rfl)) (fun _ _ _ h => h) (Or.inl ⟨by rfl, ?_⟩) ?_ ?_; rotate_left; (intro w'; go_simp; with_reducible rfl); rotate_left; (simp only [Act.put, List.setIfInBounds_toArray, List.set_cons_zero, List.set_cons_succ, i64_w, i32_w]; rfl)
                    refine pure_ (i := 5) (N := some 114) (v := ?_) (a' := ?_) #[tT,tT,tT,tT,fF,tT,fF,fF,fF,fF,fF,fF,fF,fF,fF,fF] rfl rfl (any_of HT_.out (by kernel_rfl)) (fun _ _ _ h => h) (Or.inl ⟨by rfl, ?_⟩) ?_ ?_; rotate_left; (intro w'; go_simp; with_reducible rfl); rotate_left; (simp only [Act.put, List.setIfInBounds_toArray, List.set_cons_zero, List.set_cons_succ, i64_w, i32_w]; rfl)
                    refine pure_ (i := 6) (N := some 115) (v := ?_) (a' := ?_) #[tT,tT,tT,tT,fF,tT,tT,fF,fF,fF,fF,fF,fF,fF,fF,fF] rfl rfl (any_of HT_.out (by kernel_rfl)) (fun _ _ _ h => h) (Or.inl ⟨by rfl, ?_⟩) ?_ ?_; rotate_left; (intro w'; go_simp; with_reducible rfl); rotate_left; (simp only [Act.put, List.setIfInBounds_toArray, List.set_cons_zero, List.set_cons_succ, i64_w, i32_w]; rfl)
                    refine pure_ (i := 7) (N := some 116) (v := ?_) (a' := ?_) #[tT,tT,tT,tT,fF,tT,tT,tT,fF,fF,fF,fF,fF,fF,fF,fF] rfl rfl (any_of HT_.out (by kernel_rfl)) (fun _ _ _ h => h) (Or.inl ⟨by rfl, ?_⟩) ?_ ?_; rotate_left; (intro w'; go_simp; with_reducible rfl); rotate_left; (simp only [Act.put, List.setIfInBounds_toArray, List.set_cons_zero, List.set_cons_succ, i64_w, i32_w]; rfl)
                    refine pure_ (i := 8) (N := some 117) (v := ?_) (a' := ?_) #[tT,tT,tT,tT,fF,tT,tT,tT,tT,fF,fF,fF,fF,fF,fF,fF] rfl rfl (any_of HT_.out (by kernel_rfl)) (fun _ _ _ h => h) (Or.inl ⟨by rfl, ?_⟩) ?_ ?_; rotate_left; (intro w'; go_simp; with_reducible rfl); rotate_left; (simp only [Act.put, List.setIfInBounds_toArray, List.set_cons_zero, List.set_cons_succ, i64_w, i32_w]; rfl)
                    refine pure_ (i := 12) (N := some 121) (v := ?_) (a' := ?_) #[tT,tT,tT,tT,fF,tT,tT,tT,tT,fF,fF,fF,tT,fF,fF,fF] rfl rfl (any_of HT_.out (by kernel_rfl)) (fun _ _ _ h => h) (Or.inl ⟨by rfl, ?_⟩) ?_ ?_; rotate_left; (intro w'; go_simp; with_reducible rfl); rotate_left; (simp only [Act.put, List.setIfInBounds_toArray, List.set_cons_zero, List.set_cons_succ, i64_w, i32_w]; rfl)
                    refine take_ (i := 4) (N := some 113) (v := ?_) (a' := ?_) #[tT,tT,tT,tT,tT,tT,tT,tT,tT,fF,fF,fF,tT,fF,fF,fF] rfl rfl (take_ofW HT_.out HW_.out (by kernel_rfl)) (fun _ _ _ h => h) (Or.inl ⟨by rfl, ?_⟩) hHeld ?_ ?_; rotate_left; (rintro w' ⟨s0, s1, s2⟩; go_simp; with_reducible rfl); rotate_left; (simp only [Act.put, List.setIfInBounds_toArray, List.set_cons_zero, List.set_cons_succ, i64_w, i32_w]; rfl)
                    refine take_ (i := 9) (N := some 118) (v := ?_) (a' := ?_) #[tT,tT,tT,tT,tT,tT,tT,tT,tT,tT,fF,fF,tT,fF,fF,fF] rfl rfl (take_ofW HT_.out HW_.out (by kernel_rfl)) (fun _ _ _ h => h) (Or.inl ⟨by rfl, ?_⟩) hHeld ?_ ?_; rotate_left; (rintro w' ⟨s0, s1, s2⟩; go_simp; with_reducible rfl); rotate_left; (simp only [Act.put, List.setIfInBounds_toArray, List.set_cons_zero, List.set_cons_succ, i64_w, i32_w]; rfl)
                    refine pure_ (i := 10) (N := some 119) (v := ?_) (a' := ?_) #[tT,tT,tT,tT,tT,tT,tT,tT,tT,tT,tT,fF,tT,fF,fF,fF] rfl rfl (any_of HT_.out (by kernel_rfl)) (fun _ _ _ h => h) (Or.inl ⟨by rfl, ?_⟩) ?_ ?_; rotate_left; (intro w'; go_simp; with_reducible rfl); rotate_left; (simp only [Act.put, List.setIfInBounds_toArray, List.set_cons_zero, List.set_cons_succ, i64_w, i32_w]; rfl)
                    refine take_ (i := 11) (N := some 120) (v := ?_) (a' := ?_) #[tT,tT,tT,tT,tT,tT,tT,tT,tT,tT,tT,tT,tT,fF,fF,fF] rfl rfl (take_ofW HT_.out HW_.out (by kernel_rfl)) (fun _ _ _ h => h) (Or.inl ⟨by rfl, ?_⟩) hHeld ?_ ?_; rotate_left; (rintro w' ⟨s0, s1, s2⟩; go_simp; with_reducible rfl); rotate_left; (simp only [Act.put, List.setIfInBounds_toArray, List.set_cons_zero, List.set_cons_succ, i64_w, i32_w]; rfl)
                    refine pure_ (i := 13) (N := some 122) (v := ?_) (a' := ?_) #[tT,tT,tT,tT,tT,tT,tT,tT,tT,tT,tT,tT,tT,tT,fF,fF] rfl rfl (any_of HT_.out (by kernel_rfl)) (fun _ _ _ h => h) (Or.inl ⟨by rfl, ?_⟩) ?_ ?_; rotate_left; (intro w'; go_simp; with_reducible rfl); rotate_left; (simp only [Act.put, List.setIfInBounds_toArray, List.set_cons_zero, List.set_cons_succ, i64_w, i32_w]; rfl)
                    refine pure_ (i := 14) (N := some 123) (v := ?_) (a' := ?_) #[tT,tT,tT,tT,tT,tT,tT,tT,tT,tT,tT,tT,tT,tT,tT,fF] rfl rfl (any_of HT_.out (by kernel_rfl)) (fun _ _ _ h => h) (Or.inl ⟨by rfl, ?_⟩) ?_ ?_; rotate_left; (intro w'; go_simp; with_reducible rfl); rotate_left; (simp only [Act.put, List.setIfInBounds_toArray, List.set_cons_zero, List.set_cons_succ, i64_w, i32_w]; rfl)
                    refine last_ (i := 15) (N := none) #[tT,tT,tT,tT,tT,tT,tT,tT,tT,tT,tT,tT,tT,tT,tT,tT] rfl rfl (one_of HT_.out (by kernel_rfl)) (by decide) (fun K hK => ?_)
                    refine skip_ (w1 := ?_) (by rfl) rfl ?_ ?_
                    rotate_left
                    ·go_simp
                     rfl
                    refine hK.out _ _ ?_
                    clear hK K
                    refine done_ (done_of HT_.out (by kernel_rfl)) ?_
                    try go_wp2
                    (try simp only [← hl14_4])
                    go_roundg k4
                    case measure => have := HJ6.out; have := HK2.out; have := HK3.out; have := HK4.out; omega
                    case rel => exact ⟨(y621), (wrap64 (x22_4 + 1)), (by first | rfl | (simp; done) | (simp [*]; done)), H', ⟨by have := HJ6.out; have := HK2.out; have := HK3.out; have := HK4.out; omega⟩, ⟨by (try simp only [hl14_4]); (with_reducible repeat (first | apply Kd.R_alloc | apply Kd.R_drewN | apply Kd.R_drew)); exact HQ53.out⟩, ⟨by (try simp only [hl14_4]); (with_reducible repeat (first | apply Kd.R_alloc | apply Kd.R_drewN | apply Kd.R_drew)); exact Kd.R_mono (Kd.R_far (p := ⟨go50, ((rd t604 x22_4) : Int).toNat, none⟩) (Kd.R_mono HO_18.out (fun k_ hk => (⟨hk, fun e_ => hk (by rw [e_]; rfl)⟩ : _ ∧ k_ ≠ go50))) (fun _ hk => hk.2) (.int .i64 (wrap64 ((rd x14_4 (rd t604 x22_4)) + x20_3)))) (fun _ hk => hk.1)⟩, ⟨by (try simp only [hl14_4]); (with_reducible repeat (first | apply Kd.R_alloc | apply Kd.R_drewN | apply Kd.R_drew)); exact Kd.R_mono (Kd.R_far (p := ⟨go50, ((rd t604 x22_4) : Int).toNat, none⟩) (Kd.R_types HO_19.out GG50.out (by decide)) (fun _ hk => hk.2) (.int .i64 (wrap64 ((rd x14_4 (rd t604 x22_4)) + x20_3)))) (fun _ hk => trivial)⟩, ⟨by (try simp only [hl14_4]); (with_reducible repeat (first | refine blk_drewN ?_ _ | refine blk_drew ?_ | refine blk_alloc ?_ _)); refine blk_far ?_ (by have h_ := Kd.R_ne HO_14.out BK595.out (by decide); intro e_; exact h_ (by rw [e_]; rfl)) _; (with_reducible repeat (first | refine blk_drewN ?_ _ | refine blk_drew ?_ | refine blk_alloc ?_ _)); exact BK595.out⟩, ⟨by repeat (first | (with_reducible first | exact HB.out | apply below_alloc | apply pw_below_drewN | apply below_drew1 | refine below_set ?_ GB50.out | refine below_set ?_ GE595.out) | exact HB.out)⟩⟩
                   ·rw [if_neg c49] at H
                    exact absurd H (by simp)
                  ·rw [if_neg c48] at H
                   exact absurd H (by simp)
                 ·replace c47 := Bool.eq_false_iff.mpr c47
                  subst c47
                  have H1 : (if 0 ≤ (rd t604 x22_4) then (if (rd t604 x22_4) < (x14_4.length : Int) then (billetref06_Push.l2 k4 a2 a3 a4 (x14_4.set ((rd t604 x22_4) : Int).toNat (wrap64 ((rd x14_4 (rd t604 x22_4)) - x20_3))) x15_2 t604 t607 x20_3 (wrap64 (x22_4 + 1)) a0_0 l0_1) else (none)) else (none)) = some (r1, r2, r3) := by rw [if_neg (show ¬ (false = true) by decide)] at H; exact H
                  clear H
                  have H := H1
                  clear H1
                  by_cases c54 : 0 ≤ (rd t604 x22_4)
                  ·rw [if_pos c54] at H
                   have c54b0 : decide (0 ≤ (rd t604 x22_4)) = true := decide_eq_true c54
                   clear c54
                   by_cases c55 : (rd t604 x22_4) < (x14_4.length : Int)
                   ·rw [if_pos c55] at H
                    have c55b0 : decide ((rd t604 x22_4) < (x14_4.length : Int)) = true := decide_eq_true c55
                    clear c55
                    obtain ⟨y625, hy625⟩ : ∃ y_ : List Int, y_ = (x14_4.set ((rd t604 x22_4) : Int).toNat (wrap64 ((rd x14_4 (rd t604 x22_4)) - x20_3))) := ⟨_, rfl⟩
                    replace H : (billetref06_Push.l2 k4 a2 a3 a4 y625 x15_2 t604 t607 x20_3 (wrap64 (x22_4 + 1)) a0_0 l0_1) = some (r1, r2, r3) := by first | (rw [hy625]; with_reducible exact H) | (have H2_ := (Option.bind_some _ _).symm.trans H; rw [hy625]; with_reducible exact H2_) | (have H2_ := (Option.bind_some _ _).symm.trans H; with_reducible exact H2_) | with_reducible exact H | (rw [hy625]; exact H) | exact H
                    have Ny625 := Aside0.mk hy625
                    clear hy625
                    have H' := Aside0.mk H
                    clear H
                    obtain ⟨Ao57, co57, eo57⟩ := Kd.R_slice HO_19.out
                    subst eo57
                    have p617 : 0 ≤ (x22_4 : Int) := of_decide_eq_true (by first | (with_reducible assumption) | assumption)
                    have q617 : x22_4 < (t607.length : Int) := of_decide_eq_true (by first | (with_reducible assumption) | assumption)
                    obtain ⟨ad617, e617, hx617_0⟩ := Kd.at_bool (Kd.R_reads' HO_19.out).2.2 x22_4 p617 q617
                    (try rw [← Nbq46.out] at hx617_0)
                    cases e617
                    replace p617 := eq_true p617
                    replace q617 := eq_true q617
                    try go_wp2
                    have n0_ := Aside0.mk (Kd.R_drew HO_14.out)
                    have n1_ := Aside0.mk (Kd.R_drew HO_18.out)
                    have n2_ := Aside0.mk (Kd.R_drew HO_19.out)
                    have n3_ := Aside0.mk (blk_drew BK595.out)
                    have n4_ := Aside0.mk (below_drew1 HB.out)
                    clear HO_14
                    clear HO_18
                    clear HO_19
                    clear BK595
                    clear HB
                    have HO_14 := n0_
                    have HO_18 := n1_
                    have HO_19 := n2_
                    have BK595 := n3_
                    have HB := n4_
                    clear n0_ n1_ n2_ n3_ n4_
                    have p622 : 0 ≤ (x22_4 : Int) := of_decide_eq_true (by first | (with_reducible assumption) | assumption)
                    have q622 : x22_4 < (t604.length : Int) := of_decide_eq_true (by first | (with_reducible assumption) | assumption)
                    obtain ⟨ad622, e622, hx622_0⟩ := Kd.at_int (Kd.R_reads' HO_18.out).2.2 x22_4 p622 q622
                    cases e622
                    replace p622 := eq_true p622
                    replace q622 := eq_true q622
                    have p623 : 0 ≤ (x22_4 : Int) := of_decide_eq_true (by first | (with_reducible assumption) | assumption)
                    have q623 : x22_4 < (t604.length : Int) := of_decide_eq_true (by first | (with_reducible assumption) | assumption)
                    obtain ⟨ad623, e623, hx623_0⟩ := Kd.at_int (Kd.R_reads' HO_18.out).2.2 x22_4 p623 q623
                    obtain rfl : ad622 = ad623 := (by injection e623)
                    replace p623 := eq_true p623
                    replace q623 := eq_true q623
                    have p624 : 0 ≤ ((rd t604 x22_4) : Int) := of_decide_eq_true (by first | (with_reducible assumption) | assumption)
                    have q624 : (rd t604 x22_4) < (x14_4.length : Int) := of_decide_eq_true (by first | (with_reducible assumption) | assumption)
                    obtain ⟨ad624, e624, hx624_0⟩ := Kd.at_int (Kd.R_reads' HO_14.out).2.2 (rd t604 x22_4) p624 q624
                    cases e624
                    replace p624 := eq_true p624
                    replace q624 := eq_true q624
                    have p56 : 0 ≤ ((rd t604 x22_4) : Int) := of_decide_eq_true (by first | (with_reducible assumption) | assumption)
                    have q56 : ((rd t604 x22_4) : Int) < ((x14_4.length : Int) : Int) := of_decide_eq_true (by first | (with_reducible assumption) | assumption)
                    obtain ⟨go56, co56, eo56, gb56, gl56, cl56, HG56⟩ := Kd.R_form HO_14.out (by omega)
                    (first | cases eo56 | (injection eo56 with ea_ en_ ec_; (first | subst ea_ | (injection ea_ with ea_; subst ea_)); subst ec_; clear en_))
                    have GB56 := Aside0.mk gb56
                    have GG56 := Aside0.mk HG56
                    clear gb56 gl56 HG56
                    (first | simp only [add_plain] at hx624_0 | skip)
                    obtain ⟨hx56_0, hf56_0⟩ := Kd.R_celln 0 HO_14.out ((rd t604 x22_4) : Int) p56 q56
                    replace p56 := eq_true p56
                    replace q56 := eq_true q56
                    have HP59 := Kd.R_putn HO_14.out ((rd t604 x22_4) : Int) (wrap64 ((rd x14_4 (rd t604 x22_4)) - x20_3))
                    rw [← Ny625.out] at HP59
                    have HQ59 := Aside0.mk HP59
                    clear HP59
                    refine start_ (n := 16) (S := fun w' => w'.cell? (ad622.add (x22_4).toNat) = some (.int .i64 (rd t604 x22_4)) ∧ w'.cell? (ad622.add (x22_4).toNat) = some (.int .i64 (rd t604 x22_4)) ∧ w'.cell? ⟨go56, ((rd t604 x22_4)).toNat, none⟩ = some (.int .i64 (rd x14_4 (rd t604 x22_4)))) (ds := [15]) #[fF,fF,fF,fF,fF,fF,fF,fF,fF,fF,fF,fF,fF,fF,fF,fF] (by kernel_rfl) rfl rfl ⟨hx622_0, hx623_0, hx624_0⟩ (fun hHeld => ?_); refine with_tabW billetref06_Push.tab23 billetref06_Push.bits23 (fun HT_ HW_ => ?_)
                    generalize wr.drew = w58 at HO_14 HO_18 HO_19 BK595 HB GG56 HQ59 hf56_0 hx56_0 hx622_0 hx623_0 hx624_0 hHeld ⊢
                    refine pure_ (i := 0) (N := some 124) (v := ?_) (a' := ?_) #[tT,fF,fF,fF,fF,fF,fF,fF,fF,fF,fF,fF,fF,fF,fF,fF] rfl rfl (any_of HT_.out (by kernel_rfl)) (fun _ _ _ h => h) (Or.inl ⟨by rfl, ?_⟩) ?_ ?_; rotate_left; (intro w'; go_simp; with_reducible rfl); rotate_left; (simp only [Act.put, List.setIfInBounds_toArray, List.set_cons_zero, List.set_cons_succ, i64_w, i32_w]; rfl)
                    refine pure_ (i := 1) (N := some 125) (v := ?_) (a' := ?_) #[tT,tT,fF,fF,fF,fF,fF,fF,fF,fF,fF,fF,fF,fF,fF,fF] rfl rfl (any_of HT_.out (by kernel_rfl)) (fun _ _ _ h => h) (Or.inl ⟨by rfl, ?_⟩) ?_ ?_; rotate_left; (intro w'; go_simp; with_reducible rfl); rotate_left; (simp only [Act.put, List.setIfInBounds_toArray, List.set_cons_zero, List.set_cons_succ, i64_w, i32_w]; rfl)
                    refine pure_ (i := 2) (N := some 126) (v := ?_) (a' := ?_) #[tT,tT,tT,fF,fF,fF,fF,fF,fF,fF,fF,fF,fF,fF,fF,fF] rfl rfl (any_of HT_.out (by kernel_rfl)) (fun _ _ _ h => h) (Or.inl ⟨by rfl, ?_⟩) ?_ ?_; rotate_left; (intro w'; go_simp; with_reducible rfl); rotate_left; (simp only [Act.put, List.setIfInBounds_toArray, List.set_cons_zero, List.set_cons_succ, i64_w, i32_w]; rfl)
                    refine pure_ (i := 3) (N := some 127) (v := ?_) (a' := ?_) #[tT,tT,tT,tT,fF,fF,fF,fF,fF,fF,fF,fF,fF,fF,fF,fF] rfl rfl (any_of HT_.out (by kernel_rfl)) (fun _ _ _ h => h) (Or.inl ⟨by rfl, ?_⟩) ?_ ?_; rotate_left; (intro w'; go_simp; with_reducible rfl); rotate_left; (simp only [Act.put, List.setIfInBounds_toArray, List.set_cons_zero, List.set_cons_succ, i64_w, i32_w]; rfl)
                    refine pure_ (i := 5) (N := some 129) (v := ?_) (a' := ?_) #[tT,tT,tT,tT,fF,tT,fF,fF,fF,fF,fF,fF,fF,fF,fF,fF] rfl rfl (any_of HT_.out (by kernel_rfl)) (fun _ _ _ h => h) (Or.inl ⟨by rfl, ?_⟩) ?_ ?_; rotate_left; (intro w'; go_simp; with_reducible rfl); rotate_left; (simp only [Act.put, List.setIfInBounds_toArray, List.set_cons_zero, List.set_cons_succ, i64_w, i32_w]; rfl)
                    refine pure_ (i := 6) (N := some 130) (v := ?_) (a' := ?_) #[tT,tT,tT,tT,fF,tT,tT,fF,fF,fF,fF,fF,fF,fF,fF,fF] rfl rfl (any_of HT_.out (by kernel_rfl)) (fun _ _ _ h => h) (Or.inl ⟨by rfl, ?_⟩) ?_ ?_; rotate_left; (intro w'; go_simp; with_reducible rfl); rotate_left; (simp only [Act.put, List.setIfInBounds_toArray, List.set_cons_zero, List.set_cons_succ, i64_w, i32_w]; rfl)
                    refine pure_ (i := 7) (N := some 131) (v := ?_) (a' := ?_) #[tT,tT,tT,tT,fF,tT,tT,tT,fF,fF,fF,fF,fF,fF,fF,fF] rfl rfl (any_of HT_.out (by kernel_rfl)) (fun _ _ _ h => h) (Or.inl ⟨by rfl, ?_⟩) ?_ ?_; rotate_left; (intro w'; go_simp; with_reducible rfl); rotate_left; (simp only [Act.put, List.setIfInBounds_toArray, List.set_cons_zero, List.set_cons_succ, i64_w, i32_w]; rfl)
                    refine pure_ (i := 8) (N := some 132) (v := ?_) (a' := ?_) #[tT,tT,tT,tT,fF,tT,tT,tT,tT,fF,fF,fF,fF,fF,fF,fF] rfl rfl (any_of HT_.out (by kernel_rfl)) (fun _ _ _ h => h) (Or.inl ⟨by rfl, ?_⟩) ?_ ?_; rotate_left; (intro w'; go_simp; with_reducible rfl); rotate_left; (simp only [Act.put, List.setIfInBounds_toArray, List.set_cons_zero, List.set_cons_succ, i64_w, i32_w]; rfl)
                    refine pure_ (i := 12) (N := some 136) (v := ?_) (a' := ?_) #[tT,tT,tT,tT,fF,tT,tT,tT,tT,fF,fF,fF,tT,fF,fF,fF] rfl rfl (any_of HT_.out (by kernel_rfl)) (fun _ _ _ h => h) (Or.inl ⟨by rfl, ?_⟩) ?_ ?_; rotate_left; (intro w'; go_simp; with_reducible rfl); rotate_left; (simp only [Act.put, List.setIfInBounds_toArray, List.set_cons_zero, List.set_cons_succ, i64_w, i32_w]; rfl)
                    refine take_ (i := 4) (N := some 128) (v := ?_) (a' := ?_) #[tT,tT,tT,tT,tT,tT,tT,tT,tT,fF,fF,fF,tT,fF,fF,fF] rfl rfl (take_ofW HT_.out HW_.out (by kernel_rfl)) (fun _ _ _ h => h) (Or.inl ⟨by rfl, ?_⟩) hHeld ?_ ?_; rotate_left; (rintro w' ⟨s0, s1, s2⟩; go_simp; with_reducible rfl); rotate_left; (simp only [Act.put, List.setIfInBounds_toArray, List.set_cons_zero, List.set_cons_succ, i64_w, i32_w]; rfl)
                    refine take_ (i := 9) (N := some 133) (v := ?_) (a' := ?_) #[tT,tT,tT,tT,tT,tT,tT,tT,tT,tT,fF,fF,tT,fF,fF,fF] rfl rfl (take_ofW HT_.out HW_.out (by kernel_rfl)) (fun _ _ _ h => h) (Or.inl ⟨by rfl, ?_⟩) hHeld ?_ ?_; rotate_left; (rintro w' ⟨s0, s1, s2⟩; go_simp; with_reducible rfl); rotate_left; (simp only [Act.put, List.setIfInBounds_toArray, List.set_cons_zero, List.set_cons_succ, i64_w, i32_w]; rfl)
                    refine pure_ (i := 10) (N := some 134) (v := ?_) (a' := ?_) #[tT,tT,tT,tT,tT,tT,tT,tT,tT,tT,tT,fF,tT,fF,fF,fF] rfl rfl (any_of HT_.out (by kernel_rfl)) (fun _ _ _ h => h) (Or.inl ⟨by rfl, ?_⟩) ?_ ?_; rotate_left; (intro w'; go_simp; with_reducible rfl); rotate_left; (simp only [Act.put, List.setIfInBounds_toArray, List.set_cons_zero, List.set_cons_succ, i64_w, i32_w]; rfl)
                    refine take_ (i := 11) (N := some 135) (v := ?_) (a' := ?_) #[tT,tT,tT,tT,tT,tT,tT,tT,tT,tT,tT,tT,tT,fF,fF,fF] rfl rfl (take_ofW HT_.out HW_.out (by kernel_rfl)) (fun _ _ _ h => h) (Or.inl ⟨by rfl, ?_⟩) hHeld ?_ ?_; rotate_left; (rintro w' ⟨s0, s1, s2⟩; go_simp; with_reducible rfl); rotate_left; (simp only [Act.put, List.setIfInBounds_toArray, List.set_cons_zero, List.set_cons_succ, i64_w, i32_w]; rfl)
                    refine pure_ (i := 13) (N := some 137) (v := ?_) (a' := ?_) #[tT,tT,tT,tT,tT,tT,tT,tT,tT,tT,tT,tT,tT,tT,fF,fF] rfl rfl (any_of HT_.out (by kernel_rfl)) (fun _ _ _ h => h) (Or.inl ⟨by rfl, ?_⟩) ?_ ?_; rotate_left; (intro w'; go_simp; with_reducible rfl); rotate_left; (simp only [Act.put, List.setIfInBounds_toArray, List.set_cons_zero, List.set_cons_succ, i64_w, i32_w]; rfl)
                    refine pure_ (i := 14) (N := some 138) (v := ?_) (a' := ?_) #[tT,tT,tT,tT,tT,tT,tT,tT,tT,tT,tT,tT,tT,tT,tT,fF] rfl rfl (any_of HT_.out (by kernel_rfl)) (fun _ _ _ h => h) (Or.inl ⟨by rfl, ?_⟩) ?_ ?_; rotate_left; (intro w'; go_simp; with_reducible rfl); rotate_left; (simp only [Act.put, List.setIfInBounds_toArray, List.set_cons_zero, List.set_cons_succ, i64_w, i32_w]; rfl)
                    refine last_ (i := 15) (N := none) #[tT,tT,tT,tT,tT,tT,tT,tT,tT,tT,tT,tT,tT,tT,tT,tT] rfl rfl (one_of HT_.out (by kernel_rfl)) (by decide) (fun K hK => ?_)
                    refine skip_ (w1 := ?_) (by rfl) rfl ?_ ?_
                    rotate_left
                    ·go_simp
                     rfl
                    refine hK.out _ _ ?_
                    clear hK K
                    refine done_ (done_of HT_.out (by kernel_rfl)) ?_
                    try go_wp2
                    (try simp only [← hl14_4])
                    go_roundg k4
                    case measure => have := HJ6.out; have := HK2.out; have := HK3.out; have := HK4.out; omega
                    case rel => exact ⟨(y625), (wrap64 (x22_4 + 1)), (by first | rfl | (simp; done) | (simp [*]; done)), H', ⟨by have := HJ6.out; have := HK2.out; have := HK3.out; have := HK4.out; omega⟩, ⟨by (try simp only [hl14_4]); (with_reducible repeat (first | apply Kd.R_alloc | apply Kd.R_drewN | apply Kd.R_drew)); exact HQ59.out⟩, ⟨by (try simp only [hl14_4]); (with_reducible repeat (first | apply Kd.R_alloc | apply Kd.R_drewN | apply Kd.R_drew)); exact Kd.R_mono (Kd.R_far (p := ⟨go56, ((rd t604 x22_4) : Int).toNat, none⟩) (Kd.R_mono HO_18.out (fun k_ hk => (⟨hk, fun e_ => hk (by rw [e_]; rfl)⟩ : _ ∧ k_ ≠ go56))) (fun _ hk => hk.2) (.int .i64 (wrap64 ((rd x14_4 (rd t604 x22_4)) - x20_3)))) (fun _ hk => hk.1)⟩, ⟨by (try simp only [hl14_4]); (with_reducible repeat (first | apply Kd.R_alloc | apply Kd.R_drewN | apply Kd.R_drew)); exact Kd.R_mono (Kd.R_far (p := ⟨go56, ((rd t604 x22_4) : Int).toNat, none⟩) (Kd.R_types HO_19.out GG56.out (by decide)) (fun _ hk => hk.2) (.int .i64 (wrap64 ((rd x14_4 (rd t604 x22_4)) - x20_3)))) (fun _ hk => trivial)⟩, ⟨by (try simp only [hl14_4]); (with_reducible repeat (first | refine blk_drewN ?_ _ | refine blk_drew ?_ | refine blk_alloc ?_ _)); refine blk_far ?_ (by have h_ := Kd.R_ne HO_14.out BK595.out (by decide); intro e_; exact h_ (by rw [e_]; rfl)) _; (with_reducible repeat (first | refine blk_drewN ?_ _ | refine blk_drew ?_ | refine blk_alloc ?_ _)); exact BK595.out⟩, ⟨by repeat (first | (with_reducible first | exact HB.out | apply below_alloc | apply pw_below_drewN | apply below_drew1 | refine below_set ?_ GB56.out | refine below_set ?_ GE595.out) | exact HB.out)⟩⟩
                   ·rw [if_neg c55] at H
                    exact absurd H (by simp)
                  ·rw [if_neg c54] at H
                   exact absurd H (by simp)
                ·rw [if_neg c45] at H
                 exact absurd H (by simp)
               ·rw [if_neg c44] at H
                exact absurd H (by simp)
              ·rw [if_neg c43] at H
               have c43b0 : decide (x22_4 < (t604.length : Int)) = false := decide_eq_false c43
               clear c43
               have H' := Aside0.mk H
               clear H
               go_wp2
               (try simp only [← hl14_4])
               go_roundg k4
               case measure => have := HJ6.out; have := HK2.out; have := HK3.out; have := HK4.out; omega
               case rel => exact ⟨(x14_4), (wrap64 (x15_2 + x20_3)), (by first | rfl | (simp; done) | (simp [*]; done)), H', ⟨by have := HJ6.out; have := HK2.out; have := HK3.out; have := HK4.out; omega⟩, ⟨by (try simp only [hl14_4]); (with_reducible repeat (first | apply Kd.R_alloc | apply Kd.R_drewN | apply Kd.R_drew)); exact Kd.R_mono HO_14.out (fun _ hk => trivial)⟩, ⟨by (try simp only [hl14_4]); (with_reducible repeat (first | refine blk_drewN ?_ _ | refine blk_drew ?_ | refine blk_alloc ?_ _)); exact BK595.out⟩, ⟨by repeat (first | (with_reducible first | exact HB.out | apply below_alloc | apply pw_below_drewN | apply below_drew1 | refine below_set ?_ GE595.out) | exact HB.out)⟩⟩
        ·replace c17 := Bool.eq_false_iff.mpr c17
         subst c17
         have H1 : (some (x14_2, x15_2, 0)) = some (r1, r2, r3) := by rw [if_neg (show ¬ (false = true) by decide)] at H; exact H
         clear H
         have H := H1
         clear H1
         simp only [Option.some.injEq, Prod.mk.injEq] at H
         obtain ⟨rfl, rfl, rfl⟩ := H
         have hcz60_0 : wr.cell? ⟨gb595, 0, none⟩ = some (.int .i64 a0_0) := (blk_cell BK595.out 0).trans rfl
         have hcz60_1 : wr.cell? ⟨gb595, 1, none⟩ = some (.slice A0_1 l0_1.length c0_1) := (blk_cell BK595.out 1).trans rfl
         have hfz60_0 := blk_frozen BK595.out 0
         have hfz60_1 := blk_frozen BK595.out 1
         obtain ⟨Ao61, co61, eo61⟩ := Kd.R_slice HO_14.out
         subst eo61
         go_wp2_with (first | ((with_reducible refine gate_callee (f := 55) rfl ?_); refine goesL_ (some 45) rfl rfl Try.func55 (by kernel_rfl) rfl #[.agg #[.int .i64 a0_0, .slice A0_1 l0_1.length c0_1], .slice Ao61 x14_2.length co61, .int .i64 a2, .int .i64 a3] rfl (by (try simp only [List.map_toArray, List.map_cons, List.map_nil]); first | done | rfl | (simp only [List.length_drop, List.length_take]; rfl)) ?_; (with_reducible refine (billetref06_way.calls k2 a0_0 _ _ l0_1 _ _ x14_2 a2 a3 t600 false _ ?side1 ?side2 ?side3 ?side4 A16.out).mono ?_); (case side1 => repeat (first | exact (Kd.C_below HR0_1.out HB.out) | (with_reducible refine Kd.C_alloc ?_ _) | (with_reducible refine Kd.C_drewN ?_ _) | (with_reducible refine Kd.C_drew ?_))); (case side2 => exact HC0_1.out); (case side3 => repeat (first | exact (Kd.R_reads' HO_14.out).2.2 | (with_reducible refine Kd.C_alloc ?_ _) | (with_reducible refine Kd.C_drewN ?_ _) | (with_reducible refine Kd.C_drew ?_))); (case side4 => exact (Kd.R_reads' HO_14.out).2.1); rintro e w62 ⟨v601, rfl, ho0, hb⟩; refine ⟨_, rfl, ?_⟩; have n0_ := Aside0.mk (Kd.R_elder' (by (with_reducible repeat (first | apply Kd.R_alloc | apply Kd.R_drewN | apply Kd.R_drew)); exact HO_14.out) (Kd.R_base ho0) hb); have n1_ := Aside0.mk (Kd.R_lower (Kd.R_new' ho0 (Kd.R_lt (by (with_reducible repeat (first | apply Kd.R_alloc | apply Kd.R_drewN | apply Kd.R_drew)); exact HO_14.out))) (below_size (by repeat (first | (with_reducible first | exact HB.out | apply below_alloc | apply pw_below_drewN | apply below_drew1 | refine below_set ?_ GE595.out) | exact HB.out)))); have n2_ := Aside0.mk (blk_below (g := gb595) (o := .cells #[.int .i64 a0_0, .slice A0_1 l0_1.length c0_1] 24 (0, 0)) (by (with_reducible repeat (first | refine blk_drewN ?_ _ | refine blk_drew ?_ | refine blk_alloc ?_ _)); exact BK595.out) hb); have n3_ := Aside0.mk (below_step (by repeat (first | (with_reducible first | exact HB.out | apply below_alloc | apply pw_below_drewN | apply below_drew1 | refine below_set ?_ GE595.out) | exact HB.out)) hb); clear HO_14; clear BK595; clear HB; have HO_14 := n0_; have HO602 := n1_; have BK595 := n2_; have HB := n3_; clear n0_ n1_ n2_ n3_; (try clear hb); (try clear hb2); (try clear hk); (try clear hi); (try clear ho0)))
         go_ret3
         exact ⟨_, by first | rfl | (simp [errW_none, errW_some] <;> rfl) | (simp [*, errW_none, errW_some] <;> rfl), by (with_reducible repeat (first | apply Kd.R_alloc | apply Kd.R_drewN | apply Kd.R_drew)); exact Kd.R_mono HO_14.out (fun _ hk => trivial), by repeat (first | (with_reducible first | exact HB.out | apply below_alloc | apply pw_below_drewN | apply below_drew1 | refine below_set ?_ GE595.out) | exact HB.out)⟩
       ·rw [if_neg c15] at H
        have c15b0 : decide (x15_2 < a4) = false := decide_eq_false c15
        clear c15
        simp only [Option.some.injEq, Prod.mk.injEq] at H
        obtain ⟨rfl, rfl, rfl⟩ := H
        go_wp2
        go_ret3
        exact ⟨_, by first | rfl | (simp [errW_none, errW_some] <;> rfl) | (simp [*, errW_none, errW_some] <;> rfl), by (with_reducible repeat (first | apply Kd.R_alloc | apply Kd.R_drewN | apply Kd.R_drew)); exact HO_14.out, by repeat (first | (with_reducible first | exact HB.out | apply below_alloc | apply pw_below_drewN | apply below_drew1 | refine below_set ?_ GE595.out) | exact HB.out)⟩
    ·rw [if_neg c13] at H
     exact absurd H (by simp)

end Go.Proofs.Ytfmfojogcghkkaa.P
