-- Laid by a program of this session (wip/tools/genx.py) out of the kit's print of the translation.
import Derived.Test.YtpdgdogcfmfakaaPx0
import Derived.Test.YtpdgdogcfmfakaaPx4
import Derived.Test.YtpdgdogcfmfakaaPx9
import Derived.Test.YtpdgdogcfmfakaaPx13
import Derived.Test.YtpdgdogcfmfakaaPx14
namespace Go.Proofs.Ytpdgdogcfmfakaa.P
open Go.RowKit Go.Proofs.YtpdgdogcfmfakaaW.PrintWords Go.Proofs.YtpdgdogcfmfakaaW.PrintLast Go.Proofs.YtpdgdogcfmfakaaW.PrintMore
attribute [local go_sem] max2_int min2_int max_two min_two max_three min_three max_four min_four   -- for this text's walks alone
set_option linter.unusedVariables false
set_option linter.unusedSimpArgs false

/-! ### billetlaw15_ShareRoom: function 8 -/
mutual
def billetlaw15_ShareRoom.j0 : Nat → Int → Bool → List Int → List Int → List Int → List Int → List Int → Option (Bool)
  | 0, _, _, _, _, _, _, _ => none
  | k + 1, x0, x9, x10, x11, x12, x13, x14 => (share_Share.f k x0 x14 x11).bind fun t496 => (if x9 = true then (if (x12.length : Int) = 3 then (if (x13.length : Int) = 3 then (billetlaw15_ShareRoom.j1 k x10 x12 x13 x14 t496 ((t496.length : Int) != 3)) else (billetlaw15_ShareRoom.j1 k x10 x12 x13 x14 t496 true)) else (billetlaw15_ShareRoom.j1 k x10 x12 x13 x14 t496 true)) else (billetlaw15_ShareRoom.j1 k x10 x12 x13 x14 t496 true))
def billetlaw15_ShareRoom.j1 : Nat → List Int → List Int → List Int → List Int → List Int → Bool → Option (Bool)
  | 0, _, _, _, _, _, _ => none
  | k + 1, x10, x12, x13, x14, x15, x77 => if x77 = true then (some false) else (billetlaw15_ShareRoom.l0 k x10 x12 x13 x14 x15 0 0 0)
def billetlaw15_ShareRoom.l0 : Nat → List Int → List Int → List Int → List Int → List Int → Int → Int → Int → Option (Bool)
  | 0, _, _, _, _, _, _, _, _ => none
  | k + 1, x10, x12, x13, x14, x15, x16, x17, x18 => if x18 < 3 then (if 0 ≤ x18 then (if x18 < (x13.length : Int) then (if x18 < (x12.length : Int) then (if (rd x13 x18) < (rd x12 x18) then (some false) else (if x18 < (x10.length : Int) then (if x18 < (x15.length : Int) then (if x18 < (x14.length : Int) then (billetlaw15_ShareRoom.l0 k x10 x12 x13 x14 x15 (wrap64 (x16 + (mx 0 (wrap64 ((rd x12 x18) - (mx 0 (rd x10 x18))))))) (wrap64 (x17 + (mx 0 (wrap64 ((rd x15 x18) - (mx 0 (rd x14 x18))))))) (wrap64 (x18 + 1))) else (none)) else (none)) else (none))) else (none)) else (none)) else (none)) else (some (decide (x17 ≤ x16)))
end
def billetlaw15_ShareRoom.f (k : Nat) (a0 : Int) (l1 : List Int) (a2 : Int) (a3 : Int) : Option (Bool) := (billetlaw15_awake.f k).bind fun t473 => ((billetlaw15_lists.f k l1).bind fun bt474 => ((billetlaw15_pick.f a0 20).bind fun t480 => ((share_Share.f k t480 bt474.1 bt474.2).bind fun t481 => ((billetlaw15_pick.f a2 9).bind fun t484 => ((share_Share.f k (wrap64 (t480 + t484)) bt474.1 bt474.2).bind fun t485 => (if ([] : List Int).length + bt474.1.length < 17592186044416 then ((some (([] : List Int) ++ bt474.1 : List Int)).bind fun y488 => ((billetlaw15_pick.f a3 3).bind fun t491 => (if 0 ≤ t491 then (if t491 < (y488.length : Int) then (if (rd y488 t491) ≥ 0 then ((billetlaw15_pick.f a2 9).bind fun t494 => (billetlaw15_ShareRoom.j0 k t480 t473 bt474.1 bt474.2 t481 t485 (y488.set (t491 : Int).toNat (wrap64 ((rd y488 t491) + t494))))) else (billetlaw15_ShareRoom.j0 k t480 t473 bt474.1 bt474.2 t481 t485 y488)) else (none)) else (none)))) else (none)))))))
theorem billetlaw15_ShareRoom.mono_l : ∀ k, (∀ y0 y1 y2 y3 y4 y5 y6, LeO (billetlaw15_ShareRoom.j0 k y0 y1 y2 y3 y4 y5 y6) (billetlaw15_ShareRoom.j0 (k + 1) y0 y1 y2 y3 y4 y5 y6)) ∧ (∀ y0 y1 y2 y3 y4 y5, LeO (billetlaw15_ShareRoom.j1 k y0 y1 y2 y3 y4 y5) (billetlaw15_ShareRoom.j1 (k + 1) y0 y1 y2 y3 y4 y5)) ∧ (∀ y0 y1 y2 y3 y4 y5 y6 y7, LeO (billetlaw15_ShareRoom.l0 k y0 y1 y2 y3 y4 y5 y6 y7) (billetlaw15_ShareRoom.l0 (k + 1) y0 y1 y2 y3 y4 y5 y6 y7))
  | 0 => ⟨fun _ _ _ _ _ _ _ r h => by simp [billetlaw15_ShareRoom.j0] at h, fun _ _ _ _ _ _ r h => by simp [billetlaw15_ShareRoom.j1] at h, fun _ _ _ _ _ _ _ _ r h => by simp [billetlaw15_ShareRoom.l0] at h⟩
  | k + 1 => by
    obtain ⟨ih0, ih1, ih2⟩ := billetlaw15_ShareRoom.mono_l k
    refine ⟨?_, ?_, ?_⟩
    · intro y0 y1 y2 y3 y4 y5 y6
      unfold billetlaw15_ShareRoom.j0
      repeat' first
      | (with_reducible exact ih0 _ _ _ _ _ _ _)
      | (with_reducible exact ih1 _ _ _ _ _ _)
      | (with_reducible exact ih2 _ _ _ _ _ _ _ _)
      | (with_reducible exact billetlaw15_awake.mono _)
      | (with_reducible exact billetlaw15_lists.mono _ _)
      | (with_reducible exact share_Share.mono _ _ _ _)
      | (with_reducible exact LeO.refl _)
      | (with_reducible exact LeO.none _)
      | (with_reducible refine LeO.ite ?_ ?_)
      | (with_reducible refine LeO.bind ?_ (fun _ => ?_))
      | exact ih0 _ _ _ _ _ _ _
      | exact ih1 _ _ _ _ _ _
      | exact ih2 _ _ _ _ _ _ _ _
      | exact billetlaw15_awake.mono _
      | exact billetlaw15_lists.mono _ _
      | exact share_Share.mono _ _ _ _
      | exact LeO.none _
      | refine LeO.ite ?_ ?_
      | refine LeO.bind ?_ (fun _ => ?_)
    · intro y0 y1 y2 y3 y4 y5
      unfold billetlaw15_ShareRoom.j1
      repeat' first
      | (with_reducible exact ih0 _ _ _ _ _ _ _)
      | (with_reducible exact ih1 _ _ _ _ _ _)
      | (with_reducible exact ih2 _ _ _ _ _ _ _ _)
      | (with_reducible exact billetlaw15_awake.mono _)
      | (with_reducible exact billetlaw15_lists.mono _ _)
      | (with_reducible exact share_Share.mono _ _ _ _)
      | (with_reducible exact LeO.refl _)
      | (with_reducible exact LeO.none _)
      | (with_reducible refine LeO.ite ?_ ?_)
      | (with_reducible refine LeO.bind ?_ (fun _ => ?_))
      | exact ih0 _ _ _ _ _ _ _
      | exact ih1 _ _ _ _ _ _
      | exact ih2 _ _ _ _ _ _ _ _
      | exact billetlaw15_awake.mono _
      | exact billetlaw15_lists.mono _ _
      | exact share_Share.mono _ _ _ _
      | exact LeO.none _
      | refine LeO.ite ?_ ?_
      | refine LeO.bind ?_ (fun _ => ?_)
    · intro y0 y1 y2 y3 y4 y5 y6 y7
      unfold billetlaw15_ShareRoom.l0
      repeat' first
      | (with_reducible exact ih0 _ _ _ _ _ _ _)
      | (with_reducible exact ih1 _ _ _ _ _ _)
      | (with_reducible exact ih2 _ _ _ _ _ _ _ _)
      | (with_reducible exact billetlaw15_awake.mono _)
      | (with_reducible exact billetlaw15_lists.mono _ _)
      | (with_reducible exact share_Share.mono _ _ _ _)
      | (with_reducible exact LeO.refl _)
      | (with_reducible exact LeO.none _)
      | (with_reducible refine LeO.ite ?_ ?_)
      | (with_reducible refine LeO.bind ?_ (fun _ => ?_))
      | exact ih0 _ _ _ _ _ _ _
      | exact ih1 _ _ _ _ _ _
      | exact ih2 _ _ _ _ _ _ _ _
      | exact billetlaw15_awake.mono _
      | exact billetlaw15_lists.mono _ _
      | exact share_Share.mono _ _ _ _
      | exact LeO.none _
      | refine LeO.ite ?_ ?_
      | refine LeO.bind ?_ (fun _ => ?_)
theorem billetlaw15_ShareRoom.mono : ∀ a0 a1 a2 a3 k, LeO (billetlaw15_ShareRoom.f k a0 a1 a2 a3) (billetlaw15_ShareRoom.f (k + 1) a0 a1 a2 a3) := by
  intro a0 a1 a2 a3 k
  obtain ⟨ih0, ih1, ih2⟩ := billetlaw15_ShareRoom.mono_l k
  unfold billetlaw15_ShareRoom.f
  repeat' first
      | (with_reducible exact ih0 _ _ _ _ _ _ _)
      | (with_reducible exact ih1 _ _ _ _ _ _)
      | (with_reducible exact ih2 _ _ _ _ _ _ _ _)
      | (with_reducible exact billetlaw15_awake.mono _)
      | (with_reducible exact billetlaw15_lists.mono _ _)
      | (with_reducible exact share_Share.mono _ _ _ _)
      | (with_reducible exact LeO.refl _)
      | (with_reducible exact LeO.none _)
      | (with_reducible refine LeO.ite ?_ ?_)
      | (with_reducible refine LeO.bind ?_ (fun _ => ?_))
      | exact ih0 _ _ _ _ _ _ _
      | exact ih1 _ _ _ _ _ _
      | exact ih2 _ _ _ _ _ _ _ _
      | exact billetlaw15_awake.mono _
      | exact billetlaw15_lists.mono _ _
      | exact share_Share.mono _ _ _ _
      | exact LeO.none _
      | refine LeO.ite ?_ ?_
      | refine LeO.bind ?_ (fun _ => ?_)
def billetlaw15_ShareRoom.T9 : Bool × List (List Nat × List Nat) := (true, [([], []), ([], []), ([], []), ([], []), ([2, 3], [2, 3]), ([4], [4]), ([], []), ([6], [6]), ([5, 7], [5, 7]), ([0, 1, 0, 1, 2, 3, 4, 5, 6, 7, 8], [0, 1]), ([9, 8, 7, 0, 1, 2, 3, 4, 5, 6, 7, 8], [8, 9])])
def billetlaw15_ShareRoom.B9 : List Nat := [0, 0, 0, 0, 12, 28, 0, 64, 252, 511, 1023]
theorem billetlaw15_ShareRoom.tab9 : rtab .any (opsOf Try.f8 9) = billetlaw15_ShareRoom.T9 := by kernel_rfl
theorem billetlaw15_ShareRoom.bits9 : waitsOk billetlaw15_ShareRoom.T9.2 billetlaw15_ShareRoom.B9 = true := by kernel_rfl
def billetlaw15_ShareRoom.T18 : Bool × List (List Nat × List Nat) := (true, [([], []), ([], []), ([0, 1], [0, 1]), ([2], [2]), ([], []), ([], []), ([4, 5], [4, 5]), ([6], [6]), ([3, 7], [3, 7])])
def billetlaw15_ShareRoom.B18 : List Nat := [0, 0, 3, 7, 0, 0, 48, 112, 255]
theorem billetlaw15_ShareRoom.tab18 : rtab .any (opsOf Try.f8 18) = billetlaw15_ShareRoom.T18 := by kernel_rfl
theorem billetlaw15_ShareRoom.bits18 : waitsOk billetlaw15_ShareRoom.T18.2 billetlaw15_ShareRoom.B18 = true := by kernel_rfl
def billetlaw15_ShareRoom.T20 : Bool × List (List Nat × List Nat) := (true, [([], []), ([], []), ([], []), ([1, 2], [1, 2]), ([3], [3]), ([], []), ([], []), ([5, 6], [5, 6]), ([7], [7]), ([8], [8]), ([4, 9], [4, 9]), ([10], [10]), ([0, 11], [0, 11]), ([12, 0, 1, 2, 3, 4, 5, 6, 7, 8, 9, 10, 11, 12], [0, 12])])
def billetlaw15_ShareRoom.B20 : List Nat := [0, 0, 0, 6, 14, 0, 0, 96, 224, 480, 1022, 2046, 4095, 8191]
theorem billetlaw15_ShareRoom.tab20 : rtab .any (opsOf Try.f8 20) = billetlaw15_ShareRoom.T20 := by kernel_rfl
theorem billetlaw15_ShareRoom.bits20 : waitsOk billetlaw15_ShareRoom.T20.2 billetlaw15_ShareRoom.B20 = true := by kernel_rfl
def billetlaw15_ShareRoom.T21 : Bool × List (List Nat × List Nat) := (true, [([], []), ([], []), ([], []), ([1, 2], [1, 2]), ([3], [3]), ([], []), ([], []), ([5, 6], [5, 6]), ([7], [7]), ([8], [8]), ([4, 9], [4, 9]), ([10], [10]), ([0, 11], [0, 11]), ([12, 0, 1, 2, 3, 4, 5, 6, 7, 8, 9, 10, 11, 12], [0, 12])])
def billetlaw15_ShareRoom.B21 : List Nat := [0, 0, 0, 6, 14, 0, 0, 96, 224, 480, 1022, 2046, 4095, 8191]
theorem billetlaw15_ShareRoom.tab21 : rtab .any (opsOf Try.f8 21) = billetlaw15_ShareRoom.T21 := by kernel_rfl
theorem billetlaw15_ShareRoom.bits21 : waitsOk billetlaw15_ShareRoom.T21.2 billetlaw15_ShareRoom.B21 = true := by kernel_rfl
set_option maxHeartbeats 8000000 in
set_option maxRecDepth 100000 in
theorem billetlaw15_ShareRoom.calls (k : Nat) (a0 : Int) (A1 : Option Addr) (c1 : Nat) (l1 : List Int) (a2 : Int) (a3 : Int) (r : Bool) (w : World) (hr1 : Kd.C (Kd.int .i64) w A1 l1.length l1) (hc1 : l1.length ≤ c1) (h : billetlaw15_ShareRoom.f k a0 l1 a2 a3 = some r) :
    Calls Try.prog 8 #[.int .i64 a0, .slice A1 l1.length c1, .int .i64 a2, .int .i64 a3] w fun e w' => e = .returned (.bool r) ∧ Below w.heap.size w w' := by
  have HR1 := Aside0.mk hr1
  have HC1 := Aside0.mk hc1
  clear hr1 hc1
  have HB := Aside0.mk (Below.refl w.heap.size w)
  have H : ((billetlaw15_awake.f k).bind fun t473 => ((billetlaw15_lists.f k l1).bind fun bt474 => ((billetlaw15_pick.f a0 20).bind fun t480 => ((share_Share.f k t480 bt474.1 bt474.2).bind fun t481 => ((billetlaw15_pick.f a2 9).bind fun t484 => ((share_Share.f k (wrap64 (t480 + t484)) bt474.1 bt474.2).bind fun t485 => (if ([] : List Int).length + bt474.1.length < 17592186044416 then ((some (([] : List Int) ++ bt474.1 : List Int)).bind fun y488 => ((billetlaw15_pick.f a3 3).bind fun t491 => (if 0 ≤ t491 then (if t491 < (y488.length : Int) then (if (rd y488 t491) ≥ 0 then ((billetlaw15_pick.f a2 9).bind fun t494 => (billetlaw15_ShareRoom.j0 k t480 t473 bt474.1 bt474.2 t481 t485 (y488.set (t491 : Int).toNat (wrap64 ((rd y488 t491) + t494))))) else (billetlaw15_ShareRoom.j0 k t480 t473 bt474.1 bt474.2 t481 t485 y488)) else (none)) else (none)))) else (none)))))))) = some r := h
  clear h
  replace H := Option.bind_eq_some_iff.mp H
  obtain ⟨t473, A50, H⟩ := H
  replace H : ((billetlaw15_lists.f k l1).bind fun bt474 => ((billetlaw15_pick.f a0 20).bind fun t480 => ((share_Share.f k t480 bt474.1 bt474.2).bind fun t481 => ((billetlaw15_pick.f a2 9).bind fun t484 => ((share_Share.f k (wrap64 (t480 + t484)) bt474.1 bt474.2).bind fun t485 => (if ([] : List Int).length + bt474.1.length < 17592186044416 then ((some (([] : List Int) ++ bt474.1 : List Int)).bind fun y488 => ((billetlaw15_pick.f a3 3).bind fun t491 => (if 0 ≤ t491 then (if t491 < (y488.length : Int) then (if (rd y488 t491) ≥ 0 then ((billetlaw15_pick.f a2 9).bind fun t494 => (billetlaw15_ShareRoom.j0 k t480 t473 bt474.1 bt474.2 t481 t485 (y488.set (t491 : Int).toNat (wrap64 ((rd y488 t491) + t494))))) else (billetlaw15_ShareRoom.j0 k t480 t473 bt474.1 bt474.2 t481 t485 y488)) else (none)) else (none)))) else (none))))))) = some r := H
  have A5 := Aside0.mk A50
  clear A50
  replace H := Option.bind_eq_some_iff.mp H
  obtain ⟨⟨t474, t475⟩, A60, H⟩ := H
  replace H : ((billetlaw15_pick.f a0 20).bind fun t480 => ((share_Share.f k t480 t474 t475).bind fun t481 => ((billetlaw15_pick.f a2 9).bind fun t484 => ((share_Share.f k (wrap64 (t480 + t484)) t474 t475).bind fun t485 => (if ([] : List Int).length + t474.length < 17592186044416 then ((some (([] : List Int) ++ t474 : List Int)).bind fun y488 => ((billetlaw15_pick.f a3 3).bind fun t491 => (if 0 ≤ t491 then (if t491 < (y488.length : Int) then (if (rd y488 t491) ≥ 0 then ((billetlaw15_pick.f a2 9).bind fun t494 => (billetlaw15_ShareRoom.j0 k t480 t473 t474 t475 t481 t485 (y488.set (t491 : Int).toNat (wrap64 ((rd y488 t491) + t494))))) else (billetlaw15_ShareRoom.j0 k t480 t473 t474 t475 t481 t485 y488)) else (none)) else (none)))) else (none)))))) = some r := H
  have A6 := Aside0.mk A60
  clear A60
  replace H := Option.bind_eq_some_iff.mp H
  obtain ⟨t480, A70, H⟩ := H
  replace H : ((share_Share.f k t480 t474 t475).bind fun t481 => ((billetlaw15_pick.f a2 9).bind fun t484 => ((share_Share.f k (wrap64 (t480 + t484)) t474 t475).bind fun t485 => (if ([] : List Int).length + t474.length < 17592186044416 then ((some (([] : List Int) ++ t474 : List Int)).bind fun y488 => ((billetlaw15_pick.f a3 3).bind fun t491 => (if 0 ≤ t491 then (if t491 < (y488.length : Int) then (if (rd y488 t491) ≥ 0 then ((billetlaw15_pick.f a2 9).bind fun t494 => (billetlaw15_ShareRoom.j0 k t480 t473 t474 t475 t481 t485 (y488.set (t491 : Int).toNat (wrap64 ((rd y488 t491) + t494))))) else (billetlaw15_ShareRoom.j0 k t480 t473 t474 t475 t481 t485 y488)) else (none)) else (none)))) else (none))))) = some r := H
  have A7 := Aside0.mk A70
  clear A70
  replace H := Option.bind_eq_some_iff.mp H
  obtain ⟨t481, A80, H⟩ := H
  replace H : ((billetlaw15_pick.f a2 9).bind fun t484 => ((share_Share.f k (wrap64 (t480 + t484)) t474 t475).bind fun t485 => (if ([] : List Int).length + t474.length < 17592186044416 then ((some (([] : List Int) ++ t474 : List Int)).bind fun y488 => ((billetlaw15_pick.f a3 3).bind fun t491 => (if 0 ≤ t491 then (if t491 < (y488.length : Int) then (if (rd y488 t491) ≥ 0 then ((billetlaw15_pick.f a2 9).bind fun t494 => (billetlaw15_ShareRoom.j0 k t480 t473 t474 t475 t481 t485 (y488.set (t491 : Int).toNat (wrap64 ((rd y488 t491) + t494))))) else (billetlaw15_ShareRoom.j0 k t480 t473 t474 t475 t481 t485 y488)) else (none)) else (none)))) else (none)))) = some r := H
  have A8 := Aside0.mk A80
  clear A80
  replace H := Option.bind_eq_some_iff.mp H
  obtain ⟨t484, A90, H⟩ := H
  replace H : ((share_Share.f k (wrap64 (t480 + t484)) t474 t475).bind fun t485 => (if ([] : List Int).length + t474.length < 17592186044416 then ((some (([] : List Int) ++ t474 : List Int)).bind fun y488 => ((billetlaw15_pick.f a3 3).bind fun t491 => (if 0 ≤ t491 then (if t491 < (y488.length : Int) then (if (rd y488 t491) ≥ 0 then ((billetlaw15_pick.f a2 9).bind fun t494 => (billetlaw15_ShareRoom.j0 k t480 t473 t474 t475 t481 t485 (y488.set (t491 : Int).toNat (wrap64 ((rd y488 t491) + t494))))) else (billetlaw15_ShareRoom.j0 k t480 t473 t474 t475 t481 t485 y488)) else (none)) else (none)))) else (none))) = some r := H
  have A9 := Aside0.mk A90
  clear A90
  replace H := Option.bind_eq_some_iff.mp H
  obtain ⟨t485, A100, H⟩ := H
  replace H : (if ([] : List Int).length + t474.length < 17592186044416 then ((some (([] : List Int) ++ t474 : List Int)).bind fun y488 => ((billetlaw15_pick.f a3 3).bind fun t491 => (if 0 ≤ t491 then (if t491 < (y488.length : Int) then (if (rd y488 t491) ≥ 0 then ((billetlaw15_pick.f a2 9).bind fun t494 => (billetlaw15_ShareRoom.j0 k t480 t473 t474 t475 t481 t485 (y488.set (t491 : Int).toNat (wrap64 ((rd y488 t491) + t494))))) else (billetlaw15_ShareRoom.j0 k t480 t473 t474 t475 t481 t485 y488)) else (none)) else (none)))) else (none)) = some r := H
  have A10 := Aside0.mk A100
  clear A100
  by_cases c11 : ([] : List Int).length + t474.length < 17592186044416
  · rw [if_pos c11] at H
    have LMc11 := Aside0.mk c11
    clear c11
    obtain ⟨y488, hy488⟩ : ∃ y_ : List Int, y_ = (([] : List Int) ++ t474) := ⟨_, rfl⟩
    replace H : ((billetlaw15_pick.f a3 3).bind fun t491 => (if 0 ≤ t491 then (if t491 < (y488.length : Int) then (if (rd y488 t491) ≥ 0 then ((billetlaw15_pick.f a2 9).bind fun t494 => (billetlaw15_ShareRoom.j0 k t480 t473 t474 t475 t481 t485 (y488.set (t491 : Int).toNat (wrap64 ((rd y488 t491) + t494))))) else (billetlaw15_ShareRoom.j0 k t480 t473 t474 t475 t481 t485 y488)) else (none)) else (none))) = some r := by first | (rw [hy488]; with_reducible exact H) | (have H2_ := (Option.bind_some _ _).symm.trans H; rw [hy488]; with_reducible exact H2_) | (have H2_ := (Option.bind_some _ _).symm.trans H; with_reducible exact H2_) | with_reducible exact H | (rw [hy488]; exact H) | exact H
    have Ny488 := Aside0.mk hy488
    clear hy488
    replace H := Option.bind_eq_some_iff.mp H
    obtain ⟨t491, A120, H⟩ := H
    replace H : (if 0 ≤ t491 then (if t491 < (y488.length : Int) then (if (rd y488 t491) ≥ 0 then ((billetlaw15_pick.f a2 9).bind fun t494 => (billetlaw15_ShareRoom.j0 k t480 t473 t474 t475 t481 t485 (y488.set (t491 : Int).toNat (wrap64 ((rd y488 t491) + t494))))) else (billetlaw15_ShareRoom.j0 k t480 t473 t474 t475 t481 t485 y488)) else (none)) else (none)) = some r := H
    have A12 := Aside0.mk A120
    clear A120
    by_cases c13 : 0 ≤ t491
    · rw [if_pos c13] at H
      have c13b0 : decide (0 ≤ t491) = true := decide_eq_true c13
      clear c13
      by_cases c14 : t491 < (y488.length : Int)
      · rw [if_pos c14] at H
        have c14b0 : decide (t491 < (y488.length : Int)) = true := decide_eq_true c14
        clear c14
        have HC15 := Aside0.mk H
        clear H
        go_enter Try.func8, Try.ntmps8
        go_upto_if 46 with (first | ((with_reducible refine gate_callee (f := 10) rfl ?_); refine goesL_ (some 19) rfl rfl Try.func10 (by kernel_rfl) rfl #[] rfl (by (try simp only [List.map_toArray, List.map_cons, List.map_nil]); first | done | rfl | (simp only [List.length_drop, List.length_take]; rfl)) ?_; (with_reducible refine (billetlaw15_awake.calls k  t473 _ A5.out).mono ?_); rintro e w16 ⟨rfl, hb⟩; refine ⟨_, rfl, ?_⟩; have n0_ := Aside0.mk (below_step (by repeat (first | (with_reducible first | exact HB.out | apply below_alloc | apply pw_below_drewN | apply below_drew1) | exact HB.out)) hb); clear HB; have HB := n0_; clear n0_; (try clear hb); (try clear hb2); (try clear hk); (try clear hi)) | ((with_reducible refine gate_callee (f := 17) rfl ?_); refine goesL_ (some 22) rfl rfl Try.func17 (by kernel_rfl) rfl #[.slice A1 l1.length c1] rfl (by (try simp only [List.map_toArray, List.map_cons, List.map_nil]); first | done | rfl | (simp only [List.length_drop, List.length_take]; rfl)) ?_; (with_reducible refine (billetlaw15_lists.calls k _ _ l1 t474 t475 _ ?side1 ?side2 A6.out).mono ?_); (case side1 => repeat (first | exact (Kd.C_below HR1.out HB.out) | (with_reducible refine Kd.C_alloc ?_ _) | (with_reducible refine Kd.C_drewN ?_ _) | (with_reducible refine Kd.C_drew ?_))); (case side2 => exact HC1.out); rintro e w17 ⟨v476, v478, rfl, ho0, ho1, hb⟩; refine ⟨_, rfl, ?_⟩; have n0_ := Aside0.mk (Kd.R_lower ho0 (below_size (by repeat (first | (with_reducible first | exact HB.out | apply below_alloc | apply pw_below_drewN | apply below_drew1) | exact HB.out)))); have n1_ := Aside0.mk (Kd.R_lower ho1 (below_size (by repeat (first | (with_reducible first | exact HB.out | apply below_alloc | apply pw_below_drewN | apply below_drew1) | exact HB.out)))); have n2_ := Aside0.mk (below_step (by repeat (first | (with_reducible first | exact HB.out | apply below_alloc | apply pw_below_drewN | apply below_drew1) | exact HB.out)) hb); clear HB; have HO477 := n0_; have HO479 := n1_; have HB := n2_; clear n0_ n1_ n2_; (try clear hb); (try clear hb2); (try clear hk); (try clear hi); (try clear ho0); (try clear ho1)) | ((with_reducible refine gate_callee (f := 18) rfl ?_); refine goesL_ (some 26) rfl rfl Try.func18 (by kernel_rfl) rfl #[.int .i64 a0, .int .i64 20] rfl (by (try simp only [List.map_toArray, List.map_cons, List.map_nil]); first | done | rfl | (simp only [List.length_drop, List.length_take]; rfl)) ?_; (with_reducible refine (billetlaw15_pick.calls a0 20 t480 _ A7.out).mono ?_); rintro e w' ⟨rfl, ⟨nd, rfl⟩⟩; refine ⟨_, rfl, ?_⟩; obtain ⟨Ao18, co18, eo18⟩ := Kd.R_slice HO477.out; subst eo18; obtain ⟨Ao19, co19, eo19⟩ := Kd.R_slice HO479.out; subst eo19) | ((with_reducible refine gate_callee (f := 11) rfl ?_); refine goesL_ (some 30) rfl rfl Try.func11 (by kernel_rfl) rfl #[.int .i64 t480, .slice Ao18 t474.length co18, .slice Ao19 t475.length co19] rfl (by (try simp only [List.map_toArray, List.map_cons, List.map_nil]); first | done | rfl | (simp only [List.length_drop, List.length_take]; rfl)) ?_; (with_reducible refine (share_Share.calls k t480 _ _ t474 _ _ t475 t481 _ ?side1 ?side2 ?side3 ?side4 A8.out).mono ?_); (case side1 => repeat (first | exact (Kd.R_reads' HO477.out).2.2 | (with_reducible refine Kd.C_alloc ?_ _) | (with_reducible refine Kd.C_drewN ?_ _) | (with_reducible refine Kd.C_drew ?_))); (case side2 => exact (Kd.R_reads' HO477.out).2.1); (case side3 => repeat (first | exact (Kd.R_reads' HO479.out).2.2 | (with_reducible refine Kd.C_alloc ?_ _) | (with_reducible refine Kd.C_drewN ?_ _) | (with_reducible refine Kd.C_drew ?_))); (case side4 => exact (Kd.R_reads' HO479.out).2.1); rintro e w20 ⟨v482, rfl, ho0, hb⟩; refine ⟨_, rfl, ?_⟩; have n0_ := Aside0.mk (Kd.R_elder' (by (with_reducible repeat (first | apply Kd.R_alloc | apply Kd.R_drewN | apply Kd.R_drew)); exact HO477.out) (Kd.R_base ho0) hb); have n1_ := Aside0.mk (Kd.R_elder' (by (with_reducible repeat (first | apply Kd.R_alloc | apply Kd.R_drewN | apply Kd.R_drew)); exact HO479.out) (Kd.R_base ho0) hb); have n2_ := Aside0.mk (Kd.R_lower (Kd.R_new' (Kd.R_new' ho0 (Kd.R_lt (by (with_reducible repeat (first | apply Kd.R_alloc | apply Kd.R_drewN | apply Kd.R_drew)); exact HO477.out))) (Kd.R_lt (by (with_reducible repeat (first | apply Kd.R_alloc | apply Kd.R_drewN | apply Kd.R_drew)); exact HO479.out))) (below_size (by repeat (first | (with_reducible first | exact HB.out | apply below_alloc | apply pw_below_drewN | apply below_drew1) | exact HB.out)))); have n3_ := Aside0.mk (below_step (by repeat (first | (with_reducible first | exact HB.out | apply below_alloc | apply pw_below_drewN | apply below_drew1) | exact HB.out)) hb); clear HO477; clear HO479; clear HB; have HO477 := n0_; have HO479 := n1_; have HO483 := n2_; have HB := n3_; clear n0_ n1_ n2_ n3_; (try clear hb); (try clear hb2); (try clear hk); (try clear hi); (try clear ho0)) | ((with_reducible refine gate_callee (f := 18) rfl ?_); refine goesL_ (some 33) rfl rfl Try.func18 (by kernel_rfl) rfl #[.int .i64 a2, .int .i64 9] rfl (by (try simp only [List.map_toArray, List.map_cons, List.map_nil]); first | done | rfl | (simp only [List.length_drop, List.length_take]; rfl)) ?_; (with_reducible refine (billetlaw15_pick.calls a2 9 t484 _ A9.out).mono ?_); rintro e w' ⟨rfl, ⟨nd, rfl⟩⟩; refine ⟨_, rfl, ?_⟩) | ((with_reducible refine gate_callee (f := 11) rfl ?_); refine goesL_ (some 37) rfl rfl Try.func11 (by kernel_rfl) rfl #[.int .i64 (wrap64 (t480 + t484)), .slice Ao18 t474.length co18, .slice Ao19 t475.length co19] rfl (by (try simp only [List.map_toArray, List.map_cons, List.map_nil]); first | done | rfl | (simp only [List.length_drop, List.length_take]; rfl)) ?_; (with_reducible refine (share_Share.calls k (wrap64 (t480 + t484)) _ _ t474 _ _ t475 t485 _ ?side1 ?side2 ?side3 ?side4 A10.out).mono ?_); (case side1 => repeat (first | exact (Kd.R_reads' HO477.out).2.2 | (with_reducible refine Kd.C_alloc ?_ _) | (with_reducible refine Kd.C_drewN ?_ _) | (with_reducible refine Kd.C_drew ?_))); (case side2 => exact (Kd.R_reads' HO477.out).2.1); (case side3 => repeat (first | exact (Kd.R_reads' HO479.out).2.2 | (with_reducible refine Kd.C_alloc ?_ _) | (with_reducible refine Kd.C_drewN ?_ _) | (with_reducible refine Kd.C_drew ?_))); (case side4 => exact (Kd.R_reads' HO479.out).2.1); rintro e w21 ⟨v486, rfl, ho0, hb⟩; refine ⟨_, rfl, ?_⟩; have n0_ := Aside0.mk (Kd.R_elder' (by (with_reducible repeat (first | apply Kd.R_alloc | apply Kd.R_drewN | apply Kd.R_drew)); exact HO477.out) (Kd.R_base ho0) hb); have n1_ := Aside0.mk (Kd.R_elder' (by (with_reducible repeat (first | apply Kd.R_alloc | apply Kd.R_drewN | apply Kd.R_drew)); exact HO479.out) (Kd.R_base ho0) hb); have n2_ := Aside0.mk (Kd.R_elder' (by (with_reducible repeat (first | apply Kd.R_alloc | apply Kd.R_drewN | apply Kd.R_drew)); exact HO483.out) (Kd.R_base ho0) hb); have n3_ := Aside0.mk (Kd.R_lower (Kd.R_new' (Kd.R_new' (Kd.R_new' ho0 (Kd.R_lt (by (with_reducible repeat (first | apply Kd.R_alloc | apply Kd.R_drewN | apply Kd.R_drew)); exact HO477.out))) (Kd.R_lt (by (with_reducible repeat (first | apply Kd.R_alloc | apply Kd.R_drewN | apply Kd.R_drew)); exact HO479.out))) (Kd.R_lt (by (with_reducible repeat (first | apply Kd.R_alloc | apply Kd.R_drewN | apply Kd.R_drew)); exact HO483.out))) (below_size (by repeat (first | (with_reducible first | exact HB.out | apply below_alloc | apply pw_below_drewN | apply below_drew1) | exact HB.out)))); have n4_ := Aside0.mk (below_step (by repeat (first | (with_reducible first | exact HB.out | apply below_alloc | apply pw_below_drewN | apply below_drew1) | exact HB.out)) hb); clear HO477; clear HO479; clear HO483; clear HB; have HO477 := n0_; have HO479 := n1_; have HO483 := n2_; have HO487 := n3_; have HB := n4_; clear n0_ n1_ n2_ n3_ n4_; (try clear hb); (try clear hb2); (try clear hk); (try clear hi); (try clear ho0)) | ((with_reducible refine gate_builtin (b := .append) (xs := #[.const (.slice none 0 0), .tmp 38]) rfl ?_); (try (refine gate_guard (by rfl) ?_; dsimp only)); at_builtin; refine Kd.R_append_rows (Kd.int .i64) (w0 := w) w.heap.size rfl (.const (.slice none 0 0)) (.tmp 38) 22 3 (.int .i64 0) 8 rfl Try.underlying22 info3 rfl (by decide) (by omega) (.slice none 0 0) ([] : List Int) t474 _ _ _ (fun k_ => some k_ ≠ (.slice Ao18 t474.length co18 : Value).ownBlock ∧ some k_ ≠ (.slice Ao19 t475.length co19 : Value).ownBlock ∧ some k_ ≠ (v482 : Value).ownBlock ∧ some k_ ≠ (v486 : Value).ownBlock) (fun _ => False) rfl rfl ?aO ?aR (fun _ _ h => h) (fun _ h => h.elim) ?aF ?aB ?aS ?aL ?_; (case aR => repeat (first | exact (Kd.R_reads' HO477.out).2.2 | (with_reducible refine Kd.C_alloc ?_ _) | (with_reducible refine Kd.C_drewN ?_ _) | (with_reducible refine Kd.C_drew ?_))); (case aB => exact (by repeat (first | (with_reducible first | exact HB.out | apply below_alloc | apply pw_below_drewN | apply below_drew1) | exact HB.out))); (case aF => exact (fun k_ hk => ⟨Kd.fresh' (Kd.R_lt (by (with_reducible repeat (first | apply Kd.R_alloc | apply Kd.R_drewN | apply Kd.R_drew)); exact HO477.out)) k_ hk, Kd.fresh' (Kd.R_lt (by (with_reducible repeat (first | apply Kd.R_alloc | apply Kd.R_drewN | apply Kd.R_drew)); exact HO479.out)) k_ hk, Kd.fresh' (Kd.R_lt (by (with_reducible repeat (first | apply Kd.R_alloc | apply Kd.R_drewN | apply Kd.R_drew)); exact HO483.out)) k_ hk, Kd.fresh' (Kd.R_lt (by (with_reducible repeat (first | apply Kd.R_alloc | apply Kd.R_drewN | apply Kd.R_drew)); exact HO487.out)) k_ hk⟩)); (case aO => exact ((Kd.R_nil _ _ _ _ (fun k_ => some k_ ≠ (.slice Ao18 t474.length co18 : Value).ownBlock ∧ some k_ ≠ (.slice Ao19 t475.length co19 : Value).ownBlock ∧ some k_ ≠ (v482 : Value).ownBlock ∧ some k_ ≠ (v486 : Value).ownBlock)))); (case aS => exact (below_size (by repeat (first | (with_reducible first | exact HB.out | apply below_alloc | apply pw_below_drewN | apply below_drew1) | exact HB.out)))); (case aL => have := LMc11.out; omega); intro v489 w22 ho hb hg hat; rw [← Ny488.out] at ho; have n0_ := Aside0.mk (Kd.R_after (Kd.R_apart_nil (by (with_reducible repeat (first | apply Kd.R_alloc | apply Kd.R_drewN | apply Kd.R_drew)); exact HO477.out)) hg hat); have n1_ := Aside0.mk (Kd.R_after (Kd.R_apart_nil (by (with_reducible repeat (first | apply Kd.R_alloc | apply Kd.R_drewN | apply Kd.R_drew)); exact HO479.out)) hg hat); have n2_ := Aside0.mk (Kd.R_after (Kd.R_apart_nil (by (with_reducible repeat (first | apply Kd.R_alloc | apply Kd.R_drewN | apply Kd.R_drew)); exact HO483.out)) hg hat); have n3_ := Aside0.mk (Kd.R_after (Kd.R_apart_nil (by (with_reducible repeat (first | apply Kd.R_alloc | apply Kd.R_drewN | apply Kd.R_drew)); exact HO487.out)) hg hat); have n4_ := Aside0.mk (hb); have n5_ := Aside0.mk (ho); clear HO477; clear HO479; clear HO483; clear HO487; clear HB; have HO477 := n0_; have HO479 := n1_; have HO483 := n2_; have HO487 := n3_; have HB := n4_; have HO490 := n5_; clear n0_ n1_ n2_ n3_ n4_ n5_; clear ho hb hg hat) | ((with_reducible refine gate_callee (f := 18) rfl ?_); refine goesL_ (some 41) rfl rfl Try.func18 (by kernel_rfl) rfl #[.int .i64 a3, .int .i64 3] rfl (by (try simp only [List.map_toArray, List.map_cons, List.map_nil]); first | done | rfl | (simp only [List.length_drop, List.length_take]; rfl)) ?_; (with_reducible refine (billetlaw15_pick.calls a3 3 t491 _ A12.out).mono ?_); rintro e w' ⟨rfl, ⟨nd, rfl⟩⟩; refine ⟨_, rfl, ?_⟩; have m0_ := Aside0.mk (Kd.R_drewN HO477.out nd); have m1_ := Aside0.mk (Kd.R_drewN HO479.out nd); have m2_ := Aside0.mk (Kd.R_drewN HO483.out nd); have m3_ := Aside0.mk (Kd.R_drewN HO487.out nd); have m4_ := Aside0.mk (Kd.R_drewN HO490.out nd); have m5_ := Aside0.mk (pw_below_drewN HB.out nd); clear HO477; clear HO479; clear HO483; clear HO487; clear HO490; clear HB; have HO477 := m0_; have HO479 := m1_; have HO483 := m2_; have HO487 := m3_; have HO490 := m4_; have HB := m5_; clear m0_ m1_ m2_ m3_ m4_ m5_; generalize w22.drewN nd = w23 at HO477 HO479 HO483 HO487 HO490 HB ⊢; obtain ⟨Ao23, co23, eo23⟩ := Kd.R_slice HO490.out; subst eo23; have p492 : 0 ≤ (t491 : Int) := of_decide_eq_true (by first | (with_reducible assumption) | assumption); have q492 : t491 < (y488.length : Int) := of_decide_eq_true (by first | (with_reducible assumption) | assumption); obtain ⟨ad492, e492, hx492_0⟩ := Kd.at_int (Kd.R_reads' HO490.out).2.2 t491 p492 q492; cases e492; replace p492 := eq_true p492; replace q492 := eq_true q492))
        (try simp only [Act.put, List.setIfInBounds_toArray, List.set_cons_zero, List.set_cons_succ])
        go_cut [] (fun wc => ∃ (kq : Nat) (x14_14 : List Int), Aside0 (billetlaw15_ShareRoom.j0 kq t480 t473 t474 t475 t481 t485 x14_14 = some r) ∧ Aside0 (kq ≤ k) ∧ Aside0 (Kd.R (Kd.int .i64) 3 wc w.heap.size (fun k_ => some k_ ≠ ((.slice Ao19 t475.length co19) : Value).ownBlock ∧ some k_ ≠ (v482 : Value).ownBlock ∧ some k_ ≠ (v486 : Value).ownBlock ∧ some k_ ≠ ((.slice (some ad492) y488.length co23) : Value).ownBlock) (.slice Ao18 t474.length co18) t474) ∧ Aside0 (Kd.R (Kd.int .i64) 3 wc w.heap.size (fun k_ => some k_ ≠ ((.slice Ao18 t474.length co18) : Value).ownBlock ∧ some k_ ≠ (v482 : Value).ownBlock ∧ some k_ ≠ (v486 : Value).ownBlock ∧ some k_ ≠ ((.slice (some ad492) y488.length co23) : Value).ownBlock) (.slice Ao19 t475.length co19) t475) ∧ Aside0 (Kd.R (Kd.int .i64) 3 wc w.heap.size (fun k_ => some k_ ≠ ((.slice Ao18 t474.length co18) : Value).ownBlock ∧ some k_ ≠ ((.slice Ao19 t475.length co19) : Value).ownBlock ∧ some k_ ≠ (v486 : Value).ownBlock ∧ some k_ ≠ ((.slice (some ad492) y488.length co23) : Value).ownBlock) v482 t481) ∧ Aside0 (Kd.R (Kd.int .i64) 3 wc w.heap.size (fun k_ => some k_ ≠ ((.slice Ao18 t474.length co18) : Value).ownBlock ∧ some k_ ≠ ((.slice Ao19 t475.length co19) : Value).ownBlock ∧ some k_ ≠ (v482 : Value).ownBlock ∧ some k_ ≠ ((.slice (some ad492) y488.length co23) : Value).ownBlock) v486 t485) ∧ Aside0 (Kd.R (Kd.int .i64) 3 wc w.heap.size (fun k_ => some k_ ≠ ((.slice Ao18 t474.length co18) : Value).ownBlock ∧ some k_ ≠ ((.slice Ao19 t475.length co19) : Value).ownBlock ∧ some k_ ≠ (v482 : Value).ownBlock ∧ some k_ ≠ (v486 : Value).ownBlock) (.slice (some ad492) y488.length co23) x14_14) ∧ Aside0 (Below w.heap.size w wc))
        case first =>
          have H := HC15.out
          clear HC15
          by_cases c24 : (rd y488 t491) ≥ 0
          · rw [if_pos c24] at H
            have c24b0 : decide (0 ≤ (rd y488 t491)) = true := decide_eq_true c24
            clear c24
            (first | rw [c24b0] | (simp only [i64_w, i32_w]; rw [c24b0]) | skip)
            replace H := Option.bind_eq_some_iff.mp H
            obtain ⟨t494, A250, H⟩ := H
            replace H : (billetlaw15_ShareRoom.j0 k t480 t473 t474 t475 t481 t485 (y488.set (t491 : Int).toNat (wrap64 ((rd y488 t491) + t494)))) = some r := H
            have A25 := Aside0.mk A250
            clear A250
            obtain ⟨y495, hy495⟩ : ∃ y_ : List Int, y_ = (y488.set (t491 : Int).toNat (wrap64 ((rd y488 t491) + t494))) := ⟨_, rfl⟩
            replace H : (billetlaw15_ShareRoom.j0 k t480 t473 t474 t475 t481 t485 y495) = some r := by first | (rw [hy495]; with_reducible exact H) | (have H2_ := (Option.bind_some _ _).symm.trans H; rw [hy495]; with_reducible exact H2_) | (have H2_ := (Option.bind_some _ _).symm.trans H; with_reducible exact H2_) | with_reducible exact H | (rw [hy495]; exact H) | exact H
            have Ny495 := Aside0.mk hy495
            clear hy495
            have H' := Aside0.mk H
            clear H
            try go_wp2
            have n0_ := Aside0.mk (Kd.R_drew HO477.out)
            have n1_ := Aside0.mk (Kd.R_drew HO479.out)
            have n2_ := Aside0.mk (Kd.R_drew HO483.out)
            have n3_ := Aside0.mk (Kd.R_drew HO487.out)
            have n4_ := Aside0.mk (Kd.R_drew HO490.out)
            have n5_ := Aside0.mk (below_drew1 HB.out)
            clear HO477
            clear HO479
            clear HO483
            clear HO487
            clear HO490
            clear HB
            have HO477 := n0_
            have HO479 := n1_
            have HO483 := n2_
            have HO487 := n3_
            have HO490 := n4_
            have HB := n5_
            clear n0_ n1_ n2_ n3_ n4_ n5_
            have p493 : 0 ≤ (t491 : Int) := of_decide_eq_true (by first | (with_reducible assumption) | assumption)
            have q493 : t491 < (y488.length : Int) := of_decide_eq_true (by first | (with_reducible assumption) | assumption)
            obtain ⟨ad493, e493, hx493_0⟩ := Kd.at_int (Kd.R_reads' HO490.out).2.2 t491 p493 q493
            obtain rfl : ad492 = ad493 := (by injection e493)
            replace p493 := eq_true p493
            replace q493 := eq_true q493
            refine start_ (n := 11) (S := fun w' => w'.cell? (ad492.add (t491).toNat) = some (.int .i64 (rd y488 t491))) (ds := [10]) #[false, false, false, false, false, false, false, false, false, false, false] (by kernel_rfl) rfl rfl (hx493_0) (fun hHeld => ?_); refine with_tabW billetlaw15_ShareRoom.tab9 billetlaw15_ShareRoom.bits9 (fun HT_ HW_ => ?_)
            generalize w23.drew = w27 at HO477 HO479 HO483 HO487 HO490 HB hx493_0 hHeld ⊢
            refine pure_ (i := 0) (N := some 47) (v := ?_) (a' := ?_) #[true, false, false, false, false, false, false, false, false, false, false] rfl rfl (any_of HT_.out (by kernel_rfl)) (fun _ _ _ h => h) (Or.inl ⟨by rfl, ?_⟩) ?_ ?_
            rotate_left
            · intro w'
              go_simp
              with_reducible rfl
            rotate_left
            · simp only [Act.put, List.setIfInBounds_toArray, List.set_cons_zero, List.set_cons_succ, i64_w, i32_w]
              rfl
            refine pure_ (i := 1) (N := some 48) (v := ?_) (a' := ?_) #[true, true, false, false, false, false, false, false, false, false, false] rfl rfl (any_of HT_.out (by kernel_rfl)) (fun _ _ _ h => h) (Or.inl ⟨by rfl, ?_⟩) ?_ ?_
            rotate_left
            · intro w'
              go_simp
              with_reducible rfl
            rotate_left
            · simp only [Act.put, List.setIfInBounds_toArray, List.set_cons_zero, List.set_cons_succ, i64_w, i32_w]
              rfl
            refine pure_ (i := 2) (N := some 49) (v := ?_) (a' := ?_) #[true, true, true, false, false, false, false, false, false, false, false] rfl rfl (any_of HT_.out (by kernel_rfl)) (fun _ _ _ h => h) (Or.inl ⟨by rfl, ?_⟩) ?_ ?_
            rotate_left
            · intro w'
              go_simp
              with_reducible rfl
            rotate_left
            · simp only [Act.put, List.setIfInBounds_toArray, List.set_cons_zero, List.set_cons_succ, i64_w, i32_w]
              rfl
            refine pure_ (i := 3) (N := some 50) (v := ?_) (a' := ?_) #[true, true, true, true, false, false, false, false, false, false, false] rfl rfl (any_of HT_.out (by kernel_rfl)) (fun _ _ _ h => h) (Or.inl ⟨by rfl, ?_⟩) ?_ ?_
            rotate_left
            · intro w'
              go_simp
              with_reducible rfl
            rotate_left
            · simp only [Act.put, List.setIfInBounds_toArray, List.set_cons_zero, List.set_cons_succ, i64_w, i32_w]
              rfl
            refine pure_ (i := 4) (N := some 51) (v := ?_) (a' := ?_) #[true, true, true, true, true, false, false, false, false, false, false] rfl rfl (any_of HT_.out (by kernel_rfl)) (fun _ _ _ h => h) (Or.inl ⟨by rfl, ?_⟩) ?_ ?_
            rotate_left
            · intro w'
              go_simp
              with_reducible rfl
            rotate_left
            · simp only [Act.put, List.setIfInBounds_toArray, List.set_cons_zero, List.set_cons_succ, i64_w, i32_w]
              rfl
            refine pure_ (i := 6) (N := some 53) (v := ?_) (a' := ?_) #[true, true, true, true, true, false, true, false, false, false, false] rfl rfl (any_of HT_.out (by kernel_rfl)) (fun _ _ _ h => h) (Or.inl ⟨by rfl, ?_⟩) ?_ ?_
            rotate_left
            · intro w'
              go_simp
              with_reducible rfl
            rotate_left
            · simp only [Act.put, List.setIfInBounds_toArray, List.set_cons_zero, List.set_cons_succ, i64_w, i32_w]
              rfl
            refine take_ (i := 5) (N := some 52) (v := ?_) (a' := ?_) #[true, true, true, true, true, true, true, false, false, false, false] rfl rfl (take_ofW HT_.out HW_.out (by kernel_rfl)) (fun _ _ _ h => h) (Or.inl ⟨by rfl, ?_⟩) hHeld ?_ ?_
            rotate_left
            · intro w' s0
              go_simp
              with_reducible rfl
            rotate_left
            · simp only [Act.put, List.setIfInBounds_toArray, List.set_cons_zero, List.set_cons_succ, i64_w, i32_w]
              rfl
            refine one_ (i := 7) (N := some 54) #[true, true, true, true, true, true, true, true, false, false, false] rfl rfl (one_of HT_.out (by kernel_rfl)) (by decide) (fun K hK => ?_)
            refine goes_ Try.func18 (by kernel_rfl) rfl #[.int .i64 a2, .int .i64 9] (by rfl) rfl rfl (by (try simp only [List.map_toArray, List.map_cons, List.map_nil]); first | done | rfl | (simp only [List.length_drop, List.length_take]; rfl)) ?_
            with_reducible refine (billetlaw15_pick.calls a2 9 t494 _ A25.out).mono ?_
            rintro e w' ⟨rfl, ⟨nd, rfl⟩⟩
            refine ⟨_, rfl, ?_⟩
            have p26 : 0 ≤ (t491 : Int) := of_decide_eq_true (by first | (with_reducible assumption) | assumption)
            have q26 : (t491 : Int) < ((y488.length : Int) : Int) := of_decide_eq_true (by first | (with_reducible assumption) | assumption)
            obtain ⟨go26, co26, eo26, gb26, gl26, cl26, HG26⟩ := Kd.R_form HO490.out (by omega)
            (first | cases eo26 | (injection eo26 with ea_ en_ ec_; (first | subst ea_ | (injection ea_ with ea_; subst ea_)); subst ec_; clear en_))
            have GB26 := Aside0.mk gb26
            have GG26 := Aside0.mk HG26
            clear gb26 gl26 HG26
            (first | simp only [add_plain] at hx492_0 | skip)
            (first | simp only [add_plain] at hx493_0 | skip)
            obtain ⟨hx26_0, hf26_0⟩ := Kd.R_celln 0 HO490.out (t491 : Int) p26 q26
            replace p26 := eq_true p26
            replace q26 := eq_true q26
            have HP28 := Kd.R_putn HO490.out (t491 : Int) (wrap64 ((rd y488 t491) + t494))
            rw [← Ny495.out] at HP28
            have HQ28 := Aside0.mk HP28
            clear HP28
            refine hK.out _ _ (hHeld) (fun hHeld => ?_)
            clear hK K
            refine norm_ (a' := ?_) ?_ ?_
            rotate_left
            · show Act.put _ (some 54) _ = _
              simp only [Act.put, List.setIfInBounds_toArray, List.set_cons_zero, List.set_cons_succ, i64_w, i32_w]
              rfl
            refine pure_ (i := 8) (N := some 55) (v := ?_) (a' := ?_) #[true, true, true, true, true, true, true, true, true, false, false] rfl rfl (any_of HT_.out (by kernel_rfl)) (fun _ _ _ h => h) (Or.inl ⟨by rfl, ?_⟩) ?_ ?_
            rotate_left
            · intro w'
              go_simp
              with_reducible rfl
            rotate_left
            · simp only [Act.put, List.setIfInBounds_toArray, List.set_cons_zero, List.set_cons_succ, i64_w, i32_w]
              rfl
            refine pure_ (i := 9) (N := some 56) (v := ?_) (a' := ?_) #[true, true, true, true, true, true, true, true, true, true, false] rfl rfl (any_of HT_.out (by kernel_rfl)) (fun _ _ _ h => h) (Or.inl ⟨by rfl, ?_⟩) ?_ ?_
            rotate_left
            · intro w'
              go_simp
              with_reducible rfl
            rotate_left
            · simp only [Act.put, List.setIfInBounds_toArray, List.set_cons_zero, List.set_cons_succ, i64_w, i32_w]
              rfl
            refine last_ (i := 10) (N := none) #[true, true, true, true, true, true, true, true, true, true, true] rfl rfl (one_of HT_.out (by kernel_rfl)) (by decide) (fun K hK => ?_)
            refine skip_ (w1 := ?_) (by rfl) rfl ?_ ?_
            rotate_left
            · go_simp
              rfl
            refine hK.out _ _ ?_
            clear hK K
            refine done_ (done_of HT_.out (by kernel_rfl)) ?_
            try go_wp2
            go_meet
            case rel => exact ⟨_, (y495), H', ⟨by first | omega | exact Nat.le_refl _⟩, ⟨by (with_reducible repeat (first | apply Kd.R_alloc | apply Kd.R_drewN | apply Kd.R_drew)); exact Kd.R_mono (Kd.R_far (p := ⟨go26, (t491 : Int).toNat, none⟩) (Kd.R_mono HO477.out (fun k_ hk => (⟨hk, fun e_ => hk.2 (by rw [e_]; rfl)⟩ : _ ∧ k_ ≠ go26))) (fun _ hk => hk.2) (.int .i64 (wrap64 ((rd y488 t491) + t494)))) (fun _ hk => ⟨hk.1.1.1.1, ⟨hk.1.1.1.2, ⟨hk.1.1.2, hk.1.2⟩⟩⟩)⟩, ⟨by (with_reducible repeat (first | apply Kd.R_alloc | apply Kd.R_drewN | apply Kd.R_drew)); exact Kd.R_mono (Kd.R_far (p := ⟨go26, (t491 : Int).toNat, none⟩) (Kd.R_mono HO479.out (fun k_ hk => (⟨hk, fun e_ => hk.2 (by rw [e_]; rfl)⟩ : _ ∧ k_ ≠ go26))) (fun _ hk => hk.2) (.int .i64 (wrap64 ((rd y488 t491) + t494)))) (fun _ hk => ⟨hk.1.1.1.1, ⟨hk.1.1.1.2, ⟨hk.1.1.2, hk.1.2⟩⟩⟩)⟩, ⟨by (with_reducible repeat (first | apply Kd.R_alloc | apply Kd.R_drewN | apply Kd.R_drew)); exact Kd.R_mono (Kd.R_far (p := ⟨go26, (t491 : Int).toNat, none⟩) (Kd.R_mono HO483.out (fun k_ hk => (⟨hk, fun e_ => hk.2 (by rw [e_]; rfl)⟩ : _ ∧ k_ ≠ go26))) (fun _ hk => hk.2) (.int .i64 (wrap64 ((rd y488 t491) + t494)))) (fun _ hk => ⟨hk.1.1.1.1.2, ⟨hk.1.1.1.2, ⟨hk.1.1.2, hk.1.2⟩⟩⟩)⟩, ⟨by (with_reducible repeat (first | apply Kd.R_alloc | apply Kd.R_drewN | apply Kd.R_drew)); exact Kd.R_mono (Kd.R_far (p := ⟨go26, (t491 : Int).toNat, none⟩) (Kd.R_mono HO487.out (fun k_ hk => (⟨hk, fun e_ => hk.2 (by rw [e_]; rfl)⟩ : _ ∧ k_ ≠ go26))) (fun _ hk => hk.2) (.int .i64 (wrap64 ((rd y488 t491) + t494)))) (fun _ hk => ⟨hk.1.1.1.1.2, ⟨hk.1.1.1.2, ⟨hk.1.1.2, hk.1.2⟩⟩⟩)⟩, ⟨by (with_reducible repeat (first | apply Kd.R_alloc | apply Kd.R_drewN | apply Kd.R_drew)); exact HQ28.out⟩, ⟨by repeat (first | (with_reducible first | exact HB.out | apply below_alloc | apply pw_below_drewN | apply below_drew1 | refine below_set ?_ GB26.out) | exact HB.out)⟩⟩
          · rw [if_neg c24] at H
            have c24b0 : decide (0 ≤ (rd y488 t491)) = false := decide_eq_false c24
            clear c24
            (first | rw [c24b0] | (simp only [i64_w, i32_w]; rw [c24b0]) | skip)
            have H' := Aside0.mk H
            clear H
            go_wp2
            go_meet
            case rel => exact ⟨_, (y488), H', ⟨by first | omega | exact Nat.le_refl _⟩, ⟨by (with_reducible repeat (first | apply Kd.R_alloc | apply Kd.R_drewN | apply Kd.R_drew)); exact Kd.R_mono HO477.out (fun _ hk => ⟨hk.1.1.1, ⟨hk.1.1.2, ⟨hk.1.2, hk.2⟩⟩⟩)⟩, ⟨by (with_reducible repeat (first | apply Kd.R_alloc | apply Kd.R_drewN | apply Kd.R_drew)); exact Kd.R_mono HO479.out (fun _ hk => ⟨hk.1.1.1, ⟨hk.1.1.2, ⟨hk.1.2, hk.2⟩⟩⟩)⟩, ⟨by (with_reducible repeat (first | apply Kd.R_alloc | apply Kd.R_drewN | apply Kd.R_drew)); exact Kd.R_mono HO483.out (fun _ hk => ⟨hk.1.1.1.2, ⟨hk.1.1.2, ⟨hk.1.2, hk.2⟩⟩⟩)⟩, ⟨by (with_reducible repeat (first | apply Kd.R_alloc | apply Kd.R_drewN | apply Kd.R_drew)); exact Kd.R_mono HO487.out (fun _ hk => ⟨hk.1.1.1.2, ⟨hk.1.1.2, ⟨hk.1.2, hk.2⟩⟩⟩)⟩, ⟨by (with_reducible repeat (first | apply Kd.R_alloc | apply Kd.R_drewN | apply Kd.R_drew)); exact HO490.out⟩, ⟨by repeat (first | (with_reducible first | exact HB.out | apply below_alloc | apply pw_below_drewN | apply below_drew1) | exact HB.out)⟩⟩
        case rest =>
          clear HC15
          try clear c1
          try clear c2
          try clear p2
          try clear q2
          try clear hx2
          try clear p4
          try clear q4
          try clear hx4
          try clear p6
          try clear c8
          try clear c10
          try clear c11
          try clear c13
          try clear c13b0
          try clear c14
          try clear c14b0
          try clear c17
          try clear c18
          try clear c24
          try clear c24b0
          try clear p26
          try clear q26
          try clear hx26
          try clear hf26
          try clear hx26_0
          try clear hx492_0
          try clear hx493_0
          try clear p26
          try clear p492
          try clear p493
          try clear q26
          try clear q492
          try clear q493
          obtain ⟨kq, x14_14, HA, HJ14, HO_10, HO_11, HO_12, HO_13, HO_14, HB⟩ := hcut
          have hl14_14 := (Kd.R_reads' HO_14.out).1
          rw [hl14_14] at HO_14
          (try simp only [hl14_14])
          (try simp only [hl14_14] at HO_10)
          (try simp only [hl14_14] at HO_11)
          (try simp only [hl14_14] at HO_12)
          (try simp only [hl14_14] at HO_13)
          cases kq with
          | zero => exact absurd HA.out (by simp [billetlaw15_ShareRoom.j0])
          | succ kj14 =>
            have H := HA.out
            clear HA
            simp only [billetlaw15_ShareRoom.j0] at H
            replace H := Option.bind_eq_some_iff.mp H
            obtain ⟨t496, A290, H⟩ := H
            replace H : (if t473 = true then (if (t481.length : Int) = 3 then (if (t485.length : Int) = 3 then (billetlaw15_ShareRoom.j1 kj14 t474 t481 t485 x14_14 t496 ((t496.length : Int) != 3)) else (billetlaw15_ShareRoom.j1 kj14 t474 t481 t485 x14_14 t496 true)) else (billetlaw15_ShareRoom.j1 kj14 t474 t481 t485 x14_14 t496 true)) else (billetlaw15_ShareRoom.j1 kj14 t474 t481 t485 x14_14 t496 true)) = some r := H
            have A29 := Aside0.mk A290
            clear A290
            have HC30 := Aside0.mk H
            clear H
            go_upto_region 11 with (first | ((with_reducible refine gate_callee (f := 11) rfl ?_); refine goesL_ (some 60) rfl rfl Try.func11 (by kernel_rfl) rfl #[.int .i64 t480, .slice (some ad492) x14_14.length co23, .slice Ao19 t475.length co19] rfl (by (try simp only [List.map_toArray, List.map_cons, List.map_nil]); first | done | rfl | (simp only [List.length_drop, List.length_take]; rfl)) ?_; (with_reducible refine (share_Share.calls kj14 t480 _ _ x14_14 _ _ t475 t496 _ ?side1 ?side2 ?side3 ?side4 A29.out).mono ?_); (case side1 => repeat (first | exact (Kd.R_reads' HO_14.out).2.2 | (with_reducible refine Kd.C_alloc ?_ _) | (with_reducible refine Kd.C_drewN ?_ _) | (with_reducible refine Kd.C_drew ?_))); (case side2 => exact (Kd.R_reads' HO_14.out).2.1); (case side3 => repeat (first | exact (Kd.R_reads' HO_11.out).2.2 | (with_reducible refine Kd.C_alloc ?_ _) | (with_reducible refine Kd.C_drewN ?_ _) | (with_reducible refine Kd.C_drew ?_))); (case side4 => exact (Kd.R_reads' HO_11.out).2.1); rintro e w31 ⟨v497, rfl, ho0, hb⟩; refine ⟨_, rfl, ?_⟩; have n0_ := Aside0.mk (Kd.R_elder' (by (with_reducible repeat (first | apply Kd.R_alloc | apply Kd.R_drewN | apply Kd.R_drew)); exact HO_10.out) (Kd.R_base ho0) hb); have n1_ := Aside0.mk (Kd.R_elder' (by (with_reducible repeat (first | apply Kd.R_alloc | apply Kd.R_drewN | apply Kd.R_drew)); exact HO_11.out) (Kd.R_base ho0) hb); have n2_ := Aside0.mk (Kd.R_elder' (by (with_reducible repeat (first | apply Kd.R_alloc | apply Kd.R_drewN | apply Kd.R_drew)); exact HO_12.out) (Kd.R_base ho0) hb); have n3_ := Aside0.mk (Kd.R_elder' (by (with_reducible repeat (first | apply Kd.R_alloc | apply Kd.R_drewN | apply Kd.R_drew)); exact HO_13.out) (Kd.R_base ho0) hb); have n4_ := Aside0.mk (Kd.R_elder' (by (with_reducible repeat (first | apply Kd.R_alloc | apply Kd.R_drewN | apply Kd.R_drew)); exact HO_14.out) (Kd.R_base ho0) hb); have n5_ := Aside0.mk (Kd.R_lower (Kd.R_new' (Kd.R_new' (Kd.R_new' (Kd.R_new' (Kd.R_new' ho0 (Kd.R_lt (by (with_reducible repeat (first | apply Kd.R_alloc | apply Kd.R_drewN | apply Kd.R_drew)); exact HO_10.out))) (Kd.R_lt (by (with_reducible repeat (first | apply Kd.R_alloc | apply Kd.R_drewN | apply Kd.R_drew)); exact HO_11.out))) (Kd.R_lt (by (with_reducible repeat (first | apply Kd.R_alloc | apply Kd.R_drewN | apply Kd.R_drew)); exact HO_12.out))) (Kd.R_lt (by (with_reducible repeat (first | apply Kd.R_alloc | apply Kd.R_drewN | apply Kd.R_drew)); exact HO_13.out))) (Kd.R_lt (by (with_reducible repeat (first | apply Kd.R_alloc | apply Kd.R_drewN | apply Kd.R_drew)); exact HO_14.out))) (below_size (by repeat (first | (with_reducible first | exact HB.out | apply below_alloc | apply pw_below_drewN | apply below_drew1) | exact HB.out)))); have n6_ := Aside0.mk (below_step (by repeat (first | (with_reducible first | exact HB.out | apply below_alloc | apply pw_below_drewN | apply below_drew1) | exact HB.out)) hb); clear HO_10; clear HO_11; clear HO_12; clear HO_13; clear HO_14; clear HB; have HO_10 := n0_; have HO_11 := n1_; have HO_12 := n2_; have HO_13 := n3_; have HO_14 := n4_; have HO498 := n5_; have HB := n6_; clear n0_ n1_ n2_ n3_ n4_ n5_ n6_; (try clear hb); (try clear hb2); (try clear hk); (try clear hi); (try clear ho0)))
            (try simp only [Act.put, List.setIfInBounds_toArray, List.set_cons_zero, List.set_cons_succ])
            go_cut [77] (fun v77 wc => ∃ (kq : Nat) (x77_29 : Bool), v77 = .bool x77_29 ∧ Aside0 (billetlaw15_ShareRoom.j1 kq t474 t481 t485 x14_14 t496 x77_29 = some r) ∧ Aside0 (kq ≤ kj14) ∧ Aside0 (Kd.R (Kd.int .i64) 3 wc w.heap.size (fun k_ => some k_ ≠ (v482 : Value).ownBlock ∧ some k_ ≠ (v486 : Value).ownBlock ∧ some k_ ≠ ((.slice (some ad492) x14_14.length co23) : Value).ownBlock ∧ some k_ ≠ (v497 : Value).ownBlock) (.slice Ao18 t474.length co18) t474) ∧ Aside0 (Kd.R (Kd.int .i64) 3 wc w.heap.size (fun k_ => some k_ ≠ ((.slice Ao18 t474.length co18) : Value).ownBlock ∧ some k_ ≠ (v486 : Value).ownBlock ∧ some k_ ≠ ((.slice (some ad492) x14_14.length co23) : Value).ownBlock ∧ some k_ ≠ (v497 : Value).ownBlock) v482 t481) ∧ Aside0 (Kd.R (Kd.int .i64) 3 wc w.heap.size (fun k_ => some k_ ≠ ((.slice Ao18 t474.length co18) : Value).ownBlock ∧ some k_ ≠ (v482 : Value).ownBlock ∧ some k_ ≠ ((.slice (some ad492) x14_14.length co23) : Value).ownBlock ∧ some k_ ≠ (v497 : Value).ownBlock) v486 t485) ∧ Aside0 (Kd.R (Kd.int .i64) 3 wc w.heap.size (fun k_ => some k_ ≠ ((.slice Ao18 t474.length co18) : Value).ownBlock ∧ some k_ ≠ (v482 : Value).ownBlock ∧ some k_ ≠ (v486 : Value).ownBlock ∧ some k_ ≠ (v497 : Value).ownBlock) (.slice (some ad492) x14_14.length co23) x14_14) ∧ Aside0 (Kd.R (Kd.int .i64) 3 wc w.heap.size (fun k_ => some k_ ≠ ((.slice Ao18 t474.length co18) : Value).ownBlock ∧ some k_ ≠ (v482 : Value).ownBlock ∧ some k_ ≠ (v486 : Value).ownBlock ∧ some k_ ≠ ((.slice (some ad492) x14_14.length co23) : Value).ownBlock) v497 t496) ∧ Aside0 (Below w.heap.size w wc))
            case first =>
              have H := HC30.out
              clear HC30
              by_cases c32 : t473 = true
              · subst c32
                have H1 : (if (t481.length : Int) = 3 then (if (t485.length : Int) = 3 then (billetlaw15_ShareRoom.j1 kj14 t474 t481 t485 x14_14 t496 ((t496.length : Int) != 3)) else (billetlaw15_ShareRoom.j1 kj14 t474 t481 t485 x14_14 t496 true)) else (billetlaw15_ShareRoom.j1 kj14 t474 t481 t485 x14_14 t496 true)) = some r := by rw [if_pos rfl] at H; exact H
                clear H
                have H := H1
                clear H1
                by_cases c33 : (t481.length : Int) = 3
                · rw [if_pos c33] at H
                  have c33b0 : ((t481.length : Int) == 3) = true := beq_iff_eq.mpr c33
                  have c33b1 : ((t481.length : Int) != 3) = false := bne_eq_false_iff_eq.mpr c33
                  clear c33
                  (first | rw [c33b0] | (simp only [i64_w, i32_w]; rw [c33b0]) | skip)
                  by_cases c34 : (t485.length : Int) = 3
                  · rw [if_pos c34] at H
                    have c34b0 : ((t485.length : Int) == 3) = true := beq_iff_eq.mpr c34
                    have c34b1 : ((t485.length : Int) != 3) = false := bne_eq_false_iff_eq.mpr c34
                    clear c34
                    have H' := Aside0.mk H
                    clear H
                    obtain ⟨Ao35, co35, eo35⟩ := Kd.R_slice HO_12.out
                    subst eo35
                    obtain ⟨Ao36, co36, eo36⟩ := Kd.R_slice HO_13.out
                    subst eo36
                    obtain ⟨Ao37, co37, eo37⟩ := Kd.R_slice HO498.out
                    subst eo37
                    go_wp2
                    go_meet
                    case rel => exact ⟨_, (((t496.length : Int) != 3)), (by first | rfl | (simp; done) | (simp [*]; done)), H', ⟨by have := HJ14.out; first | omega | exact Nat.le_refl _⟩, ⟨by (try simp only [hl14_14]); (with_reducible repeat (first | apply Kd.R_alloc | apply Kd.R_drewN | apply Kd.R_drew)); exact Kd.R_mono HO_10.out (fun _ hk => ⟨hk.1.2.1, ⟨hk.1.2.2.1, ⟨hk.1.2.2.2, hk.2⟩⟩⟩)⟩, ⟨by (try simp only [hl14_14]); (with_reducible repeat (first | apply Kd.R_alloc | apply Kd.R_drewN | apply Kd.R_drew)); exact Kd.R_mono HO_12.out (fun _ hk => ⟨hk.1.1, ⟨hk.1.2.2.1, ⟨hk.1.2.2.2, hk.2⟩⟩⟩)⟩, ⟨by (try simp only [hl14_14]); (with_reducible repeat (first | apply Kd.R_alloc | apply Kd.R_drewN | apply Kd.R_drew)); exact Kd.R_mono HO_13.out (fun _ hk => ⟨hk.1.1, ⟨hk.1.2.2.1, ⟨hk.1.2.2.2, hk.2⟩⟩⟩)⟩, ⟨by (try simp only [hl14_14]); (with_reducible repeat (first | apply Kd.R_alloc | apply Kd.R_drewN | apply Kd.R_drew)); exact Kd.R_mono HO_14.out (fun _ hk => ⟨hk.1.1, ⟨hk.1.2.2.1, ⟨hk.1.2.2.2, hk.2⟩⟩⟩)⟩, ⟨by (try simp only [hl14_14]); (with_reducible repeat (first | apply Kd.R_alloc | apply Kd.R_drewN | apply Kd.R_drew)); exact Kd.R_mono HO498.out (fun _ hk => ⟨hk.1.1.1.1.2, ⟨hk.1.1.2, ⟨hk.1.2, hk.2⟩⟩⟩)⟩, ⟨by repeat (first | (with_reducible first | exact HB.out | apply below_alloc | apply pw_below_drewN | apply below_drew1) | exact HB.out)⟩⟩
                  · rw [if_neg c34] at H
                    have c34b0 : ((t485.length : Int) == 3) = false := beq_eq_false_iff_ne.mpr c34
                    have c34b1 : ((t485.length : Int) != 3) = true := bne_iff_ne.mpr c34
                    have H' := Aside0.mk H
                    clear H
                    obtain ⟨Ao38, co38, eo38⟩ := Kd.R_slice HO_12.out
                    subst eo38
                    obtain ⟨Ao39, co39, eo39⟩ := Kd.R_slice HO_13.out
                    subst eo39
                    go_wp2
                    go_meet
                    case rel => exact ⟨_, (true), (by first | rfl | (simp; done) | (simp [*]; done)), H', ⟨by have := HJ14.out; first | omega | exact Nat.le_refl _⟩, ⟨by (try simp only [hl14_14]); (with_reducible repeat (first | apply Kd.R_alloc | apply Kd.R_drewN | apply Kd.R_drew)); exact Kd.R_mono HO_10.out (fun _ hk => ⟨hk.1.2.1, ⟨hk.1.2.2.1, ⟨hk.1.2.2.2, hk.2⟩⟩⟩)⟩, ⟨by (try simp only [hl14_14]); (with_reducible repeat (first | apply Kd.R_alloc | apply Kd.R_drewN | apply Kd.R_drew)); exact Kd.R_mono HO_12.out (fun _ hk => ⟨hk.1.1, ⟨hk.1.2.2.1, ⟨hk.1.2.2.2, hk.2⟩⟩⟩)⟩, ⟨by (try simp only [hl14_14]); (with_reducible repeat (first | apply Kd.R_alloc | apply Kd.R_drewN | apply Kd.R_drew)); exact Kd.R_mono HO_13.out (fun _ hk => ⟨hk.1.1, ⟨hk.1.2.2.1, ⟨hk.1.2.2.2, hk.2⟩⟩⟩)⟩, ⟨by (try simp only [hl14_14]); (with_reducible repeat (first | apply Kd.R_alloc | apply Kd.R_drewN | apply Kd.R_drew)); exact Kd.R_mono HO_14.out (fun _ hk => ⟨hk.1.1, ⟨hk.1.2.2.1, ⟨hk.1.2.2.2, hk.2⟩⟩⟩)⟩, ⟨by (try simp only [hl14_14]); (with_reducible repeat (first | apply Kd.R_alloc | apply Kd.R_drewN | apply Kd.R_drew)); exact Kd.R_mono HO498.out (fun _ hk => ⟨hk.1.1.1.1.2, ⟨hk.1.1.2, ⟨hk.1.2, hk.2⟩⟩⟩)⟩, ⟨by repeat (first | (with_reducible first | exact HB.out | apply below_alloc | apply pw_below_drewN | apply below_drew1) | exact HB.out)⟩⟩
                · rw [if_neg c33] at H
                  have c33b0 : ((t481.length : Int) == 3) = false := beq_eq_false_iff_ne.mpr c33
                  have c33b1 : ((t481.length : Int) != 3) = true := bne_iff_ne.mpr c33
                  (first | rw [c33b0] | (simp only [i64_w, i32_w]; rw [c33b0]) | skip)
                  have H' := Aside0.mk H
                  clear H
                  obtain ⟨Ao40, co40, eo40⟩ := Kd.R_slice HO_12.out
                  subst eo40
                  go_wp2
                  go_meet
                  case rel => exact ⟨_, (true), (by first | rfl | (simp; done) | (simp [*]; done)), H', ⟨by have := HJ14.out; first | omega | exact Nat.le_refl _⟩, ⟨by (try simp only [hl14_14]); (with_reducible repeat (first | apply Kd.R_alloc | apply Kd.R_drewN | apply Kd.R_drew)); exact Kd.R_mono HO_10.out (fun _ hk => ⟨hk.1.2.1, ⟨hk.1.2.2.1, ⟨hk.1.2.2.2, hk.2⟩⟩⟩)⟩, ⟨by (try simp only [hl14_14]); (with_reducible repeat (first | apply Kd.R_alloc | apply Kd.R_drewN | apply Kd.R_drew)); exact Kd.R_mono HO_12.out (fun _ hk => ⟨hk.1.1, ⟨hk.1.2.2.1, ⟨hk.1.2.2.2, hk.2⟩⟩⟩)⟩, ⟨by (try simp only [hl14_14]); (with_reducible repeat (first | apply Kd.R_alloc | apply Kd.R_drewN | apply Kd.R_drew)); exact Kd.R_mono HO_13.out (fun _ hk => ⟨hk.1.1, ⟨hk.1.2.2.1, ⟨hk.1.2.2.2, hk.2⟩⟩⟩)⟩, ⟨by (try simp only [hl14_14]); (with_reducible repeat (first | apply Kd.R_alloc | apply Kd.R_drewN | apply Kd.R_drew)); exact Kd.R_mono HO_14.out (fun _ hk => ⟨hk.1.1, ⟨hk.1.2.2.1, ⟨hk.1.2.2.2, hk.2⟩⟩⟩)⟩, ⟨by (try simp only [hl14_14]); (with_reducible repeat (first | apply Kd.R_alloc | apply Kd.R_drewN | apply Kd.R_drew)); exact Kd.R_mono HO498.out (fun _ hk => ⟨hk.1.1.1.1.2, ⟨hk.1.1.2, ⟨hk.1.2, hk.2⟩⟩⟩)⟩, ⟨by repeat (first | (with_reducible first | exact HB.out | apply below_alloc | apply pw_below_drewN | apply below_drew1) | exact HB.out)⟩⟩
              · replace c32 := Bool.eq_false_iff.mpr c32
                subst c32
                have H1 : (billetlaw15_ShareRoom.j1 kj14 t474 t481 t485 x14_14 t496 true) = some r := by rw [if_neg (show ¬ (false = true) by decide)] at H; exact H
                clear H
                have H := H1
                clear H1
                have H' := Aside0.mk H
                clear H
                go_wp2
                go_meet
                case rel => exact ⟨_, (true), (by first | rfl | (simp; done) | (simp [*]; done)), H', ⟨by have := HJ14.out; first | omega | exact Nat.le_refl _⟩, ⟨by (try simp only [hl14_14]); (with_reducible repeat (first | apply Kd.R_alloc | apply Kd.R_drewN | apply Kd.R_drew)); exact Kd.R_mono HO_10.out (fun _ hk => ⟨hk.1.2.1, ⟨hk.1.2.2.1, ⟨hk.1.2.2.2, hk.2⟩⟩⟩)⟩, ⟨by (try simp only [hl14_14]); (with_reducible repeat (first | apply Kd.R_alloc | apply Kd.R_drewN | apply Kd.R_drew)); exact Kd.R_mono HO_12.out (fun _ hk => ⟨hk.1.1, ⟨hk.1.2.2.1, ⟨hk.1.2.2.2, hk.2⟩⟩⟩)⟩, ⟨by (try simp only [hl14_14]); (with_reducible repeat (first | apply Kd.R_alloc | apply Kd.R_drewN | apply Kd.R_drew)); exact Kd.R_mono HO_13.out (fun _ hk => ⟨hk.1.1, ⟨hk.1.2.2.1, ⟨hk.1.2.2.2, hk.2⟩⟩⟩)⟩, ⟨by (try simp only [hl14_14]); (with_reducible repeat (first | apply Kd.R_alloc | apply Kd.R_drewN | apply Kd.R_drew)); exact Kd.R_mono HO_14.out (fun _ hk => ⟨hk.1.1, ⟨hk.1.2.2.1, ⟨hk.1.2.2.2, hk.2⟩⟩⟩)⟩, ⟨by (try simp only [hl14_14]); (with_reducible repeat (first | apply Kd.R_alloc | apply Kd.R_drewN | apply Kd.R_drew)); exact Kd.R_mono HO498.out (fun _ hk => ⟨hk.1.1.1.1.2, ⟨hk.1.1.2, ⟨hk.1.2, hk.2⟩⟩⟩)⟩, ⟨by repeat (first | (with_reducible first | exact HB.out | apply below_alloc | apply pw_below_drewN | apply below_drew1) | exact HB.out)⟩⟩
            case rest =>
              clear HC30
              try clear c1
              try clear c2
              try clear p2
              try clear q2
              try clear hx2
              try clear c3
              try clear p4
              try clear q4
              try clear hx4
              try clear p6
              try clear c8
              try clear c10
              try clear c11
              try clear c13
              try clear c13b0
              try clear c14
              try clear c14b0
              try clear c17
              try clear c18
              try clear c24
              try clear c24b0
              try clear p26
              try clear q26
              try clear hx26
              try clear hf26
              try clear c32
              try clear c33
              try clear c33b0
              try clear c33b1
              try clear c34
              try clear c34b0
              try clear c34b1
              try clear hx26_0
              try clear hx492_0
              try clear hx493_0
              try clear p2
              try clear p26
              try clear p4
              try clear p492
              try clear p493
              try clear p6
              try clear q2
              try clear q26
              try clear q4
              try clear q492
              try clear q493
              obtain ⟨kq, x77_29, rfl, HA, HJ29, HO_10, HO_12, HO_13, HO_14, HO_15, HB⟩ := hcut
              cases kq with
              | zero => exact absurd HA.out (by simp [billetlaw15_ShareRoom.j1])
              | succ kj29 =>
                have H := HA.out
                clear HA
                simp only [billetlaw15_ShareRoom.j1] at H
                by_cases c41 : x77_29 = true
                · subst c41
                  have H1 : (some false) = some r := by rw [if_pos rfl] at H; exact H
                  clear H
                  have H := H1
                  clear H1
                  obtain rfl := Option.some.inj H
                  go_wp2
                  go_ret
                  exact ⟨by first | rfl | (simp [errW_none, errW_some] <;> rfl) | (simp [*, errW_none, errW_some] <;> rfl), by repeat (first | (with_reducible first | exact HB.out | apply below_alloc | apply pw_below_drewN | apply below_drew1) | exact HB.out)⟩
                · replace c41 := Bool.eq_false_iff.mpr c41
                  subst c41
                  have H1 : (billetlaw15_ShareRoom.l0 kj29 t474 t481 t485 x14_14 t496 0 0 0) = some r := by rw [if_neg (show ¬ (false = true) by decide)] at H; exact H
                  clear H
                  have H := H1
                  clear H1
                  have H' := Aside0.mk H
                  clear H
                  go_wp2
                  go_loopg [16, 17, 18] kj29 (fun kq v16 v17 v18 w' => ∃ (x16_3 : Int) (x17_3 : Int) (x18_3 : Int), v16 = .int .i64 x16_3 ∧ v17 = .int .i64 x17_3 ∧ v18 = .int .i64 x18_3 ∧ Aside0 (billetlaw15_ShareRoom.l0 kq t474 t481 t485 x14_14 t496 x16_3 x17_3 x18_3 = some r) ∧ Aside0 (kq ≤ kj29) ∧ Aside0 (Kd.R (Kd.int .i64) 3 w' w.heap.size (fun k_ => some k_ ≠ (v482 : Value).ownBlock ∧ some k_ ≠ (v486 : Value).ownBlock ∧ some k_ ≠ ((.slice (some ad492) x14_14.length co23) : Value).ownBlock ∧ some k_ ≠ (v497 : Value).ownBlock) (.slice Ao18 t474.length co18) t474) ∧ Aside0 (Kd.R (Kd.int .i64) 3 w' w.heap.size (fun k_ => some k_ ≠ ((.slice Ao18 t474.length co18) : Value).ownBlock ∧ some k_ ≠ (v486 : Value).ownBlock ∧ some k_ ≠ ((.slice (some ad492) x14_14.length co23) : Value).ownBlock ∧ some k_ ≠ (v497 : Value).ownBlock) v482 t481) ∧ Aside0 (Kd.R (Kd.int .i64) 3 w' w.heap.size (fun k_ => some k_ ≠ ((.slice Ao18 t474.length co18) : Value).ownBlock ∧ some k_ ≠ (v482 : Value).ownBlock ∧ some k_ ≠ ((.slice (some ad492) x14_14.length co23) : Value).ownBlock ∧ some k_ ≠ (v497 : Value).ownBlock) v486 t485) ∧ Aside0 (Kd.R (Kd.int .i64) 3 w' w.heap.size (fun k_ => some k_ ≠ ((.slice Ao18 t474.length co18) : Value).ownBlock ∧ some k_ ≠ (v482 : Value).ownBlock ∧ some k_ ≠ (v486 : Value).ownBlock ∧ some k_ ≠ (v497 : Value).ownBlock) (.slice (some ad492) x14_14.length co23) x14_14) ∧ Aside0 (Kd.R (Kd.int .i64) 3 w' w.heap.size (fun k_ => some k_ ≠ ((.slice Ao18 t474.length co18) : Value).ownBlock ∧ some k_ ≠ (v482 : Value).ownBlock ∧ some k_ ≠ (v486 : Value).ownBlock ∧ some k_ ≠ ((.slice (some ad492) x14_14.length co23) : Value).ownBlock) v497 t496) ∧ Aside0 (Below w.heap.size w w'))
                  case atStart => exact ⟨(0), (0), (0), (by first | rfl | (simp; done) | (simp [*]; done)), (by first | rfl | (simp; done) | (simp [*]; done)), (by first | rfl | (simp; done) | (simp [*]; done)), H', ⟨Nat.le_refl _⟩, ⟨by (try simp only [hl14_14]); (with_reducible repeat (first | apply Kd.R_alloc | apply Kd.R_drewN | apply Kd.R_drew)); exact HO_10.out⟩, ⟨by (try simp only [hl14_14]); (with_reducible repeat (first | apply Kd.R_alloc | apply Kd.R_drewN | apply Kd.R_drew)); exact HO_12.out⟩, ⟨by (try simp only [hl14_14]); (with_reducible repeat (first | apply Kd.R_alloc | apply Kd.R_drewN | apply Kd.R_drew)); exact HO_13.out⟩, ⟨by (try simp only [hl14_14]); (with_reducible repeat (first | apply Kd.R_alloc | apply Kd.R_drewN | apply Kd.R_drew)); exact HO_14.out⟩, ⟨by (try simp only [hl14_14]); (with_reducible repeat (first | apply Kd.R_alloc | apply Kd.R_drewN | apply Kd.R_drew)); exact HO_15.out⟩, ⟨by repeat (first | (with_reducible first | exact HB.out | apply below_alloc | apply pw_below_drewN | apply below_drew1) | exact HB.out)⟩⟩
                  case round =>
                    clear H'
                    try clear c1
                    try clear c2
                    try clear p2
                    try clear q2
                    try clear hx2
                    try clear c3
                    try clear c4
                    try clear p4
                    try clear q4
                    try clear hx4
                    try clear p6
                    try clear c8
                    try clear c10
                    try clear c11
                    try clear c13
                    try clear c13b0
                    try clear c14
                    try clear c14b0
                    try clear c17
                    try clear c18
                    try clear c24
                    try clear c24b0
                    try clear p26
                    try clear q26
                    try clear hx26
                    try clear hf26
                    try clear c32
                    try clear c33
                    try clear c33b0
                    try clear c33b1
                    try clear c34
                    try clear c34b0
                    try clear c34b1
                    try clear c41
                    try clear hx26_0
                    try clear hx492_0
                    try clear hx493_0
                    try clear p2
                    try clear p26
                    try clear p4
                    try clear p492
                    try clear p493
                    try clear p6
                    try clear q2
                    try clear q26
                    try clear q4
                    try clear q492
                    try clear q493
                    obtain ⟨x16_3, x17_3, x18_3, rfl, rfl, rfl, HA, HK3, HO_10, HO_12, HO_13, HO_14, HO_15, HB⟩ := hrel
                    cases gk with
                    | zero => exact absurd HA.out (by simp [billetlaw15_ShareRoom.l0])
                    | succ k3 =>
                      have H := HA.out
                      clear HA
                      simp only [billetlaw15_ShareRoom.l0] at H
                      by_cases c42 : x18_3 < 3
                      · rw [if_pos c42] at H
                        have c42b0 : decide (x18_3 < 3) = true := decide_eq_true c42
                        clear c42
                        by_cases c43 : 0 ≤ x18_3
                        · rw [if_pos c43] at H
                          have c43b0 : decide (0 ≤ x18_3) = true := decide_eq_true c43
                          clear c43
                          by_cases c44 : x18_3 < (t485.length : Int)
                          · rw [if_pos c44] at H
                            have c44b0 : decide (x18_3 < (t485.length : Int)) = true := decide_eq_true c44
                            clear c44
                            by_cases c45 : x18_3 < (t481.length : Int)
                            · rw [if_pos c45] at H
                              have c45b0 : decide (x18_3 < (t481.length : Int)) = true := decide_eq_true c45
                              clear c45
                              by_cases c46 : (rd t485 x18_3) < (rd t481 x18_3)
                              · rw [if_pos c46] at H
                                have c46b0 : decide ((rd t485 x18_3) < (rd t481 x18_3)) = true := decide_eq_true c46
                                clear c46
                                obtain rfl := Option.some.inj H
                                try go_wp2
                                have n0_ := Aside0.mk (Kd.R_drew HO_10.out)
                                have n1_ := Aside0.mk (Kd.R_drew HO_12.out)
                                have n2_ := Aside0.mk (Kd.R_drew HO_13.out)
                                have n3_ := Aside0.mk (Kd.R_drew HO_14.out)
                                have n4_ := Aside0.mk (Kd.R_drew HO_15.out)
                                have n5_ := Aside0.mk (below_drew1 HB.out)
                                clear HO_10
                                clear HO_12
                                clear HO_13
                                clear HO_14
                                clear HO_15
                                clear HB
                                have HO_10 := n0_
                                have HO_12 := n1_
                                have HO_13 := n2_
                                have HO_14 := n3_
                                have HO_15 := n4_
                                have HB := n5_
                                clear n0_ n1_ n2_ n3_ n4_ n5_
                                obtain ⟨Ao48, co48, eo48⟩ := Kd.R_slice HO_13.out
                                (first | subst eo48 | (injection eo48 with f1_ f2_ f3_; have f4_ := f1_.symm; have f5_ := f3_.symm; clear f1_ f2_ f3_; subst f4_; subst f5_))
                                have p499 : 0 ≤ (x18_3 : Int) := of_decide_eq_true (by first | (with_reducible assumption) | assumption)
                                have q499 : x18_3 < (t485.length : Int) := of_decide_eq_true (by first | (with_reducible assumption) | assumption)
                                obtain ⟨ad499, e499, hx499_0⟩ := Kd.at_int (Kd.R_reads' HO_13.out).2.2 x18_3 p499 q499
                                cases e499
                                replace p499 := eq_true p499
                                replace q499 := eq_true q499
                                obtain ⟨Ao49, co49, eo49⟩ := Kd.R_slice HO_12.out
                                (first | subst eo49 | (injection eo49 with f1_ f2_ f3_; have f4_ := f1_.symm; have f5_ := f3_.symm; clear f1_ f2_ f3_; subst f4_; subst f5_))
                                have p500 : 0 ≤ (x18_3 : Int) := of_decide_eq_true (by first | (with_reducible assumption) | assumption)
                                have q500 : x18_3 < (t481.length : Int) := of_decide_eq_true (by first | (with_reducible assumption) | assumption)
                                obtain ⟨ad500, e500, hx500_0⟩ := Kd.at_int (Kd.R_reads' HO_12.out).2.2 x18_3 p500 q500
                                cases e500
                                replace p500 := eq_true p500
                                replace q500 := eq_true q500
                                refine start_ (n := 9) (S := fun w' => w'.cell? (ad499.add (x18_3).toNat) = some (.int .i64 (rd t485 x18_3)) ∧ w'.cell? (ad500.add (x18_3).toNat) = some (.int .i64 (rd t481 x18_3))) (ds := []) #[false, false, false, false, false, false, false, false, false] (by kernel_rfl) rfl rfl ⟨hx499_0, hx500_0⟩ (fun hHeld => ?_); refine with_tabW billetlaw15_ShareRoom.tab18 billetlaw15_ShareRoom.bits18 (fun HT_ HW_ => ?_)
                                generalize wr.drew = w47 at HO_10 HO_12 HO_13 HO_14 HO_15 HB hx499_0 hx500_0 hHeld ⊢
                                refine pure_ (i := 0) (N := some 82) (v := ?_) (a' := ?_) #[true, false, false, false, false, false, false, false, false] rfl rfl (any_of HT_.out (by kernel_rfl)) (fun _ _ _ h => h) (Or.inl ⟨by rfl, ?_⟩) ?_ ?_
                                rotate_left
                                · intro w'
                                  go_simp
                                  with_reducible rfl
                                rotate_left
                                · simp only [Act.put, List.setIfInBounds_toArray, List.set_cons_zero, List.set_cons_succ, i64_w, i32_w]
                                  rfl
                                refine pure_ (i := 1) (N := some 83) (v := ?_) (a' := ?_) #[true, true, false, false, false, false, false, false, false] rfl rfl (any_of HT_.out (by kernel_rfl)) (fun _ _ _ h => h) (Or.inl ⟨by rfl, ?_⟩) ?_ ?_
                                rotate_left
                                · intro w'
                                  go_simp
                                  with_reducible rfl
                                rotate_left
                                · simp only [Act.put, List.setIfInBounds_toArray, List.set_cons_zero, List.set_cons_succ, i64_w, i32_w]
                                  rfl
                                refine pure_ (i := 2) (N := some 84) (v := ?_) (a' := ?_) #[true, true, true, false, false, false, false, false, false] rfl rfl (any_of HT_.out (by kernel_rfl)) (fun _ _ _ h => h) (Or.inl ⟨by rfl, ?_⟩) ?_ ?_
                                rotate_left
                                · intro w'
                                  go_simp
                                  with_reducible rfl
                                rotate_left
                                · simp only [Act.put, List.setIfInBounds_toArray, List.set_cons_zero, List.set_cons_succ, i64_w, i32_w]
                                  rfl
                                refine pure_ (i := 4) (N := some 86) (v := ?_) (a' := ?_) #[true, true, true, false, true, false, false, false, false] rfl rfl (any_of HT_.out (by kernel_rfl)) (fun _ _ _ h => h) (Or.inl ⟨by rfl, ?_⟩) ?_ ?_
                                rotate_left
                                · intro w'
                                  go_simp
                                  with_reducible rfl
                                rotate_left
                                · simp only [Act.put, List.setIfInBounds_toArray, List.set_cons_zero, List.set_cons_succ, i64_w, i32_w]
                                  rfl
                                refine pure_ (i := 5) (N := some 87) (v := ?_) (a' := ?_) #[true, true, true, false, true, true, false, false, false] rfl rfl (any_of HT_.out (by kernel_rfl)) (fun _ _ _ h => h) (Or.inl ⟨by rfl, ?_⟩) ?_ ?_
                                rotate_left
                                · intro w'
                                  go_simp
                                  with_reducible rfl
                                rotate_left
                                · simp only [Act.put, List.setIfInBounds_toArray, List.set_cons_zero, List.set_cons_succ, i64_w, i32_w]
                                  rfl
                                refine pure_ (i := 6) (N := some 88) (v := ?_) (a' := ?_) #[true, true, true, false, true, true, true, false, false] rfl rfl (any_of HT_.out (by kernel_rfl)) (fun _ _ _ h => h) (Or.inl ⟨by rfl, ?_⟩) ?_ ?_
                                rotate_left
                                · intro w'
                                  go_simp
                                  with_reducible rfl
                                rotate_left
                                · simp only [Act.put, List.setIfInBounds_toArray, List.set_cons_zero, List.set_cons_succ, i64_w, i32_w]
                                  rfl
                                refine take_ (i := 3) (N := some 85) (v := ?_) (a' := ?_) #[true, true, true, true, true, true, true, false, false] rfl rfl (take_ofW HT_.out HW_.out (by kernel_rfl)) (fun _ _ _ h => h) (Or.inl ⟨by rfl, ?_⟩) hHeld ?_ ?_
                                rotate_left
                                · rintro w' ⟨s0, s1⟩
                                  go_simp
                                  with_reducible rfl
                                rotate_left
                                · simp only [Act.put, List.setIfInBounds_toArray, List.set_cons_zero, List.set_cons_succ, i64_w, i32_w]
                                  rfl
                                refine take_ (i := 7) (N := some 89) (v := ?_) (a' := ?_) #[true, true, true, true, true, true, true, true, false] rfl rfl (take_ofW HT_.out HW_.out (by kernel_rfl)) (fun _ _ _ h => h) (Or.inl ⟨by rfl, ?_⟩) hHeld ?_ ?_
                                rotate_left
                                · rintro w' ⟨s0, s1⟩
                                  go_simp
                                  with_reducible rfl
                                rotate_left
                                · simp only [Act.put, List.setIfInBounds_toArray, List.set_cons_zero, List.set_cons_succ, i64_w, i32_w]
                                  rfl
                                refine pure_ (i := 8) (N := some 90) (v := ?_) (a' := ?_) #[true, true, true, true, true, true, true, true, true] rfl rfl (any_of HT_.out (by kernel_rfl)) (fun _ _ _ h => h) (Or.inl ⟨by rfl, ?_⟩) ?_ ?_
                                rotate_left
                                · intro w'
                                  go_simp
                                  with_reducible rfl
                                rotate_left
                                · simp only [Act.put, List.setIfInBounds_toArray, List.set_cons_zero, List.set_cons_succ, i64_w, i32_w]
                                  rfl
                                refine done_ (done_of HT_.out (by kernel_rfl)) ?_
                                try go_wp2
                                go_ret
                                exact ⟨by first | rfl | (simp [errW_none, errW_some] <;> rfl) | (simp [*, errW_none, errW_some] <;> rfl), by repeat (first | (with_reducible first | exact HB.out | apply below_alloc | apply pw_below_drewN | apply below_drew1) | exact HB.out)⟩
                              · rw [if_neg c46] at H
                                have c46b0 : decide ((rd t485 x18_3) < (rd t481 x18_3)) = false := decide_eq_false c46
                                clear c46
                                by_cases c50 : x18_3 < (t474.length : Int)
                                · rw [if_pos c50] at H
                                  have c50b0 : decide (x18_3 < (t474.length : Int)) = true := decide_eq_true c50
                                  clear c50
                                  obtain ⟨ji51, hji51⟩ : ∃ j_ : Int, (mx 0 (rd t474 x18_3)) = j_ := ⟨_, rfl⟩
                                  replace H : (if x18_3 < (t496.length : Int) then (if x18_3 < (x14_14.length : Int) then (billetlaw15_ShareRoom.l0 k3 t474 t481 t485 x14_14 t496 (wrap64 (x16_3 + (mx 0 (wrap64 ((rd t481 x18_3) - (ji51)))))) (wrap64 (x17_3 + (mx 0 (wrap64 ((rd t496 x18_3) - (mx 0 (rd x14_14 x18_3))))))) (wrap64 (x18_3 + 1))) else (none)) else (none)) = some r := by first | (rw [hji51] at H; exact H) | (simp only [hji51] at H ⊢; exact H)
                                  have hji51_ : (if 0 < (rd t474 x18_3) then (rd t474 x18_3) else 0) = ji51 := hji51
                                  obtain ⟨ji52, hji52⟩ : ∃ j_ : Int, (mx 0 (wrap64 ((rd t481 x18_3) - (ji51)))) = j_ := ⟨_, rfl⟩
                                  replace H : (if x18_3 < (t496.length : Int) then (if x18_3 < (x14_14.length : Int) then (billetlaw15_ShareRoom.l0 k3 t474 t481 t485 x14_14 t496 (wrap64 (x16_3 + (ji52))) (wrap64 (x17_3 + (mx 0 (wrap64 ((rd t496 x18_3) - (mx 0 (rd x14_14 x18_3))))))) (wrap64 (x18_3 + 1))) else (none)) else (none)) = some r := by first | (rw [hji52] at H; exact H) | (simp only [hji52] at H ⊢; exact H)
                                  have hji52_ : (if 0 < (wrap64 ((rd t481 x18_3) - (ji51))) then (wrap64 ((rd t481 x18_3) - (ji51))) else 0) = ji52 := hji52
                                  by_cases c53 : x18_3 < (t496.length : Int)
                                  · rw [if_pos c53] at H
                                    have c53b0 : decide (x18_3 < (t496.length : Int)) = true := decide_eq_true c53
                                    clear c53
                                    by_cases c54 : x18_3 < (x14_14.length : Int)
                                    · rw [if_pos c54] at H
                                      have c54b0 : decide (x18_3 < (x14_14.length : Int)) = true := decide_eq_true c54
                                      clear c54
                                      obtain ⟨ji55, hji55⟩ : ∃ j_ : Int, (mx 0 (rd x14_14 x18_3)) = j_ := ⟨_, rfl⟩
                                      replace H : (billetlaw15_ShareRoom.l0 k3 t474 t481 t485 x14_14 t496 (wrap64 (x16_3 + (ji52))) (wrap64 (x17_3 + (mx 0 (wrap64 ((rd t496 x18_3) - (ji55)))))) (wrap64 (x18_3 + 1))) = some r := by first | (rw [hji55] at H; exact H) | (simp only [hji55] at H ⊢; exact H)
                                      have hji55_ : (if 0 < (rd x14_14 x18_3) then (rd x14_14 x18_3) else 0) = ji55 := hji55
                                      obtain ⟨ji56, hji56⟩ : ∃ j_ : Int, (mx 0 (wrap64 ((rd t496 x18_3) - (ji55)))) = j_ := ⟨_, rfl⟩
                                      replace H : (billetlaw15_ShareRoom.l0 k3 t474 t481 t485 x14_14 t496 (wrap64 (x16_3 + (ji52))) (wrap64 (x17_3 + (ji56))) (wrap64 (x18_3 + 1))) = some r := by first | (rw [hji56] at H; exact H) | (simp only [hji56] at H ⊢; exact H)
                                      have hji56_ : (if 0 < (wrap64 ((rd t496 x18_3) - (ji55))) then (wrap64 ((rd t496 x18_3) - (ji55))) else 0) = ji56 := hji56
                                      have H' := Aside0.mk H
                                      clear H
                                      try go_wp2
                                      have n0_ := Aside0.mk (Kd.R_drew HO_10.out)
                                      have n1_ := Aside0.mk (Kd.R_drew HO_12.out)
                                      have n2_ := Aside0.mk (Kd.R_drew HO_13.out)
                                      have n3_ := Aside0.mk (Kd.R_drew HO_14.out)
                                      have n4_ := Aside0.mk (Kd.R_drew HO_15.out)
                                      have n5_ := Aside0.mk (below_drew1 HB.out)
                                      clear HO_10
                                      clear HO_12
                                      clear HO_13
                                      clear HO_14
                                      clear HO_15
                                      clear HB
                                      have HO_10 := n0_
                                      have HO_12 := n1_
                                      have HO_13 := n2_
                                      have HO_14 := n3_
                                      have HO_15 := n4_
                                      have HB := n5_
                                      clear n0_ n1_ n2_ n3_ n4_ n5_
                                      obtain ⟨Ao58, co58, eo58⟩ := Kd.R_slice HO_13.out
                                      (first | subst eo58 | (injection eo58 with f1_ f2_ f3_; have f4_ := f1_.symm; have f5_ := f3_.symm; clear f1_ f2_ f3_; subst f4_; subst f5_))
                                      have p499 : 0 ≤ (x18_3 : Int) := of_decide_eq_true (by first | (with_reducible assumption) | assumption)
                                      have q499 : x18_3 < (t485.length : Int) := of_decide_eq_true (by first | (with_reducible assumption) | assumption)
                                      obtain ⟨ad499, e499, hx499_0⟩ := Kd.at_int (Kd.R_reads' HO_13.out).2.2 x18_3 p499 q499
                                      cases e499
                                      replace p499 := eq_true p499
                                      replace q499 := eq_true q499
                                      obtain ⟨Ao59, co59, eo59⟩ := Kd.R_slice HO_12.out
                                      (first | subst eo59 | (injection eo59 with f1_ f2_ f3_; have f4_ := f1_.symm; have f5_ := f3_.symm; clear f1_ f2_ f3_; subst f4_; subst f5_))
                                      have p500 : 0 ≤ (x18_3 : Int) := of_decide_eq_true (by first | (with_reducible assumption) | assumption)
                                      have q500 : x18_3 < (t481.length : Int) := of_decide_eq_true (by first | (with_reducible assumption) | assumption)
                                      obtain ⟨ad500, e500, hx500_0⟩ := Kd.at_int (Kd.R_reads' HO_12.out).2.2 x18_3 p500 q500
                                      cases e500
                                      replace p500 := eq_true p500
                                      replace q500 := eq_true q500
                                      refine start_ (n := 9) (S := fun w' => w'.cell? (ad499.add (x18_3).toNat) = some (.int .i64 (rd t485 x18_3)) ∧ w'.cell? (ad500.add (x18_3).toNat) = some (.int .i64 (rd t481 x18_3))) (ds := []) #[false, false, false, false, false, false, false, false, false] (by kernel_rfl) rfl rfl ⟨hx499_0, hx500_0⟩ (fun hHeld => ?_); refine with_tabW billetlaw15_ShareRoom.tab18 billetlaw15_ShareRoom.bits18 (fun HT_ HW_ => ?_)
                                      generalize wr.drew = w57 at HO_10 HO_12 HO_13 HO_14 HO_15 HB hx499_0 hx500_0 hHeld ⊢
                                      refine pure_ (i := 0) (N := some 82) (v := ?_) (a' := ?_) #[true, false, false, false, false, false, false, false, false] rfl rfl (any_of HT_.out (by kernel_rfl)) (fun _ _ _ h => h) (Or.inl ⟨by rfl, ?_⟩) ?_ ?_
                                      rotate_left
                                      · intro w'
                                        go_simp
                                        with_reducible rfl
                                      rotate_left
                                      · simp only [Act.put, List.setIfInBounds_toArray, List.set_cons_zero, List.set_cons_succ, i64_w, i32_w]
                                        rfl
                                      refine pure_ (i := 1) (N := some 83) (v := ?_) (a' := ?_) #[true, true, false, false, false, false, false, false, false] rfl rfl (any_of HT_.out (by kernel_rfl)) (fun _ _ _ h => h) (Or.inl ⟨by rfl, ?_⟩) ?_ ?_
                                      rotate_left
                                      · intro w'
                                        go_simp
                                        with_reducible rfl
                                      rotate_left
                                      · simp only [Act.put, List.setIfInBounds_toArray, List.set_cons_zero, List.set_cons_succ, i64_w, i32_w]
                                        rfl
                                      refine pure_ (i := 2) (N := some 84) (v := ?_) (a' := ?_) #[true, true, true, false, false, false, false, false, false] rfl rfl (any_of HT_.out (by kernel_rfl)) (fun _ _ _ h => h) (Or.inl ⟨by rfl, ?_⟩) ?_ ?_
                                      rotate_left
                                      · intro w'
                                        go_simp
                                        with_reducible rfl
                                      rotate_left
                                      · simp only [Act.put, List.setIfInBounds_toArray, List.set_cons_zero, List.set_cons_succ, i64_w, i32_w]
                                        rfl
                                      refine pure_ (i := 4) (N := some 86) (v := ?_) (a' := ?_) #[true, true, true, false, true, false, false, false, false] rfl rfl (any_of HT_.out (by kernel_rfl)) (fun _ _ _ h => h) (Or.inl ⟨by rfl, ?_⟩) ?_ ?_
                                      rotate_left
                                      · intro w'
                                        go_simp
                                        with_reducible rfl
                                      rotate_left
                                      · simp only [Act.put, List.setIfInBounds_toArray, List.set_cons_zero, List.set_cons_succ, i64_w, i32_w]
                                        rfl
                                      refine pure_ (i := 5) (N := some 87) (v := ?_) (a' := ?_) #[true, true, true, false, true, true, false, false, false] rfl rfl (any_of HT_.out (by kernel_rfl)) (fun _ _ _ h => h) (Or.inl ⟨by rfl, ?_⟩) ?_ ?_
                                      rotate_left
                                      · intro w'
                                        go_simp
                                        with_reducible rfl
                                      rotate_left
                                      · simp only [Act.put, List.setIfInBounds_toArray, List.set_cons_zero, List.set_cons_succ, i64_w, i32_w]
                                        rfl
                                      refine pure_ (i := 6) (N := some 88) (v := ?_) (a' := ?_) #[true, true, true, false, true, true, true, false, false] rfl rfl (any_of HT_.out (by kernel_rfl)) (fun _ _ _ h => h) (Or.inl ⟨by rfl, ?_⟩) ?_ ?_
                                      rotate_left
                                      · intro w'
                                        go_simp
                                        with_reducible rfl
                                      rotate_left
                                      · simp only [Act.put, List.setIfInBounds_toArray, List.set_cons_zero, List.set_cons_succ, i64_w, i32_w]
                                        rfl
                                      refine take_ (i := 3) (N := some 85) (v := ?_) (a' := ?_) #[true, true, true, true, true, true, true, false, false] rfl rfl (take_ofW HT_.out HW_.out (by kernel_rfl)) (fun _ _ _ h => h) (Or.inl ⟨by rfl, ?_⟩) hHeld ?_ ?_
                                      rotate_left
                                      · rintro w' ⟨s0, s1⟩
                                        go_simp
                                        with_reducible rfl
                                      rotate_left
                                      · simp only [Act.put, List.setIfInBounds_toArray, List.set_cons_zero, List.set_cons_succ, i64_w, i32_w]
                                        rfl
                                      refine take_ (i := 7) (N := some 89) (v := ?_) (a' := ?_) #[true, true, true, true, true, true, true, true, false] rfl rfl (take_ofW HT_.out HW_.out (by kernel_rfl)) (fun _ _ _ h => h) (Or.inl ⟨by rfl, ?_⟩) hHeld ?_ ?_
                                      rotate_left
                                      · rintro w' ⟨s0, s1⟩
                                        go_simp
                                        with_reducible rfl
                                      rotate_left
                                      · simp only [Act.put, List.setIfInBounds_toArray, List.set_cons_zero, List.set_cons_succ, i64_w, i32_w]
                                        rfl
                                      refine pure_ (i := 8) (N := some 90) (v := ?_) (a' := ?_) #[true, true, true, true, true, true, true, true, true] rfl rfl (any_of HT_.out (by kernel_rfl)) (fun _ _ _ h => h) (Or.inl ⟨by rfl, ?_⟩) ?_ ?_
                                      rotate_left
                                      · intro w'
                                        go_simp
                                        with_reducible rfl
                                      rotate_left
                                      · simp only [Act.put, List.setIfInBounds_toArray, List.set_cons_zero, List.set_cons_succ, i64_w, i32_w]
                                        rfl
                                      refine done_ (done_of HT_.out (by kernel_rfl)) ?_
                                      try go_wp2
                                      have n0_ := Aside0.mk (Kd.R_drew HO_10.out)
                                      have n1_ := Aside0.mk (Kd.R_drew HO_12.out)
                                      have n2_ := Aside0.mk (Kd.R_drew HO_13.out)
                                      have n3_ := Aside0.mk (Kd.R_drew HO_14.out)
                                      have n4_ := Aside0.mk (Kd.R_drew HO_15.out)
                                      have n5_ := Aside0.mk (below_drew1 HB.out)
                                      clear HO_10
                                      clear HO_12
                                      clear HO_13
                                      clear HO_14
                                      clear HO_15
                                      clear HB
                                      have HO_10 := n0_
                                      have HO_12 := n1_
                                      have HO_13 := n2_
                                      have HO_14 := n3_
                                      have HO_15 := n4_
                                      have HB := n5_
                                      clear n0_ n1_ n2_ n3_ n4_ n5_
                                      have p501 : 0 ≤ (x18_3 : Int) := of_decide_eq_true (by first | (with_reducible assumption) | assumption)
                                      have q501 : x18_3 < (t481.length : Int) := of_decide_eq_true (by first | (with_reducible assumption) | assumption)
                                      obtain ⟨ad501, e501, hx501_0⟩ := Kd.at_int (Kd.R_reads' HO_12.out).2.2 x18_3 p501 q501
                                      obtain rfl : ad500 = ad501 := (by injection e501)
                                      replace p501 := eq_true p501
                                      replace q501 := eq_true q501
                                      have p502 : 0 ≤ (x18_3 : Int) := of_decide_eq_true (by first | (with_reducible assumption) | assumption)
                                      have q502 : x18_3 < (t474.length : Int) := of_decide_eq_true (by first | (with_reducible assumption) | assumption)
                                      obtain ⟨ad502, e502, hx502_0⟩ := Kd.at_int (Kd.R_reads' HO_10.out).2.2 x18_3 p502 q502
                                      cases e502
                                      replace p502 := eq_true p502
                                      replace q502 := eq_true q502
                                      refine start_ (n := 14) (S := fun w' => w'.cell? (ad500.add (x18_3).toNat) = some (.int .i64 (rd t481 x18_3)) ∧ w'.cell? (ad502.add (x18_3).toNat) = some (.int .i64 (rd t474 x18_3))) (ds := []) #[false, false, false, false, false, false, false, false, false, false, false, false, false, false] (by kernel_rfl) rfl rfl ⟨hx501_0, hx502_0⟩ (fun hHeld => ?_); refine with_tabW billetlaw15_ShareRoom.tab20 billetlaw15_ShareRoom.bits20 (fun HT_ HW_ => ?_)
                                      generalize w57.drew = w60 at HO_10 HO_12 HO_13 HO_14 HO_15 HB hx501_0 hx502_0 hHeld ⊢
                                      refine pure_ (i := 0) (N := some 91) (v := ?_) (a' := ?_) #[true, false, false, false, false, false, false, false, false, false, false, false, false, false] rfl rfl (any_of HT_.out (by kernel_rfl)) (fun _ _ _ h => h) (Or.inl ⟨by rfl, ?_⟩) ?_ ?_
                                      rotate_left
                                      · intro w'
                                        go_simp
                                        with_reducible rfl
                                      rotate_left
                                      · simp only [Act.put, List.setIfInBounds_toArray, List.set_cons_zero, List.set_cons_succ, i64_w, i32_w]
                                        rfl
                                      refine pure_ (i := 1) (N := some 92) (v := ?_) (a' := ?_) #[true, true, false, false, false, false, false, false, false, false, false, false, false, false] rfl rfl (any_of HT_.out (by kernel_rfl)) (fun _ _ _ h => h) (Or.inl ⟨by rfl, ?_⟩) ?_ ?_
                                      rotate_left
                                      · intro w'
                                        go_simp
                                        with_reducible rfl
                                      rotate_left
                                      · simp only [Act.put, List.setIfInBounds_toArray, List.set_cons_zero, List.set_cons_succ, i64_w, i32_w]
                                        rfl
                                      refine pure_ (i := 2) (N := some 93) (v := ?_) (a' := ?_) #[true, true, true, false, false, false, false, false, false, false, false, false, false, false] rfl rfl (any_of HT_.out (by kernel_rfl)) (fun _ _ _ h => h) (Or.inl ⟨by rfl, ?_⟩) ?_ ?_
                                      rotate_left
                                      · intro w'
                                        go_simp
                                        with_reducible rfl
                                      rotate_left
                                      · simp only [Act.put, List.setIfInBounds_toArray, List.set_cons_zero, List.set_cons_succ, i64_w, i32_w]
                                        rfl
                                      refine pure_ (i := 3) (N := some 94) (v := ?_) (a' := ?_) #[true, true, true, true, false, false, false, false, false, false, false, false, false, false] rfl rfl (any_of HT_.out (by kernel_rfl)) (fun _ _ _ h => h) (Or.inl ⟨by rfl, ?_⟩) ?_ ?_
                                      rotate_left
                                      · intro w'
                                        go_simp
                                        with_reducible rfl
                                      rotate_left
                                      · simp only [Act.put, List.setIfInBounds_toArray, List.set_cons_zero, List.set_cons_succ, i64_w, i32_w]
                                        rfl
                                      refine pure_ (i := 5) (N := some 96) (v := ?_) (a' := ?_) #[true, true, true, true, false, true, false, false, false, false, false, false, false, false] rfl rfl (any_of HT_.out (by kernel_rfl)) (fun _ _ _ h => h) (Or.inl ⟨by rfl, ?_⟩) ?_ ?_
                                      rotate_left
                                      · intro w'
                                        go_simp
                                        with_reducible rfl
                                      rotate_left
                                      · simp only [Act.put, List.setIfInBounds_toArray, List.set_cons_zero, List.set_cons_succ, i64_w, i32_w]
                                        rfl
                                      refine pure_ (i := 6) (N := some 97) (v := ?_) (a' := ?_) #[true, true, true, true, false, true, true, false, false, false, false, false, false, false] rfl rfl (any_of HT_.out (by kernel_rfl)) (fun _ _ _ h => h) (Or.inl ⟨by rfl, ?_⟩) ?_ ?_
                                      rotate_left
                                      · intro w'
                                        go_simp
                                        with_reducible rfl
                                      rotate_left
                                      · simp only [Act.put, List.setIfInBounds_toArray, List.set_cons_zero, List.set_cons_succ, i64_w, i32_w]
                                        rfl
                                      refine pure_ (i := 7) (N := some 98) (v := ?_) (a' := ?_) #[true, true, true, true, false, true, true, true, false, false, false, false, false, false] rfl rfl (any_of HT_.out (by kernel_rfl)) (fun _ _ _ h => h) (Or.inl ⟨by rfl, ?_⟩) ?_ ?_
                                      rotate_left
                                      · intro w'
                                        go_simp
                                        with_reducible rfl
                                      rotate_left
                                      · simp only [Act.put, List.setIfInBounds_toArray, List.set_cons_zero, List.set_cons_succ, i64_w, i32_w]
                                        rfl
                                      refine take_ (i := 4) (N := some 95) (v := ?_) (a' := ?_) #[true, true, true, true, true, true, true, true, false, false, false, false, false, false] rfl rfl (take_ofW HT_.out HW_.out (by kernel_rfl)) (fun _ _ _ h => h) (Or.inl ⟨by rfl, ?_⟩) hHeld ?_ ?_
                                      rotate_left
                                      · rintro w' ⟨s0, s1⟩
                                        go_simp
                                        with_reducible rfl
                                      rotate_left
                                      · simp only [Act.put, List.setIfInBounds_toArray, List.set_cons_zero, List.set_cons_succ, i64_w, i32_w]
                                        rfl
                                      refine take_ (i := 8) (N := some 99) (v := ?_) (a' := ?_) #[true, true, true, true, true, true, true, true, true, false, false, false, false, false] rfl rfl (take_ofW HT_.out HW_.out (by kernel_rfl)) (fun _ _ _ h => h) (Or.inl ⟨by rfl, ?_⟩) hHeld ?_ ?_
                                      rotate_left
                                      · rintro w' ⟨s0, s1⟩
                                        go_simp
                                        with_reducible rfl
                                      rotate_left
                                      · simp only [Act.put, List.setIfInBounds_toArray, List.set_cons_zero, List.set_cons_succ, i64_w, i32_w]
                                        rfl
                                      refine pure_ (i := 9) (N := some 100) (v := ?_) (a' := ?_) #[true, true, true, true, true, true, true, true, true, true, false, false, false, false] rfl rfl (any_of HT_.out (by kernel_rfl)) (fun _ _ _ h => h) (Or.inl ⟨by rfl, ?_⟩) ?_ ?_
                                      rotate_left
                                      · intro w'
                                        go_simp
                                        with_reducible rfl
                                      rotate_left
                                      · simp only [Act.put, List.setIfInBounds_toArray, List.set_cons_zero, List.set_cons_succ, i64_w, i32_w]
                                        rfl
                                      refine pure_ (i := 10) (N := some 101) (v := ?_) (a' := ?_) #[true, true, true, true, true, true, true, true, true, true, true, false, false, false] rfl rfl (any_of HT_.out (by kernel_rfl)) (fun _ _ _ h => h) (Or.inl ⟨by rfl, ?_⟩) ?_ ?_
                                      rotate_left
                                      · intro w'
                                        go_simp
                                        with_reducible rfl
                                      rotate_left
                                      · simp only [Act.put, List.setIfInBounds_toArray, List.set_cons_zero, List.set_cons_succ, i64_w, i32_w]
                                        rfl
                                      refine pure_ (i := 11) (N := some 102) (v := ?_) (a' := ?_) #[true, true, true, true, true, true, true, true, true, true, true, true, false, false] rfl rfl (any_of HT_.out (by kernel_rfl)) (fun _ _ _ h => h) (Or.inl ⟨by rfl, ?_⟩) ?_ ?_
                                      rotate_left
                                      · intro w'
                                        go_simp
                                        with_reducible rfl
                                      rotate_left
                                      · simp only [Act.put, List.setIfInBounds_toArray, List.set_cons_zero, List.set_cons_succ, i64_w, i32_w]
                                        rfl
                                      refine pure_ (i := 12) (N := some 103) (v := ?_) (a' := ?_) #[true, true, true, true, true, true, true, true, true, true, true, true, true, false] rfl rfl (any_of HT_.out (by kernel_rfl)) (fun _ _ _ h => h) (Or.inl ⟨by rfl, ?_⟩) ?_ ?_
                                      rotate_left
                                      · intro w'
                                        go_simp
                                        with_reducible rfl
                                      rotate_left
                                      · simp only [Act.put, List.setIfInBounds_toArray, List.set_cons_zero, List.set_cons_succ, i64_w, i32_w]
                                        rfl
                                      refine pure_ (i := 13) (N := some 16) (v := ?_) (a' := ?_) #[true, true, true, true, true, true, true, true, true, true, true, true, true, true] rfl rfl (any_of HT_.out (by kernel_rfl)) (fun _ _ _ h => h) (Or.inl ⟨by rfl, ?_⟩) ?_ ?_
                                      rotate_left
                                      · intro w'
                                        go_simp
                                        with_reducible rfl
                                      rotate_left
                                      · simp only [Act.put, List.setIfInBounds_toArray, List.set_cons_zero, List.set_cons_succ, i64_w, i32_w]
                                        rfl
                                      refine done_ (done_of HT_.out (by kernel_rfl)) ?_
                                      try go_wp2
                                      have n0_ := Aside0.mk (Kd.R_drew HO_10.out)
                                      have n1_ := Aside0.mk (Kd.R_drew HO_12.out)
                                      have n2_ := Aside0.mk (Kd.R_drew HO_13.out)
                                      have n3_ := Aside0.mk (Kd.R_drew HO_14.out)
                                      have n4_ := Aside0.mk (Kd.R_drew HO_15.out)
                                      have n5_ := Aside0.mk (below_drew1 HB.out)
                                      clear HO_10
                                      clear HO_12
                                      clear HO_13
                                      clear HO_14
                                      clear HO_15
                                      clear HB
                                      have HO_10 := n0_
                                      have HO_12 := n1_
                                      have HO_13 := n2_
                                      have HO_14 := n3_
                                      have HO_15 := n4_
                                      have HB := n5_
                                      clear n0_ n1_ n2_ n3_ n4_ n5_
                                      obtain ⟨Ao62, co62, eo62⟩ := Kd.R_slice HO_15.out
                                      (first | subst eo62 | (injection eo62 with f1_ f2_ f3_; have f4_ := f1_.symm; have f5_ := f3_.symm; clear f1_ f2_ f3_; subst f4_; subst f5_))
                                      have p503 : 0 ≤ (x18_3 : Int) := of_decide_eq_true (by first | (with_reducible assumption) | assumption)
                                      have q503 : x18_3 < (t496.length : Int) := of_decide_eq_true (by first | (with_reducible assumption) | assumption)
                                      obtain ⟨ad503, e503, hx503_0⟩ := Kd.at_int (Kd.R_reads' HO_15.out).2.2 x18_3 p503 q503
                                      cases e503
                                      replace p503 := eq_true p503
                                      replace q503 := eq_true q503
                                      have p504 : 0 ≤ (x18_3 : Int) := of_decide_eq_true (by first | (with_reducible assumption) | assumption)
                                      have q504 : x18_3 < (x14_14.length : Int) := of_decide_eq_true (by first | (with_reducible assumption) | assumption)
                                      obtain ⟨ad504, e504, hx504_0⟩ := Kd.at_int (Kd.R_reads' HO_14.out).2.2 x18_3 p504 q504
                                      obtain rfl : ad492 = ad504 := (by injection e504)
                                      replace p504 := eq_true p504
                                      replace q504 := eq_true q504
                                      refine start_ (n := 14) (S := fun w' => w'.cell? (ad503.add (x18_3).toNat) = some (.int .i64 (rd t496 x18_3)) ∧ w'.cell? (ad492.add (x18_3).toNat) = some (.int .i64 (rd x14_14 x18_3))) (ds := []) #[false, false, false, false, false, false, false, false, false, false, false, false, false, false] (by kernel_rfl) rfl rfl ⟨hx503_0, hx504_0⟩ (fun hHeld => ?_); refine with_tabW billetlaw15_ShareRoom.tab21 billetlaw15_ShareRoom.bits21 (fun HT_ HW_ => ?_)
                                      generalize w60.drew = w61 at HO_10 HO_12 HO_13 HO_14 HO_15 HB hx503_0 hx504_0 hHeld ⊢
                                      refine pure_ (i := 0) (N := some 104) (v := ?_) (a' := ?_) #[true, false, false, false, false, false, false, false, false, false, false, false, false, false] rfl rfl (any_of HT_.out (by kernel_rfl)) (fun _ _ _ h => h) (Or.inl ⟨by rfl, ?_⟩) ?_ ?_
                                      rotate_left
                                      · intro w'
                                        go_simp
                                        with_reducible rfl
                                      rotate_left
                                      · simp only [Act.put, List.setIfInBounds_toArray, List.set_cons_zero, List.set_cons_succ, i64_w, i32_w]
                                        rfl
                                      refine pure_ (i := 1) (N := some 105) (v := ?_) (a' := ?_) #[true, true, false, false, false, false, false, false, false, false, false, false, false, false] rfl rfl (any_of HT_.out (by kernel_rfl)) (fun _ _ _ h => h) (Or.inl ⟨by rfl, ?_⟩) ?_ ?_
                                      rotate_left
                                      · intro w'
                                        go_simp
                                        with_reducible rfl
                                      rotate_left
                                      · simp only [Act.put, List.setIfInBounds_toArray, List.set_cons_zero, List.set_cons_succ, i64_w, i32_w]
                                        rfl
                                      refine pure_ (i := 2) (N := some 106) (v := ?_) (a' := ?_) #[true, true, true, false, false, false, false, false, false, false, false, false, false, false] rfl rfl (any_of HT_.out (by kernel_rfl)) (fun _ _ _ h => h) (Or.inl ⟨by rfl, ?_⟩) ?_ ?_
                                      rotate_left
                                      · intro w'
                                        go_simp
                                        with_reducible rfl
                                      rotate_left
                                      · simp only [Act.put, List.setIfInBounds_toArray, List.set_cons_zero, List.set_cons_succ, i64_w, i32_w]
                                        rfl
                                      refine pure_ (i := 3) (N := some 107) (v := ?_) (a' := ?_) #[true, true, true, true, false, false, false, false, false, false, false, false, false, false] rfl rfl (any_of HT_.out (by kernel_rfl)) (fun _ _ _ h => h) (Or.inl ⟨by rfl, ?_⟩) ?_ ?_
                                      rotate_left
                                      · intro w'
                                        go_simp
                                        with_reducible rfl
                                      rotate_left
                                      · simp only [Act.put, List.setIfInBounds_toArray, List.set_cons_zero, List.set_cons_succ, i64_w, i32_w]
                                        rfl
                                      refine pure_ (i := 5) (N := some 109) (v := ?_) (a' := ?_) #[true, true, true, true, false, true, false, false, false, false, false, false, false, false] rfl rfl (any_of HT_.out (by kernel_rfl)) (fun _ _ _ h => h) (Or.inl ⟨by rfl, ?_⟩) ?_ ?_
                                      rotate_left
                                      · intro w'
                                        go_simp
                                        with_reducible rfl
                                      rotate_left
                                      · simp only [Act.put, List.setIfInBounds_toArray, List.set_cons_zero, List.set_cons_succ, i64_w, i32_w]
                                        rfl
                                      refine pure_ (i := 6) (N := some 110) (v := ?_) (a' := ?_) #[true, true, true, true, false, true, true, false, false, false, false, false, false, false] rfl rfl (any_of HT_.out (by kernel_rfl)) (fun _ _ _ h => h) (Or.inl ⟨by rfl, ?_⟩) ?_ ?_
                                      rotate_left
                                      · intro w'
                                        go_simp
                                        with_reducible rfl
                                      rotate_left
                                      · simp only [Act.put, List.setIfInBounds_toArray, List.set_cons_zero, List.set_cons_succ, i64_w, i32_w]
                                        rfl
                                      refine pure_ (i := 7) (N := some 111) (v := ?_) (a' := ?_) #[true, true, true, true, false, true, true, true, false, false, false, false, false, false] rfl rfl (any_of HT_.out (by kernel_rfl)) (fun _ _ _ h => h) (Or.inl ⟨by rfl, ?_⟩) ?_ ?_
                                      rotate_left
                                      · intro w'
                                        go_simp
                                        with_reducible rfl
                                      rotate_left
                                      · simp only [Act.put, List.setIfInBounds_toArray, List.set_cons_zero, List.set_cons_succ, i64_w, i32_w]
                                        rfl
                                      refine take_ (i := 4) (N := some 108) (v := ?_) (a' := ?_) #[true, true, true, true, true, true, true, true, false, false, false, false, false, false] rfl rfl (take_ofW HT_.out HW_.out (by kernel_rfl)) (fun _ _ _ h => h) (Or.inl ⟨by rfl, ?_⟩) hHeld ?_ ?_
                                      rotate_left
                                      · rintro w' ⟨s0, s1⟩
                                        go_simp
                                        with_reducible rfl
                                      rotate_left
                                      · simp only [Act.put, List.setIfInBounds_toArray, List.set_cons_zero, List.set_cons_succ, i64_w, i32_w]
                                        rfl
                                      refine take_ (i := 8) (N := some 112) (v := ?_) (a' := ?_) #[true, true, true, true, true, true, true, true, true, false, false, false, false, false] rfl rfl (take_ofW HT_.out HW_.out (by kernel_rfl)) (fun _ _ _ h => h) (Or.inl ⟨by rfl, ?_⟩) hHeld ?_ ?_
                                      rotate_left
                                      · rintro w' ⟨s0, s1⟩
                                        go_simp
                                        with_reducible rfl
                                      rotate_left
                                      · simp only [Act.put, List.setIfInBounds_toArray, List.set_cons_zero, List.set_cons_succ, i64_w, i32_w]
                                        rfl
                                      refine pure_ (i := 9) (N := some 113) (v := ?_) (a' := ?_) #[true, true, true, true, true, true, true, true, true, true, false, false, false, false] rfl rfl (any_of HT_.out (by kernel_rfl)) (fun _ _ _ h => h) (Or.inl ⟨by rfl, ?_⟩) ?_ ?_
                                      rotate_left
                                      · intro w'
                                        go_simp
                                        with_reducible rfl
                                      rotate_left
                                      · simp only [Act.put, List.setIfInBounds_toArray, List.set_cons_zero, List.set_cons_succ, i64_w, i32_w]
                                        rfl
                                      refine pure_ (i := 10) (N := some 114) (v := ?_) (a' := ?_) #[true, true, true, true, true, true, true, true, true, true, true, false, false, false] rfl rfl (any_of HT_.out (by kernel_rfl)) (fun _ _ _ h => h) (Or.inl ⟨by rfl, ?_⟩) ?_ ?_
                                      rotate_left
                                      · intro w'
                                        go_simp
                                        with_reducible rfl
                                      rotate_left
                                      · simp only [Act.put, List.setIfInBounds_toArray, List.set_cons_zero, List.set_cons_succ, i64_w, i32_w]
                                        rfl
                                      refine pure_ (i := 11) (N := some 115) (v := ?_) (a' := ?_) #[true, true, true, true, true, true, true, true, true, true, true, true, false, false] rfl rfl (any_of HT_.out (by kernel_rfl)) (fun _ _ _ h => h) (Or.inl ⟨by rfl, ?_⟩) ?_ ?_
                                      rotate_left
                                      · intro w'
                                        go_simp
                                        with_reducible rfl
                                      rotate_left
                                      · simp only [Act.put, List.setIfInBounds_toArray, List.set_cons_zero, List.set_cons_succ, i64_w, i32_w]
                                        rfl
                                      refine pure_ (i := 12) (N := some 116) (v := ?_) (a' := ?_) #[true, true, true, true, true, true, true, true, true, true, true, true, true, false] rfl rfl (any_of HT_.out (by kernel_rfl)) (fun _ _ _ h => h) (Or.inl ⟨by rfl, ?_⟩) ?_ ?_
                                      rotate_left
                                      · intro w'
                                        go_simp
                                        with_reducible rfl
                                      rotate_left
                                      · simp only [Act.put, List.setIfInBounds_toArray, List.set_cons_zero, List.set_cons_succ, i64_w, i32_w]
                                        rfl
                                      refine pure_ (i := 13) (N := some 17) (v := ?_) (a' := ?_) #[true, true, true, true, true, true, true, true, true, true, true, true, true, true] rfl rfl (any_of HT_.out (by kernel_rfl)) (fun _ _ _ h => h) (Or.inl ⟨by rfl, ?_⟩) ?_ ?_
                                      rotate_left
                                      · intro w'
                                        go_simp
                                        with_reducible rfl
                                      rotate_left
                                      · simp only [Act.put, List.setIfInBounds_toArray, List.set_cons_zero, List.set_cons_succ, i64_w, i32_w]
                                        rfl
                                      refine done_ (done_of HT_.out (by kernel_rfl)) ?_
                                      try go_wp2
                                      go_roundg k3
                                      case measure => have := HJ14.out; have := HJ29.out; have := HK3.out; omega
                                      case rel => exact ⟨(wrap64 (x16_3 + (ji52))), (wrap64 (x17_3 + (ji56))), (wrap64 (x18_3 + 1)), (by first | rfl | (simp; done) | (simp only [← hji52] <;> (first | rfl | simp)) | (simp [*]; done)), (by first | rfl | (simp; done) | (simp only [← hji56] <;> (first | rfl | simp)) | (simp [*]; done)), (by first | rfl | (simp; done) | (simp [*]; done)), H', ⟨by have := HJ14.out; have := HJ29.out; have := HK3.out; omega⟩, ⟨by (try simp only [hl14_14]); (with_reducible repeat (first | apply Kd.R_alloc | apply Kd.R_drewN | apply Kd.R_drew)); exact HO_10.out⟩, ⟨by (try simp only [hl14_14]); (with_reducible repeat (first | apply Kd.R_alloc | apply Kd.R_drewN | apply Kd.R_drew)); exact HO_12.out⟩, ⟨by (try simp only [hl14_14]); (with_reducible repeat (first | apply Kd.R_alloc | apply Kd.R_drewN | apply Kd.R_drew)); exact HO_13.out⟩, ⟨by (try simp only [hl14_14]); (with_reducible repeat (first | apply Kd.R_alloc | apply Kd.R_drewN | apply Kd.R_drew)); exact HO_14.out⟩, ⟨by (try simp only [hl14_14]); (with_reducible repeat (first | apply Kd.R_alloc | apply Kd.R_drewN | apply Kd.R_drew)); exact HO_15.out⟩, ⟨by repeat (first | (with_reducible first | exact HB.out | apply below_alloc | apply pw_below_drewN | apply below_drew1) | exact HB.out)⟩⟩
                                    · rw [if_neg c54] at H
                                      exact absurd H (by simp)
                                  · rw [if_neg c53] at H
                                    exact absurd H (by simp)
                                · rw [if_neg c50] at H
                                  exact absurd H (by simp)
                            · rw [if_neg c45] at H
                              exact absurd H (by simp)
                          · rw [if_neg c44] at H
                            exact absurd H (by simp)
                        · rw [if_neg c43] at H
                          exact absurd H (by simp)
                      · rw [if_neg c42] at H
                        have c42b0 : decide (x18_3 < 3) = false := decide_eq_false c42
                        clear c42
                        obtain rfl := Option.some.inj H
                        go_wp2
                        go_ret
                        exact ⟨by first | rfl | (simp [errW_none, errW_some] <;> rfl) | (simp [*, errW_none, errW_some] <;> rfl), by repeat (first | (with_reducible first | exact HB.out | apply below_alloc | apply pw_below_drewN | apply below_drew1) | exact HB.out)⟩
      · rw [if_neg c14] at H
        exact absurd H (by simp)
    · rw [if_neg c13] at H
      exact absurd H (by simp)
  · rw [if_neg c11] at H
    exact absurd H (by simp)

/-- THE ONE PURE STATEMENT of billetlaw15_ShareRoom: yours. -/
def billetlaw15_ShareRoom.Pure : Prop := ∀ (a0 : Int) (l1 : List Int) (a2 : Int) (a3 : Int), (Lit.int .i64 a0).wf = true → l1.length ≤ maxLen → l1.length * 8 ≤ 140737488351232 → (∀ x ∈ l1, (Lit.int .i64 x).wf = true) → (Lit.int .i64 a2).wf = true → (Lit.int .i64 a3).wf = true → ∃ k, billetlaw15_ShareRoom.f k a0 l1 a2 a3 = some true
theorem billetlaw15_ShareRoom.walk (P : billetlaw15_ShareRoom.Pure) (a0 : Int) (a1 : Option Addr) (len1 cap1 : Nat) (z1 : List Int) (a2 : Int) (a3 : Int) (w : World) (w0 : (Lit.int .i64 a0).wf = true) (w1 : (a1 = none ∧ len1 = 0 ∧ cap1 = 0 ∧ z1 = []) ∨ ∃ x, a1 = some x ∧ len1 ≤ cap1 ∧ cap1 ≤ maxLen ∧ z1.length = cap1 ∧ (∀ i, i < z1.length → w.cell? (x.add i) = some (.int .i64 (z1.getD i 0))) ∧ ∀ n ∈ z1, (Lit.int .i64 n).wf = true) (y1 : len1 * 8 ≤ 140737488351232) (w2 : (Lit.int .i64 a2).wf = true) (w3 : (Lit.int .i64 a3).wf = true) :
    Calls Try.prog 8 #[.int .i64 a0, .slice a1 len1 cap1, .int .i64 a2, .int .i64 a3] w fun e w' => e = .returned (.bool true) ∧ Below w.heap.size w w' := by
  obtain ⟨l1, rfl, hr1, hm1, hw1, hc1⟩ := ReadsInt.ofRowC w1
  obtain ⟨k, h⟩ := P a0 l1 a2 a3 w0 hm1 y1 hw1 w2 w3
  refine (billetlaw15_ShareRoom.calls k a0 _ _ l1 a2 a3 true w (Kd.C_of_reads (d := (0 : Int)) (h1 := fun _ => rfl) hr1) hc1 h).mono ?_
  rintro e w' ⟨rfl, hd⟩
  exact ⟨rfl, hd⟩

end Go.Proofs.Ytpdgdogcfmfakaa.P
