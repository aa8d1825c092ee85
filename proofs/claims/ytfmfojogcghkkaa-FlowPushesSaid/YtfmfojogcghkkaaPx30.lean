-- Laid by a program of this session (wip/tools/genx.py) out of the kit's print of the translation.
import Derived.Test.YtfmfojogcghkkaaPx0
namespace Go.Proofs.Ytfmfojogcghkkaa.P
open Go.RowKit Go.Proofs.YtfmfojogcghkkaaW.PrintWords Go.Proofs.YtfmfojogcghkkaaW.PrintLast Go.Proofs.YtfmfojogcghkkaaW.PrintMore
attribute [local go_sem] max2_int min2_int max_two min_two max_three min_three max_four min_four   -- for this text's walks alone
set_option linter.unusedVariables false
set_option linter.unusedSimpArgs false

/-! ### billetref06_way: function 55 -/
mutual
def billetref06_way.l0 : Nat → List Int → Int → Int → List Int → List Bool → Int → Int → List (S41) → Option (List Int × Bool)
 | 0, _, _, _, _, _, _, _, _ => none
 | k + 1, x1, x2, x3, x10, x11, x12, x470000, x470001 => if x12 < x470000 then (if 0 ≤ x12 then (if x12 < (x10.length : Int) then (billetref06_way.l0 k x1 x2 x3 (x10.set (x12 : Int).toNat (-1)) x11 (wrap64 (x12 + 1)) x470000 x470001) else (none)) else (none)) else (if 0 ≤ x2 then (if x2 < (x11.length : Int) then (billetref06_way.l1 k x1 x3 x10 (x11.set (x2 : Int).toNat true) (([x2] : List Int)) 0 x470000 x470001) else (none)) else (none))
def billetref06_way.l1 : Nat → List Int → Int → List Int → List Bool → List Int → Int → Int → List (S41) → Option (List Int × Bool)
 | 0, _, _, _, _, _, _, _, _ => none
 | k + 1, x1, x3, x10, x11, x13, x14, x470000, x470001 => if x14 < (x13.length : Int) then (billetref06_way.j2 k x1 x3 x10 x11 x13 x14 (decide (x14 < 64)) x470000 x470001) else (billetref06_way.j2 k x1 x3 x10 x11 x13 x14 false x470000 x470001)
def billetref06_way.j2 : Nat → List Int → Int → List Int → List Bool → List Int → Int → Bool → Int → List (S41) → Option (List Int × Bool)
 | 0, _, _, _, _, _, _, _, _, _ => none
 | k + 1, x1, x3, x10, x11, x13, x14, x46, x470000, x470001 => if x46 = true then (if 0 ≤ x14 then (if x14 < (x13.length : Int) then (billetref06_way.l2 k x1 x3 x10 x11 x13 x14 (rd x13 x14) 0 x470000 x470001) else (none)) else (none)) else (if 0 ≤ x3 then (if x3 < (x11.length : Int) then (some (x10, rdOf false x11 x3)) else (none)) else (none))
def billetref06_way.l2 : Nat → List Int → Int → List Int → List Bool → List Int → Int → Int → Int → Int → List (S41) → Option (List Int × Bool)
 | 0, _, _, _, _, _, _, _, _, _, _ => none
 | k + 1, x1, x3, x10, x11, x13, x14, x15, x16, x470000, x470001 => if x16 < (x1.length : Int) then (if 0 ≤ x16 then (if x16 < (x470001.length : Int) then (if ((rd_T41 x470001 x16).f0) = x15 then (billetref06_way.j4 k x1 x3 x10 x11 x13 x14 x15 x16 x15 (decide ((rd x1 x16) < ((rd_T41 x470001 x16).f2))) x470000 x470001 ((rd_T41 x470001 x16).f0) ((rd_T41 x470001 x16).f1) ((rd_T41 x470001 x16).f2)) else (billetref06_way.j4 k x1 x3 x10 x11 x13 x14 x15 x16 x15 false x470000 x470001 ((rd_T41 x470001 x16).f0) ((rd_T41 x470001 x16).f1) ((rd_T41 x470001 x16).f2))) else (none)) else (none)) else (billetref06_way.l1 k x1 x3 x10 x11 x13 (wrap64 (x14 + 1)) x470000 x470001)
def billetref06_way.j4 : Nat → List Int → Int → List Int → List Bool → List Int → Int → Int → Int → Int → Bool → Int → List (S41) → Int → Int → Int → Option (List Int × Bool)
 | 0, _, _, _, _, _, _, _, _, _, _, _, _, _, _, _ => none
 | k + 1, x1, x3, x10, x11, x13, x14, x15, x16, x18, x77, x470000, x470001, x485000, x485001, x485002 => if x77 = true then (if 0 ≤ x485001 then (if x485001 < (x11.length : Int) then (if rdOf false x11 x485001 = true then (billetref06_way.l2 k x1 x3 x10 x11 x13 x14 x15 (wrap64 (x16 + 1)) x470000 x470001) else (if x485001 < (x10.length : Int) then (if x13.length < 17592186044416 then (billetref06_way.l2 k x1 x3 (x10.set (x485001 : Int).toNat x16) (x11.set (x485001 : Int).toNat true) (x13 ++ [x485001]) x14 x15 (wrap64 (x16 + 1)) x470000 x470001) else (none)) else (none))) else (none)) else (none)) else (if x485001 = x15 then (if 0 ≤ x16 then (if x16 < (x1.length : Int) then (billetref06_way.j5 k x1 x3 x10 x11 x13 x14 x15 x16 x18 (decide ((rd x1 x16) > 0)) x470000 x470001 x485000 x485001 x485002) else (none)) else (none)) else (billetref06_way.j5 k x1 x3 x10 x11 x13 x14 x15 x16 x18 false x470000 x470001 x485000 x485001 x485002))
def billetref06_way.j5 : Nat → List Int → Int → List Int → List Bool → List Int → Int → Int → Int → Int → Bool → Int → List (S41) → Int → Int → Int → Option (List Int × Bool)
 | 0, _, _, _, _, _, _, _, _, _, _, _, _, _, _, _ => none
 | k + 1, x1, x3, x10, x11, x13, x14, x15, x16, x18, x90, x470000, x470001, x485000, x485001, x485002 => if x90 = true then (if 0 ≤ x485000 then (if x485000 < (x11.length : Int) then (if rdOf false x11 x485000 = true then (billetref06_way.l2 k x1 x3 x10 x11 x13 x14 x15 (wrap64 (x16 + 1)) x470000 x470001) else (if x485000 < (x10.length : Int) then (if x13.length < 17592186044416 then (billetref06_way.l2 k x1 x3 (x10.set (x485000 : Int).toNat x16) (x11.set (x485000 : Int).toNat true) (x13 ++ [x485000]) x14 x15 (wrap64 (x16 + 1)) x470000 x470001) else (none)) else (none))) else (none)) else (none)) else (if 0 ≤ x18 then (if x18 < (x11.length : Int) then (if rdOf false x11 x18 = true then (billetref06_way.l2 k x1 x3 x10 x11 x13 x14 x15 (wrap64 (x16 + 1)) x470000 x470001) else (if x18 < (x10.length : Int) then (if x13.length < 17592186044416 then (billetref06_way.l2 k x1 x3 (x10.set (x18 : Int).toNat x16) (x11.set (x18 : Int).toNat true) (x13 ++ [x18]) x14 x15 (wrap64 (x16 + 1)) x470000 x470001) else (none)) else (none))) else (none)) else (none))
end
def billetref06_way.f (k : Nat) (a0_0 : Int) (l0_1 : List (S41)) (l1 : List Int) (a2 : Int) (a3 : Int) : Option (List Int × Bool) := if 0 ≤ a0_0 then (if (a0_0 : Int).toNat ≤ 35184372088832 then (if (a0_0 : Int).toNat ≤ 281474976710656 then (billetref06_way.l0 k l1 a2 a3 (List.replicate (a0_0 : Int).toNat 0) (List.replicate (a0_0 : Int).toNat false) 0 a0_0 l0_1) else (none)) else (none)) else (none)
theorem billetref06_way.mono_l : ∀ k, (∀ y0 y1 y2 y3 y4 y5 y6 y7, LeO (billetref06_way.l0 k y0 y1 y2 y3 y4 y5 y6 y7) (billetref06_way.l0 (k + 1) y0 y1 y2 y3 y4 y5 y6 y7)) ∧ (∀ y0 y1 y2 y3 y4 y5 y6 y7, LeO (billetref06_way.l1 k y0 y1 y2 y3 y4 y5 y6 y7) (billetref06_way.l1 (k + 1) y0 y1 y2 y3 y4 y5 y6 y7)) ∧ (∀ y0 y1 y2 y3 y4 y5 y6 y7 y8, LeO (billetref06_way.j2 k y0 y1 y2 y3 y4 y5 y6 y7 y8) (billetref06_way.j2 (k + 1) y0 y1 y2 y3 y4 y5 y6 y7 y8)) ∧ (∀ y0 y1 y2 y3 y4 y5 y6 y7 y8 y9, LeO (billetref06_way.l2 k y0 y1 y2 y3 y4 y5 y6 y7 y8 y9) (billetref06_way.l2 (k + 1) y0 y1 y2 y3 y4 y5 y6 y7 y8 y9)) ∧ (∀ y0 y1 y2 y3 y4 y5 y6 y7 y8 y9 y10 y11 y12 y13 y14, LeO (billetref06_way.j4 k y0 y1 y2 y3 y4 y5 y6 y7 y8 y9 y10 y11 y12 y13 y14) (billetref06_way.j4 (k + 1) y0 y1 y2 y3 y4 y5 y6 y7 y8 y9 y10 y11 y12 y13 y14)) ∧ (∀ y0 y1 y2 y3 y4 y5 y6 y7 y8 y9 y10 y11 y12 y13 y14, LeO (billetref06_way.j5 k y0 y1 y2 y3 y4 y5 y6 y7 y8 y9 y10 y11 y12 y13 y14) (billetref06_way.j5 (k + 1) y0 y1 y2 y3 y4 y5 y6 y7 y8 y9 y10 y11 y12 y13 y14))
 | 0 => ⟨fun _ _ _ _ _ _ _ _ r h => by simp [billetref06_way.l0] at h, fun _ _ _ _ _ _ _ _ r h => by simp [billetref06_way.l1] at h, fun _ _ _ _ _ _ _ _ _ r h => by simp [billetref06_way.j2] at h, fun _ _ _ _ _ _ _ _ _ _ r h => by simp [billetref06_way.l2] at h, fun _ _ _ _ _ _ _ _ _ _ _ _ _ _ _ r h => by simp [billetref06_way.j4] at h, fun _ _ _ _ _ _ _ _ _ _ _ _ _ _ _ r h => by simp [billetref06_way.j5] at h⟩
 | k + 1 => by
  obtain ⟨ih0, ih1, ih2, ih3, ih4, ih5⟩ := billetref06_way.mono_l k
  refine ⟨?_, ?_, ?_, ?_, ?_, ?_⟩
  ·intro y0 y1 y2 y3 y4 y5 y6 y7
   unfold billetref06_way.l0
   repeat' first
   | (with_reducible exact ih0 _ _ _ _ _ _ _ _)
   | (with_reducible exact ih1 _ _ _ _ _ _ _ _)
   | (with_reducible exact ih2 _ _ _ _ _ _ _ _ _)
   | (with_reducible exact ih3 _ _ _ _ _ _ _ _ _ _)
   | (with_reducible exact ih4 _ _ _ _ _ _ _ _ _ _ _ _ _ _ _)
   | (with_reducible exact ih5 _ _ _ _ _ _ _ _ _ _ _ _ _ _ _)
   | (with_reducible exact LeO.refl _)
   | (with_reducible exact LeO.none _)
   | (with_reducible refine LeO.ite ?_ ?_)
   | (with_reducible refine LeO.bind ?_ (fun _ => ?_))
   | exact ih0 _ _ _ _ _ _ _ _
   | exact ih1 _ _ _ _ _ _ _ _
   | exact ih2 _ _ _ _ _ _ _ _ _
   | exact ih3 _ _ _ _ _ _ _ _ _ _
   | exact ih4 _ _ _ _ _ _ _ _ _ _ _ _ _ _ _
   | exact ih5 _ _ _ _ _ _ _ _ _ _ _ _ _ _ _
   | exact LeO.none _
   | refine LeO.ite ?_ ?_
   | refine LeO.bind ?_ (fun _ => ?_)
  ·intro y0 y1 y2 y3 y4 y5 y6 y7
   unfold billetref06_way.l1
   repeat' first
   | (with_reducible exact ih0 _ _ _ _ _ _ _ _)
   | (with_reducible exact ih1 _ _ _ _ _ _ _ _)
   | (with_reducible exact ih2 _ _ _ _ _ _ _ _ _)
   | (with_reducible exact ih3 _ _ _ _ _ _ _ _ _ _)
   | (with_reducible exact ih4 _ _ _ _ _ _ _ _ _ _ _ _ _ _ _)
   | (with_reducible exact ih5 _ _ _ _ _ _ _ _ _ _ _ _ _ _ _)
   | (with_reducible exact LeO.refl _)
   | (with_reducible exact LeO.none _)
   | (with_reducible refine LeO.ite ?_ ?_)
   | (with_reducible refine LeO.bind ?_ (fun _ => ?_))
   | exact ih0 _ _ _ _ _ _ _ _
   | exact ih1 _ _ _ _ _ _ _ _
   | exact ih2 _ _ _ _ _ _ _ _ _
   | exact ih3 _ _ _ _ _ _ _ _ _ _
   | exact ih4 _ _ _ _ _ _ _ _ _ _ _ _ _ _ _
   | exact ih5 _ _ _ _ _ _ _ _ _ _ _ _ _ _ _
   | exact LeO.none _
   | refine LeO.ite ?_ ?_
   | refine LeO.bind ?_ (fun _ => ?_)
  ·intro y0 y1 y2 y3 y4 y5 y6 y7 y8
   unfold billetref06_way.j2
   repeat' first
   | (with_reducible exact ih0 _ _ _ _ _ _ _ _)
   | (with_reducible exact ih1 _ _ _ _ _ _ _ _)
   | (with_reducible exact ih2 _ _ _ _ _ _ _ _ _)
   | (with_reducible exact ih3 _ _ _ _ _ _ _ _ _ _)
   | (with_reducible exact ih4 _ _ _ _ _ _ _ _ _ _ _ _ _ _ _)
   | (with_reducible exact ih5 _ _ _ _ _ _ _ _ _ _ _ _ _ _ _)
   | (with_reducible exact LeO.refl _)
   | (with_reducible exact LeO.none _)
   | (with_reducible refine LeO.ite ?_ ?_)
   | (with_reducible refine LeO.bind ?_ (fun _ => ?_))
   | exact ih0 _ _ _ _ _ _ _ _
   | exact ih1 _ _ _ _ _ _ _ _
   | exact ih2 _ _ _ _ _ _ _ _ _
   | exact ih3 _ _ _ _ _ _ _ _ _ _
   | exact ih4 _ _ _ _ _ _ _ _ _ _ _ _ _ _ _
   | exact ih5 _ _ _ _ _ _ _ _ _ _ _ _ _ _ _
   | exact LeO.none _
   | refine LeO.ite ?_ ?_
   | refine LeO.bind ?_ (fun _ => ?_)
  ·intro y0 y1 y2 y3 y4 y5 y6 y7 y8 y9
   unfold billetref06_way.l2
   repeat' first
   | (with_reducible exact ih0 _ _ _ _ _ _ _ _)
   | (with_reducible exact ih1 _ _ _ _ _ _ _ _)
   | (with_reducible exact ih2 _ _ _ _ _ _ _ _ _)
   | (with_reducible exact ih3 _ _ _ _ _ _ _ _ _ _)
   | (with_reducible exact ih4 _ _ _ _ _ _ _ _ _ _ _ _ _ _ _)
   | (with_reducible exact ih5 _ _ _ _ _ _ _ _ _ _ _ _ _ _ _)
   | (with_reducible exact LeO.refl _)
   | (with_reducible exact LeO.none _)
   | (with_reducible refine LeO.ite ?_ ?_)
   | (with_reducible refine LeO.bind ?_ (fun _ => ?_))
   | exact ih0 _ _ _ _ _ _ _ _
   | exact ih1 _ _ _ _ _ _ _ _
   | exact ih2 _ _ _ _ _ _ _ _ _
   | exact ih3 _ _ _ _ _ _ _ _ _ _
   | exact ih4 _ _ _ _ _ _ _ _ _ _ _ _ _ _ _
   | exact ih5 _ _ _ _ _ _ _ _ _ _ _ _ _ _ _
   | exact LeO.none _
   | refine LeO.ite ?_ ?_
   | refine LeO.bind ?_ (fun _ => ?_)
  ·intro y0 y1 y2 y3 y4 y5 y6 y7 y8 y9 y10 y11 y12 y13 y14
   unfold billetref06_way.j4
   repeat' first
   | (with_reducible exact ih0 _ _ _ _ _ _ _ _)
   | (with_reducible exact ih1 _ _ _ _ _ _ _ _)
   | (with_reducible exact ih2 _ _ _ _ _ _ _ _ _)
   | (with_reducible exact ih3 _ _ _ _ _ _ _ _ _ _)
   | (with_reducible exact ih4 _ _ _ _ _ _ _ _ _ _ _ _ _ _ _)
   | (with_reducible exact ih5 _ _ _ _ _ _ _ _ _ _ _ _ _ _ _)
   | (with_reducible exact LeO.refl _)
   | (with_reducible exact LeO.none _)
   | (with_reducible refine LeO.ite ?_ ?_)
   | (with_reducible refine LeO.bind ?_ (fun _ => ?_))
   | exact ih0 _ _ _ _ _ _ _ _
   | exact ih1 _ _ _ _ _ _ _ _
   | exact ih2 _ _ _ _ _ _ _ _ _
   | exact ih3 _ _ _ _ _ _ _ _ _ _
   | exact ih4 _ _ _ _ _ _ _ _ _ _ _ _ _ _ _
   | exact ih5 _ _ _ _ _ _ _ _ _ _ _ _ _ _ _
   | exact LeO.none _
   | refine LeO.ite ?_ ?_
   | refine LeO.bind ?_ (fun _ => ?_)
  ·intro y0 y1 y2 y3 y4 y5 y6 y7 y8 y9 y10 y11 y12 y13 y14
   unfold billetref06_way.j5
   repeat' first
   | (with_reducible exact ih0 _ _ _ _ _ _ _ _)
   | (with_reducible exact ih1 _ _ _ _ _ _ _ _)
   | (with_reducible exact ih2 _ _ _ _ _ _ _ _ _)
   | (with_reducible exact ih3 _ _ _ _ _ _ _ _ _ _)
   | (with_reducible exact ih4 _ _ _ _ _ _ _ _ _ _ _ _ _ _ _)
   | (with_reducible exact ih5 _ _ _ _ _ _ _ _ _ _ _ _ _ _ _)
   | (with_reducible exact LeO.refl _)
   | (with_reducible exact LeO.none _)
   | (with_reducible refine LeO.ite ?_ ?_)
   | (with_reducible refine LeO.bind ?_ (fun _ => ?_))
   | exact ih0 _ _ _ _ _ _ _ _
   | exact ih1 _ _ _ _ _ _ _ _
   | exact ih2 _ _ _ _ _ _ _ _ _
   | exact ih3 _ _ _ _ _ _ _ _ _ _
   | exact ih4 _ _ _ _ _ _ _ _ _ _ _ _ _ _ _
   | exact ih5 _ _ _ _ _ _ _ _ _ _ _ _ _ _ _
   | exact LeO.none _
   | refine LeO.ite ?_ ?_
   | refine LeO.bind ?_ (fun _ => ?_)
theorem billetref06_way.mono : ∀ a0 a1 a2 a3 a4 k, LeO (billetref06_way.f k a0 a1 a2 a3 a4) (billetref06_way.f (k + 1) a0 a1 a2 a3 a4) := by
 intro a0 a1 a2 a3 a4 k
 obtain ⟨ih0, ih1, ih2, ih3, ih4, ih5⟩ := billetref06_way.mono_l k
 unfold billetref06_way.f
 repeat' first
   | (with_reducible exact ih0 _ _ _ _ _ _ _ _)
   | (with_reducible exact ih1 _ _ _ _ _ _ _ _)
   | (with_reducible exact ih2 _ _ _ _ _ _ _ _ _)
   | (with_reducible exact ih3 _ _ _ _ _ _ _ _ _ _)
   | (with_reducible exact ih4 _ _ _ _ _ _ _ _ _ _ _ _ _ _ _)
   | (with_reducible exact ih5 _ _ _ _ _ _ _ _ _ _ _ _ _ _ _)
   | (with_reducible exact LeO.refl _)
   | (with_reducible exact LeO.none _)
   | (with_reducible refine LeO.ite ?_ ?_)
   | (with_reducible refine LeO.bind ?_ (fun _ => ?_))
   | exact ih0 _ _ _ _ _ _ _ _
   | exact ih1 _ _ _ _ _ _ _ _
   | exact ih2 _ _ _ _ _ _ _ _ _
   | exact ih3 _ _ _ _ _ _ _ _ _ _
   | exact ih4 _ _ _ _ _ _ _ _ _ _ _ _ _ _ _
   | exact ih5 _ _ _ _ _ _ _ _ _ _ _ _ _ _ _
   | exact LeO.none _
   | refine LeO.ite ?_ ?_
   | refine LeO.bind ?_ (fun _ => ?_)
set_option maxHeartbeats 8000000 in
set_option maxRecDepth 100000 in
theorem billetref06_way.calls (k : Nat) (a0_0 : Int) (A0_1 : Option Addr) (c0_1 : Nat) (l0_1 : List (S41)) (A1 : Option Addr) (c1 : Nat) (l1 : List Int) (a2 : Int) (a3 : Int) (r1 : List Int) (r2 : Bool) (w : World) (hr0_1 : Kd.C k41 w A0_1 l0_1.length l0_1) (hc0_1 : l0_1.length ≤ c0_1) (hr1 : Kd.C (Kd.int .i64) w A1 l1.length l1) (hc1 : l1.length ≤ c1) (h : billetref06_way.f k a0_0 l0_1 l1 a2 a3 = some (r1, r2)) :
  Calls Try.prog 55 #[.agg #[.int .i64 a0_0, .slice A0_1 l0_1.length c0_1], .slice A1 l1.length c1, .int .i64 a2, .int .i64 a3] w fun e w' => ∃ v0_ : Value, e = .returned (.tuple #[v0_, .bool r2]) ∧ Kd.R (Kd.int .i64) 3 w' w.heap.size (fun _ => True) v0_ r1 ∧ Below w.heap.size w w' := by
 have hu24 := Try.underlying24
 have hu41 := Try.underlying41
 have HR0_1 := Aside0.mk hr0_1
 have HC0_1 := Aside0.mk hc0_1
 clear hr0_1 hc0_1
 have HR1 := Aside0.mk hr1
 have HC1 := Aside0.mk hc1
 clear hr1 hc1
 have HB := Aside0.mk (Below.refl w.heap.size w)
 have H : (if 0 ≤ a0_0 then (if (a0_0 : Int).toNat ≤ 35184372088832 then (if (a0_0 : Int).toNat ≤ 281474976710656 then (billetref06_way.l0 k l1 a2 a3 (List.replicate (a0_0 : Int).toNat 0) (List.replicate (a0_0 : Int).toNat false) 0 a0_0 l0_1) else (none)) else (none)) else (none)) = some (r1, r2) := h
 clear h
 by_cases c5 : 0 ≤ a0_0
 ·rw [if_pos c5] at H
  have c5b0 := eq_true c5
  have c5b1 : decide (0 ≤ a0_0) = true := decide_eq_true c5
  clear c5
  by_cases c6 : (a0_0 : Int).toNat ≤ 35184372088832
  ·rw [if_pos c6] at H
   have c6b0 := eq_true c6
   have c6b1 : decide ((a0_0 : Int).toNat ≤ 35184372088832) = true := decide_eq_true c6
   clear c6
   obtain ⟨y470, hy470⟩ : ∃ y_ : List Int, y_ = (List.replicate (a0_0 : Int).toNat 0) := ⟨_, rfl⟩
   replace H : (if (a0_0 : Int).toNat ≤ 281474976710656 then (billetref06_way.l0 k l1 a2 a3 y470 (List.replicate (a0_0 : Int).toNat false) 0 a0_0 l0_1) else (none)) = some (r1, r2) := by first | (rw [hy470]; with_reducible exact H) | (have H2_ := (Option.bind_some _ _).symm.trans H; rw [hy470]; with_reducible exact H2_) | (have H2_ := (Option.bind_some _ _).symm.trans H; with_reducible exact H2_) | with_reducible exact H | (rw [hy470]; exact H) | exact H
   have Ny470 := Aside0.mk hy470
   clear hy470
   by_cases c7 : (a0_0 : Int).toNat ≤ 281474976710656
   ·rw [if_pos c7] at H
    have c7b0 := eq_true c7
    have c7b1 : decide ((a0_0 : Int).toNat ≤ 281474976710656) = true := decide_eq_true c7
    clear c7
    obtain ⟨y473, hy473⟩ : ∃ y_ : List Bool, y_ = (List.replicate (a0_0 : Int).toNat false) := ⟨_, rfl⟩
    replace H : (billetref06_way.l0 k l1 a2 a3 y470 y473 0 a0_0 l0_1) = some (r1, r2) := by first | (rw [hy473]; with_reducible exact H) | (have H2_ := (Option.bind_some _ _).symm.trans H; rw [hy473]; with_reducible exact H2_) | (have H2_ := (Option.bind_some _ _).symm.trans H; with_reducible exact H2_) | with_reducible exact H | (rw [hy473]; exact H) | exact H
    have Ny473 := Aside0.mk hy473
    clear hy473
    have H' := Aside0.mk H
    clear H
    go_enter Try.func55, Try.ntmps55
    iterate 8 ((try go_quiet (fail)); try go_wp2_with (first | ((with_reducible refine gate_dst (N := 4) rfl ?_); refine box_event ?hg (N := 4) ?hd (cs := #[.int .i64 a0_0, .slice A0_1 l0_1.length c0_1]) (t := 24) ?hr ?_; (case hd => rfl); (case hg => rfl); (case hr => first | (go_simp; done) | (go_simp; rfl)); intro gb469 hg w8 hbox hb; have n0_ := Aside0.mk (below_step (by repeat (first | (with_reducible first | exact HB.out | apply below_alloc | apply pw_below_drewN | apply below_drew1) | exact HB.out)) hb); have n1_ := Aside0.mk (hbox); have n2_ := Aside0.mk ((by rw [hg]; exact (below_size (by repeat (first | (with_reducible first | exact HB.out | apply below_alloc | apply pw_below_drewN | apply below_drew1) | exact HB.out))) : w.heap.size ≤ gb469)); have n3_ := Aside0.mk ((by rw [hg]; exact (below_size (by repeat (first | (with_reducible first | exact HB.out | apply below_alloc | apply pw_below_drewN | apply below_drew1) | exact HB.out))) : w.heap.size ≤ gb469)); clear HB; have HB := n0_; have BK469 := n1_; have GW469 := n2_; have GE469 := n3_; clear n0_ n1_ n2_ n3_; clear hb hbox hg; have hcz9_0 : w8.cell? ⟨gb469, 0, none⟩ = some (.int .i64 a0_0) := (blk_cell BK469.out 0).trans rfl; have hcz9_1 : w8.cell? ⟨gb469, 1, none⟩ = some (.slice A0_1 l0_1.length c0_1) := (blk_cell BK469.out 1).trans rfl; have hfz9_0 := blk_frozen BK469.out 0; have hfz9_1 := blk_frozen BK469.out 1) | ((with_reducible refine gate_dst (N := 21) rfl ?_); refine Kd.R_make (Kd.int .i64) _ 3 rfl (N := 21) rfl 25 _ _ rfl a0_0 rfl rfl Try.underlying25 (.int .i64 0) 8 info3 rfl (by decide) (by omega) 0 (ok := fun _ => True) (okp := fun _ => True) rfl (fun _ hk => hk) trivial (of_decide_eq_true (by first | (with_reducible assumption) | assumption)) (Nat.le_trans (Nat.mul_le_mul_right _ (of_decide_eq_true (by first | (with_reducible assumption) | assumption) : a0_0.toNat ≤ 35184372088832)) (by omega)) (Below.refl _ _) (Nat.le_refl _) ?_; intro v471 w10 ho11 hb hg_ hnew_; clear hg_ hnew_; (first | rw [← Ny470.out] at ho11 | (simp only [Int.reduceToNat] at ho11; rw [← Ny470.out] at ho11)); have n0_ := Aside0.mk (Kd.R_lower ho11 (below_size (by repeat (first | (with_reducible first | exact HB.out | apply below_alloc | apply pw_below_drewN | apply below_drew1 | refine below_set ?_ GE469.out) | exact HB.out)))); have n1_ := Aside0.mk (blk_below (g := gb469) (o := .cells #[.int .i64 a0_0, .slice A0_1 l0_1.length c0_1] 24 (0, 0)) (by (with_reducible repeat (first | refine blk_drewN ?_ _ | refine blk_drew ?_ | refine blk_alloc ?_ _)); exact BK469.out) hb); have n2_ := Aside0.mk (below_step (by repeat (first | (with_reducible first | exact HB.out | apply below_alloc | apply pw_below_drewN | apply below_drew1 | refine below_set ?_ GE469.out) | exact HB.out)) hb); clear BK469; clear HB; have HO472 := n0_; have BK469 := n1_; have HB := n2_; clear n0_ n1_ n2_; clear hb ho11; have hcz12_0 : w10.cell? ⟨gb469, 0, none⟩ = some (.int .i64 a0_0) := (blk_cell BK469.out 0).trans rfl; have hcz12_1 : w10.cell? ⟨gb469, 1, none⟩ = some (.slice A0_1 l0_1.length c0_1) := (blk_cell BK469.out 1).trans rfl; have hfz12_0 := blk_frozen BK469.out 0; have hfz12_1 := blk_frozen BK469.out 1) | ((with_reducible refine gate_dst (N := 24) rfl ?_); refine Kd.R_make Kd.bool _ 4 rfl (N := 24) rfl 26 _ _ rfl a0_0 rfl rfl Try.underlying26 (.bool false) 1 info4 rfl (by decide) (by omega) false (ok := fun _ => True) (okp := fun _ => True) rfl (fun _ hk => hk) trivial (of_decide_eq_true (by first | (with_reducible assumption) | assumption)) (Nat.le_trans (Nat.mul_le_mul_right _ (of_decide_eq_true (by first | (with_reducible assumption) | assumption) : a0_0.toNat ≤ 281474976710656)) (by omega)) (Below.refl _ _) (Nat.le_refl _) ?_; intro v474 w13 ho14 hb hg_ hnew_; clear hg_ hnew_; (first | rw [← Ny473.out] at ho14 | (simp only [Int.reduceToNat] at ho14; rw [← Ny473.out] at ho14)); have n0_ := Aside0.mk (Kd.R_below (by (with_reducible repeat (first | apply Kd.R_alloc | apply Kd.R_drewN | apply Kd.R_drew)); exact HO472.out) hb); have n1_ := Aside0.mk (Kd.R_lower ho14 (below_size (by repeat (first | (with_reducible first | exact HB.out | apply below_alloc | apply pw_below_drewN | apply below_drew1 | refine below_set ?_ GE469.out) | exact HB.out)))); have n2_ := Aside0.mk (blk_below (g := gb469) (o := .cells #[.int .i64 a0_0, .slice A0_1 l0_1.length c0_1] 24 (0, 0)) (by (with_reducible repeat (first | refine blk_drewN ?_ _ | refine blk_drew ?_ | refine blk_alloc ?_ _)); exact BK469.out) hb); have n3_ := Aside0.mk (below_step (by repeat (first | (with_reducible first | exact HB.out | apply below_alloc | apply pw_below_drewN | apply below_drew1 | refine below_set ?_ GE469.out) | exact HB.out)) hb); clear HO472; clear BK469; clear HB; have HO472 := n0_; have HO475 := n1_; have BK469 := n2_; have HB := n3_; clear n0_ n1_ n2_ n3_; clear hb ho14)))
    go_loopg [12] k (fun kq v12 w' => ∃ (x10_1 : List Int) (x12_1 : Int), v12 = .int .i64 x12_1 ∧ Aside0 (billetref06_way.l0 kq l1 a2 a3 x10_1 y473 x12_1 a0_0 l0_1 = some (r1, r2)) ∧ Aside0 (kq ≤ k) ∧ Aside0 (Kd.R (Kd.int .i64) 3 w' w.heap.size (fun _ => True) v471 x10_1) ∧ Aside0 (Kd.R Kd.bool 4 w' w.heap.size (fun _ => True) v474 y473) ∧ Aside0 (w'.heap[gb469]? = some (.cells #[.int .i64 a0_0, (.slice A0_1 l0_1.length c0_1)] 24 (0, 0))) ∧ Aside0 (Below w.heap.size w w'))
    case atStart => exact ⟨(y470), (0), (by first | rfl | (simp; done) | (simp [*]; done)), H', ⟨Nat.le_refl _⟩, ⟨by (with_reducible repeat (first | apply Kd.R_alloc | apply Kd.R_drewN | apply Kd.R_drew)); exact HO472.out⟩, ⟨by (with_reducible repeat (first | apply Kd.R_alloc | apply Kd.R_drewN | apply Kd.R_drew)); exact HO475.out⟩, ⟨by (with_reducible repeat (first | refine blk_drewN ?_ _ | refine blk_drew ?_ | refine blk_alloc ?_ _)); exact BK469.out⟩, ⟨by repeat (first | (with_reducible first | exact HB.out | apply below_alloc | apply pw_below_drewN | apply below_drew1 | refine below_set ?_ GE469.out) | exact HB.out)⟩⟩
    case round =>
     clear H'
     obtain ⟨x10_1, x12_1, rfl, HA, HK1, HO_10, HO_11, BK469, HB⟩ := hrel
     cases gk with
     | zero => exact absurd HA.out (by simp [billetref06_way.l0])
     | succ k1 =>
      have H := HA.out
      clear HA
      simp only [billetref06_way.l0] at H
      by_cases c15 : x12_1 < a0_0
      ·rw [if_pos c15] at H
       have c15b0 : decide (x12_1 < a0_0) = true := decide_eq_true c15
       clear c15
       by_cases c16 : 0 ≤ x12_1
       ·rw [if_pos c16] at H
        have c16b0 : decide (0 ≤ x12_1) = true := decide_eq_true c16
        clear c16
        by_cases c17 : x12_1 < (x10_1.length : Int)
        ·rw [if_pos c17] at H
         have c17b0 : decide (x12_1 < (x10_1.length : Int)) = true := decide_eq_true c17
         clear c17
         obtain ⟨y476, hy476⟩ : ∃ y_ : List Int, y_ = (x10_1.set (x12_1 : Int).toNat (-1)) := ⟨_, rfl⟩
         replace H : (billetref06_way.l0 k1 l1 a2 a3 y476 y473 (wrap64 (x12_1 + 1)) a0_0 l0_1) = some (r1, r2) := by first | (rw [hy476]; with_reducible exact H) | (have H2_ := (Option.bind_some _ _).symm.trans H; rw [hy476]; with_reducible exact H2_) | (have H2_ := (Option.bind_some _ _).symm.trans H; with_reducible exact H2_) | with_reducible exact H | (rw [hy476]; exact H) | exact H
         have Ny476 := Aside0.mk hy476
         clear hy476
         have H' := Aside0.mk H
         clear H
         have hcz19_0 : wr.cell? ⟨gb469, 0, none⟩ = some (.int .i64 a0_0) := (blk_cell BK469.out 0).trans rfl
         have hcz19_1 : wr.cell? ⟨gb469, 1, none⟩ = some (.slice A0_1 l0_1.length c0_1) := (blk_cell BK469.out 1).trans rfl
         have hfz19_0 := blk_frozen BK469.out 0
         have hfz19_1 := blk_frozen BK469.out 1
         have p18 : 0 ≤ (x12_1 : Int) := of_decide_eq_true (by first | (with_reducible assumption) | assumption)
         have q18 : (x12_1 : Int) < ((x10_1.length : Int) : Int) := of_decide_eq_true (by first | (with_reducible assumption) | assumption)
         obtain ⟨go18, co18, eo18, gb18, gl18, cl18, HG18⟩ := Kd.R_form HO_10.out (by omega)
         (first | cases eo18 | (injection eo18 with ea_ en_ ec_; (first | subst ea_ | (injection ea_ with ea_; subst ea_)); subst ec_; clear en_))
         have GB18 := Aside0.mk gb18
         have GG18 := Aside0.mk HG18
         clear gb18 gl18 HG18
         obtain ⟨hx18_0, hf18_0⟩ := Kd.R_celln 0 HO_10.out (x12_1 : Int) p18 q18
         replace p18 := eq_true p18
         replace q18 := eq_true q18
         have HP20 := Kd.R_putg HO_10.out (x12_1 : Int) (-1)
         iterate 8 ((try go_quiet (fail)); try go_wp2_with (first | ((with_reducible refine gate_store (t := 3) (p := 33) rfl ?_); (try (rw [drewN_self wr]; generalize hq_ : World.drewN wr _ = wr; have n0_ := Aside0.mk (Kd.R_at hq_ HO_10.out); have n1_ := Aside0.mk (Kd.R_at hq_ HO_11.out); have n2_ := Aside0.mk (blk_at hq_ BK469.out); have n3_ := Aside0.mk (below_at hq_ HB.out); clear hq_ HO_10 HO_11 BK469 HB; have HO_10 := n0_; have HO_11 := n1_; have BK469 := n2_; have HB := n3_; clear n0_ n1_ n2_ n3_; (try (have HP20 := Kd.R_putg HO_10.out (x12_1 : Int) (-1))))); refine store_event (t := 3) (p := 33) (v := ?vo_w21) (w1 := (wr.setCell ⟨go18, (x12_1 : Int).toNat, none⟩ (.int .i64 (-1)))) ?hg ?ho ?hn ?hr ?_; (case ho => rfl); (case hg => rfl); (case hn => rfl); (case hr => first | (go_simp; done) | (go_simp; rfl)); intro w21 hw; have hg : wr.grownBy w21 (some go18) := (by rw [hw]; exact HP20.2); have hp_ : Kd.R (Kd.int .i64) 3 w21 w.heap.size (fun _ => True) (.slice (some ⟨go18, 0, none⟩) x10_1.length co18) y476 := (by rw [hw, Ny476.out]; exact HP20.1); clear HP20; have n0_ := Aside0.mk (hp_); have n1_ := Aside0.mk (Kd.R_over' (v := (.slice (some ⟨go18, 0, none⟩) x10_1.length co18)) (by (with_reducible repeat (first | apply Kd.R_alloc | apply Kd.R_drewN | apply Kd.R_drew)); exact HO_11.out) (Kd.R_typed HO_10.out) (by decide) hg); have n2_ := Aside0.mk (blk_grown (g := gb469) (o := .cells #[.int .i64 a0_0, .slice A0_1 l0_1.length c0_1] 24 (0, 0)) (by (with_reducible repeat (first | refine blk_drewN ?_ _ | refine blk_drew ?_ | refine blk_alloc ?_ _)); exact BK469.out) hg (Kd.R_ne HO_10.out BK469.out (by decide))); have n3_ := Aside0.mk ((by rw [hw]; exact below_set (HB.out) GB18.out : Below w.heap.size w w21)); clear HO_10; clear HO_11; clear BK469; clear HB; have HO_10 := n0_; have HO_11 := n1_; have BK469 := n2_; have HB := n3_; clear n0_ n1_ n2_ n3_; clear hg hw hp_)))
         go_roundg k1
         case measure => have := HK1.out; omega
         case rel => exact ⟨(y476), (wrap64 (x12_1 + 1)), (by first | rfl | (simp; done) | (simp [*]; done)), H', ⟨by have := HK1.out; omega⟩, ⟨by (with_reducible repeat (first | apply Kd.R_alloc | apply Kd.R_drewN | apply Kd.R_drew)); exact HO_10.out⟩, ⟨by (with_reducible repeat (first | apply Kd.R_alloc | apply Kd.R_drewN | apply Kd.R_drew)); exact HO_11.out⟩, ⟨by (with_reducible repeat (first | refine blk_drewN ?_ _ | refine blk_drew ?_ | refine blk_alloc ?_ _)); exact BK469.out⟩, ⟨by repeat (first | (with_reducible first | exact HB.out | apply below_alloc | apply pw_below_drewN | apply below_drew1 | refine below_set ?_ GE469.out) | exact HB.out)⟩⟩
        ·rw [if_neg c17] at H
         exact absurd H (by simp)
       ·rw [if_neg c16] at H
        exact absurd H (by simp)
      ·rw [if_neg c15] at H
       have c15b0 : decide (x12_1 < a0_0) = false := decide_eq_false c15
       clear c15
       by_cases c22 : 0 ≤ a2
       ·rw [if_pos c22] at H
        have c22b0 : decide (0 ≤ a2) = true := decide_eq_true c22
        clear c22
        by_cases c23 : a2 < (y473.length : Int)
        ·rw [if_pos c23] at H
         have c23b0 : decide (a2 < (y473.length : Int)) = true := decide_eq_true c23
         clear c23
         obtain ⟨y477, hy477⟩ : ∃ y_ : List Bool, y_ = (y473.set (a2 : Int).toNat true) := ⟨_, rfl⟩
         replace H : (billetref06_way.l1 k1 l1 a3 x10_1 y477 (([a2] : List Int)) 0 a0_0 l0_1) = some (r1, r2) := by first | (rw [hy477]; with_reducible exact H) | (have H2_ := (Option.bind_some _ _).symm.trans H; rw [hy477]; with_reducible exact H2_) | (have H2_ := (Option.bind_some _ _).symm.trans H; with_reducible exact H2_) | with_reducible exact H | (rw [hy477]; exact H) | exact H
         have Ny477 := Aside0.mk hy477
         clear hy477
         obtain ⟨y478, hy478⟩ : ∃ y_ : List Int, y_ = (([a2] : List Int)) := ⟨_, rfl⟩
         replace H : (billetref06_way.l1 k1 l1 a3 x10_1 y477 y478 0 a0_0 l0_1) = some (r1, r2) := by first | (rw [hy478]; with_reducible exact H) | (have H2_ := (Option.bind_some _ _).symm.trans H; rw [hy478]; with_reducible exact H2_) | (have H2_ := (Option.bind_some _ _).symm.trans H; with_reducible exact H2_) | with_reducible exact H | (rw [hy478]; exact H) | exact H
         have Ny478 := Aside0.mk hy478
         clear hy478
         have H' := Aside0.mk H
         clear H
         have hcz25_0 : wr.cell? ⟨gb469, 0, none⟩ = some (.int .i64 a0_0) := (blk_cell BK469.out 0).trans rfl
         have hcz25_1 : wr.cell? ⟨gb469, 1, none⟩ = some (.slice A0_1 l0_1.length c0_1) := (blk_cell BK469.out 1).trans rfl
         have hfz25_0 := blk_frozen BK469.out 0
         have hfz25_1 := blk_frozen BK469.out 1
         have p24 : 0 ≤ (a2 : Int) := of_decide_eq_true (by first | (with_reducible assumption) | assumption)
         have q24 : (a2 : Int) < ((y473.length : Int) : Int) := of_decide_eq_true (by first | (with_reducible assumption) | assumption)
         obtain ⟨go24, co24, eo24, gb24, gl24, cl24, HG24⟩ := Kd.R_form HO_11.out (by omega)
         (first | cases eo24 | (injection eo24 with ea_ en_ ec_; (first | subst ea_ | (injection ea_ with ea_; subst ea_)); subst ec_; clear en_))
         have GB24 := Aside0.mk gb24
         have GG24 := Aside0.mk HG24
         clear gb24 gl24 HG24
         obtain ⟨hx24_0, hf24_0⟩ := Kd.R_celln false HO_11.out (a2 : Int) p24 q24
         replace p24 := eq_true p24
         replace q24 := eq_true q24
         have HP26 := Kd.R_putg HO_11.out (a2 : Int) true
         iterate 8 ((try go_quiet (fail)); try go_wp2_with (first | ((with_reducible refine gate_store (t := 4) (p := 36) rfl ?_); (try (rw [drewN_self wr]; generalize hq_ : World.drewN wr _ = wr; have n0_ := Aside0.mk (Kd.R_at hq_ HO_10.out); have n1_ := Aside0.mk (Kd.R_at hq_ HO_11.out); have n2_ := Aside0.mk (blk_at hq_ BK469.out); have n3_ := Aside0.mk (below_at hq_ HB.out); clear hq_ HO_10 HO_11 BK469 HB; have HO_10 := n0_; have HO_11 := n1_; have BK469 := n2_; have HB := n3_; clear n0_ n1_ n2_ n3_; (try (have HP26 := Kd.R_putg HO_11.out (a2 : Int) true)))); refine store_event (t := 4) (p := 36) (v := ?vo_w27) (w1 := (wr.setCell ⟨go24, (a2 : Int).toNat, none⟩ (.bool true))) ?hg ?ho ?hn ?hr ?_; (case ho => rfl); (case hg => rfl); (case hn => rfl); (case hr => first | (go_simp; done) | (go_simp; rfl)); intro w27 hw; have hg : wr.grownBy w27 (some go24) := (by rw [hw]; exact HP26.2); have hp_ : Kd.R Kd.bool 4 w27 w.heap.size (fun _ => True) (.slice (some ⟨go24, 0, none⟩) y473.length co24) y477 := (by rw [hw, Ny477.out]; exact HP26.1); clear HP26; have n0_ := Aside0.mk (Kd.R_over' (v := (.slice (some ⟨go24, 0, none⟩) y473.length co24)) (by (with_reducible repeat (first | apply Kd.R_alloc | apply Kd.R_drewN | apply Kd.R_drew)); exact HO_10.out) (Kd.R_typed HO_11.out) (by decide) hg); have n1_ := Aside0.mk (hp_); have n2_ := Aside0.mk (blk_grown (g := gb469) (o := .cells #[.int .i64 a0_0, .slice A0_1 l0_1.length c0_1] 24 (0, 0)) (by (with_reducible repeat (first | refine blk_drewN ?_ _ | refine blk_drew ?_ | refine blk_alloc ?_ _)); exact BK469.out) hg (Kd.R_ne HO_11.out BK469.out (by decide))); have n3_ := Aside0.mk ((by rw [hw]; exact below_set (HB.out) GB24.out : Below w.heap.size w w27)); clear HO_10; clear HO_11; clear BK469; clear HB; have HO_10 := n0_; have HO_11 := n1_; have BK469 := n2_; have HB := n3_; clear n0_ n1_ n2_ n3_; clear hg hw hp_) | ((with_reducible refine gate_dst (N := 38) rfl ?_); refine Kd.R_lit (Kd.int .i64) _ 3 ?hg (N := 38) ?hd (xs := ([a2] : List Int)) (inner := [.int .i64 a2]) (ok := fun _ => True) (okp := fun _ => True) ?hr ?hp (fun _ hk => hk) trivial (Below.refl _ _) (Nat.le_refl _) (by simp) ?_; (case hd => rfl); (case hg => rfl); (case hr => first | (go_simp; done) | (go_simp; rfl)); (case hp => exact (Reps.one (show Kd.M (Kd.int .i64) _ _ _ a2 [.int .i64 a2] from rfl) (Reps.none _ _))); intro v479 w28 ho29 hb hg_ hnew_; clear hg_ hnew_; (first | rw [← Ny478.out] at ho29 | (simp only [Int.reduceToNat] at ho29; rw [← Ny478.out] at ho29)); have n0_ := Aside0.mk (Kd.R_elder' (by (with_reducible repeat (first | apply Kd.R_alloc | apply Kd.R_drewN | apply Kd.R_drew)); exact HO_10.out) (Kd.R_base ho29) hb); have n1_ := Aside0.mk (Kd.R_below (by (with_reducible repeat (first | apply Kd.R_alloc | apply Kd.R_drewN | apply Kd.R_drew)); exact HO_11.out) hb); have n2_ := Aside0.mk (Kd.R_lower (Kd.R_new' ho29 (Kd.R_lt (by (with_reducible repeat (first | apply Kd.R_alloc | apply Kd.R_drewN | apply Kd.R_drew)); exact HO_10.out))) (below_size (by repeat (first | (with_reducible first | exact HB.out | apply below_alloc | apply pw_below_drewN | apply below_drew1 | refine below_set ?_ GE469.out) | exact HB.out)))); have n3_ := Aside0.mk (blk_below (g := gb469) (o := .cells #[.int .i64 a0_0, .slice A0_1 l0_1.length c0_1] 24 (0, 0)) (by (with_reducible repeat (first | refine blk_drewN ?_ _ | refine blk_drew ?_ | refine blk_alloc ?_ _)); exact BK469.out) hb); have n4_ := Aside0.mk (below_step (by repeat (first | (with_reducible first | exact HB.out | apply below_alloc | apply pw_below_drewN | apply below_drew1 | refine below_set ?_ GE469.out) | exact HB.out)) hb); clear HO_10; clear HO_11; clear BK469; clear HB; have HO_10 := n0_; have HO_11 := n1_; have HO480 := n2_; have BK469 := n3_; have HB := n4_; clear n0_ n1_ n2_ n3_ n4_; clear hb ho29)))
         go_loopg [13, 14] k1 (fun kq v13 v14 w' => ∃ (x10_2 : List Int) (x11_2 : List Bool) (x13_2 : List Int) (x14_2 : Int), v14 = .int .i64 x14_2 ∧ Aside0 (billetref06_way.l1 kq l1 a3 x10_2 x11_2 x13_2 x14_2 a0_0 l0_1 = some (r1, r2)) ∧ Aside0 (kq ≤ k1) ∧ Aside0 (Kd.R (Kd.int .i64) 3 w' w.heap.size (fun k_ => some k_ ≠ (v13 : Value).ownBlock) v471 x10_2) ∧ Aside0 (Kd.R Kd.bool 4 w' w.heap.size (fun _ => True) (.slice (some ⟨go24, 0, none⟩) y473.length co24) x11_2) ∧ Aside0 (Kd.R (Kd.int .i64) 3 w' w.heap.size (fun k_ => some k_ ≠ (v471 : Value).ownBlock) v13 x13_2) ∧ Aside0 (w'.heap[gb469]? = some (.cells #[.int .i64 a0_0, (.slice A0_1 l0_1.length c0_1)] 24 (0, 0))) ∧ Aside0 (Below w.heap.size w w'))
         case atStart => exact ⟨(x10_1), (y477), (y478), (0), (by first | rfl | (simp; done) | (simp [*]; done)), H', ⟨Nat.le_refl _⟩, ⟨by (with_reducible repeat (first | apply Kd.R_alloc | apply Kd.R_drewN | apply Kd.R_drew)); exact Kd.R_mono HO_10.out (fun _ hk => hk.2)⟩, ⟨by (with_reducible repeat (first | apply Kd.R_alloc | apply Kd.R_drewN | apply Kd.R_drew)); exact HO_11.out⟩, ⟨by (with_reducible repeat (first | apply Kd.R_alloc | apply Kd.R_drewN | apply Kd.R_drew)); exact Kd.R_mono HO480.out (fun _ hk => hk.2)⟩, ⟨by (with_reducible repeat (first | refine blk_drewN ?_ _ | refine blk_drew ?_ | refine blk_alloc ?_ _)); exact BK469.out⟩, ⟨by repeat (first | (with_reducible first | exact HB.out | apply below_alloc | apply pw_below_drewN | apply below_drew1 | refine below_set ?_ GE469.out) | exact HB.out)⟩⟩
         case round =>
          clear H'
          obtain ⟨x10_2, x11_2, x13_2, x14_2, rfl, HA, HK2, HO_10, HO_11, HO_13, BK469, HB⟩ := hrel
          have hl11_2 := (Kd.R_reads' HO_11.out).1
          rw [hl11_2] at HO_11
          (try simp only [hl11_2])
          (try simp only [hl11_2] at BK469)
          (try simp only [hl11_2] at HO_10)
          (try simp only [hl11_2] at HO_13)
          cases gk with
          | zero => exact absurd HA.out (by simp [billetref06_way.l1])
          | succ k2 =>
           have H := HA.out
           clear HA
           simp only [billetref06_way.l1] at H
           have HC30 := Aside0.mk H
           clear H
           go_upto_region 10 with (fail)
           repeat (go_quiet (fail); go_upto_region 10 with (fail))
           go_cut [46] (fun v46 wc => ∃ (kq : Nat) (x46_29 : Bool), v46 = .bool x46_29 ∧ Aside0 (billetref06_way.j2 kq l1 a3 x10_2 x11_2 x13_2 x14_2 x46_29 a0_0 l0_1 = some (r1, r2)) ∧ Aside0 (kq ≤ k2) ∧ Aside0 (Kd.R (Kd.int .i64) 3 wc w.heap.size (fun k_ => some k_ ≠ (u13 : Value).ownBlock) v471 x10_2) ∧ Aside0 (Kd.R Kd.bool 4 wc w.heap.size (fun _ => True) (.slice (some ⟨go24, 0, none⟩) x11_2.length co24) x11_2) ∧ Aside0 (Kd.R (Kd.int .i64) 3 wc w.heap.size (fun k_ => some k_ ≠ (v471 : Value).ownBlock) u13 x13_2) ∧ Aside0 (wc.heap[gb469]? = some (.cells #[.int .i64 a0_0, (.slice A0_1 l0_1.length c0_1)] 24 (0, 0))) ∧ Aside0 (Below w.heap.size w wc))
           case first =>
            have H := HC30.out
            clear HC30
            by_cases c31 : x14_2 < (x13_2.length : Int)
            ·rw [if_pos c31] at H
             have c31b0 : decide (x14_2 < (x13_2.length : Int)) = true := decide_eq_true c31
             clear c31
             (first | rw [c31b0] | (simp only [i64_w, i32_w]; rw [c31b0]) | skip)
             have H' := Aside0.mk H
             clear H
             obtain ⟨Ao32, co32, eo32⟩ := Kd.R_slice HO_13.out
             subst eo32
             go_wp2
             repeat (go_quiet (fail); try go_wp2)
             go_meet
             case rel => exact ⟨_, (decide (x14_2 < 64)), (by first | rfl | (simp; done) | (simp [*]; done)), H', ⟨by have := HK1.out; have := HK2.out; first | omega | exact Nat.le_refl _⟩, ⟨by (try simp only [hl11_2]); (with_reducible repeat (first | apply Kd.R_alloc | apply Kd.R_drewN | apply Kd.R_drew)); exact HO_10.out⟩, ⟨by (try simp only [hl11_2]); (with_reducible repeat (first | apply Kd.R_alloc | apply Kd.R_drewN | apply Kd.R_drew)); exact HO_11.out⟩, ⟨by (try simp only [hl11_2]); (with_reducible repeat (first | apply Kd.R_alloc | apply Kd.R_drewN | apply Kd.R_drew)); exact HO_13.out⟩, ⟨by (try simp only [hl11_2]); (with_reducible repeat (first | refine blk_drewN ?_ _ | refine blk_drew ?_ | refine blk_alloc ?_ _)); exact BK469.out⟩, ⟨by repeat (first | (with_reducible first | exact HB.out | apply below_alloc | apply pw_below_drewN | apply below_drew1 | refine below_set ?_ GE469.out) | exact HB.out)⟩⟩
            ·rw [if_neg c31] at H
             have c31b0 : decide (x14_2 < (x13_2.length : Int)) = false := decide_eq_false c31
             clear c31
             (first | rw [c31b0] | (simp only [i64_w, i32_w]; rw [c31b0]) | skip)
             have H' := Aside0.mk H
             clear H
             obtain ⟨Ao33, co33, eo33⟩ := Kd.R_slice HO_13.out
             subst eo33
             go_wp2
             repeat (go_quiet (fail); try go_wp2)
             go_meet
             case rel => exact ⟨_, (false), (by first | rfl | (simp; done) | (simp [*]; done)), H', ⟨by have := HK1.out; have := HK2.out; first | omega | exact Nat.le_refl _⟩, ⟨by (try simp only [hl11_2]); (with_reducible repeat (first | apply Kd.R_alloc | apply Kd.R_drewN | apply Kd.R_drew)); exact HO_10.out⟩, ⟨by (try simp only [hl11_2]); (with_reducible repeat (first | apply Kd.R_alloc | apply Kd.R_drewN | apply Kd.R_drew)); exact HO_11.out⟩, ⟨by (try simp only [hl11_2]); (with_reducible repeat (first | apply Kd.R_alloc | apply Kd.R_drewN | apply Kd.R_drew)); exact HO_13.out⟩, ⟨by (try simp only [hl11_2]); (with_reducible repeat (first | refine blk_drewN ?_ _ | refine blk_drew ?_ | refine blk_alloc ?_ _)); exact BK469.out⟩, ⟨by repeat (first | (with_reducible first | exact HB.out | apply below_alloc | apply pw_below_drewN | apply below_drew1 | refine below_set ?_ GE469.out) | exact HB.out)⟩⟩
           case rest =>
            clear HC30
            obtain ⟨kq, x46_29, rfl, HA, HJ29, HO_10, HO_11, HO_13, BK469, HB⟩ := hcut
            cases kq with
            | zero => exact absurd HA.out (by simp [billetref06_way.j2])
            | succ kj29 =>
             have H := HA.out
             clear HA
             simp only [billetref06_way.j2] at H
             by_cases c34 : x46_29 = true
             ·subst c34
              have H1 : (if 0 ≤ x14_2 then (if x14_2 < (x13_2.length : Int) then (billetref06_way.l2 kj29 l1 a3 x10_2 x11_2 x13_2 x14_2 (rd x13_2 x14_2) 0 a0_0 l0_1) else (none)) else (none)) = some (r1, r2) := by rw [if_pos rfl] at H; exact H
              clear H
              have H := H1
              clear H1
              by_cases c35 : 0 ≤ x14_2
              ·rw [if_pos c35] at H
               have c35b0 : decide (0 ≤ x14_2) = true := decide_eq_true c35
               clear c35
               by_cases c36 : x14_2 < (x13_2.length : Int)
               ·rw [if_pos c36] at H
                have c36b0 : decide (x14_2 < (x13_2.length : Int)) = true := decide_eq_true c36
                clear c36
                have H' := Aside0.mk H
                clear H
                obtain ⟨Ao37, co37, eo37⟩ := Kd.R_slice HO_13.out
                subst eo37
                have p482 : 0 ≤ (x14_2 : Int) := of_decide_eq_true (by first | (with_reducible assumption) | assumption)
                have q482 : x14_2 < (x13_2.length : Int) := of_decide_eq_true (by first | (with_reducible assumption) | assumption)
                obtain ⟨ad482, e482, hx482_0⟩ := Kd.at_int (Kd.R_reads' HO_13.out).2.2 x14_2 p482 q482
                cases e482
                replace p482 := eq_true p482
                replace q482 := eq_true q482
                go_wp2
                repeat (go_quiet (fail); try go_wp2)
                go_loopg [13, 16] kj29 (fun kq v13 v16 w' => ∃ (x10_4 : List Int) (x11_4 : List Bool) (x13_4 : List Int) (x16_4 : Int), v16 = .int .i64 x16_4 ∧ Aside0 (billetref06_way.l2 kq l1 a3 x10_4 x11_4 x13_4 x14_2 (rd x13_2 x14_2) x16_4 a0_0 l0_1 = some (r1, r2)) ∧ Aside0 (kq ≤ kj29) ∧ Aside0 (Kd.R (Kd.int .i64) 3 w' w.heap.size (fun k_ => some k_ ≠ (v13 : Value).ownBlock) v471 x10_4) ∧ Aside0 (Kd.R Kd.bool 4 w' w.heap.size (fun _ => True) (.slice (some ⟨go24, 0, none⟩) x11_2.length co24) x11_4) ∧ Aside0 (Kd.R (Kd.int .i64) 3 w' w.heap.size (fun k_ => some k_ ≠ (v471 : Value).ownBlock) v13 x13_4) ∧ Aside0 (w'.heap[gb469]? = some (.cells #[.int .i64 a0_0, (.slice A0_1 l0_1.length c0_1)] 24 (0, 0))) ∧ Aside0 (Below w.heap.size w w'))
                case atStart => exact ⟨(x10_2), (x11_2), (x13_2), (0), (by first | rfl | (simp; done) | (simp [*]; done)), H', ⟨Nat.le_refl _⟩, ⟨by (try simp only [hl11_2]); (with_reducible repeat (first | apply Kd.R_alloc | apply Kd.R_drewN | apply Kd.R_drew)); exact HO_10.out⟩, ⟨by (try simp only [hl11_2]); (with_reducible repeat (first | apply Kd.R_alloc | apply Kd.R_drewN | apply Kd.R_drew)); exact HO_11.out⟩, ⟨by (try simp only [hl11_2]); (with_reducible repeat (first | apply Kd.R_alloc | apply Kd.R_drewN | apply Kd.R_drew)); exact HO_13.out⟩, ⟨by (try simp only [hl11_2]); (with_reducible repeat (first | refine blk_drewN ?_ _ | refine blk_drew ?_ | refine blk_alloc ?_ _)); exact BK469.out⟩, ⟨by repeat (first | (with_reducible first | exact HB.out | apply below_alloc | apply pw_below_drewN | apply below_drew1 | refine below_set ?_ GE469.out) | exact HB.out)⟩⟩
                case round =>
                 clear H'
                 obtain ⟨x10_4, x11_4, x13_4, x16_4, rfl, HA, HK4, HO_10, HO_11, HO_13, BK469, HB⟩ := hrel
                 have hl11_4 := (Kd.R_reads' HO_11.out).1
                 rw [hl11_4] at HO_11
                 (try simp only [hl11_4])
                 (try simp only [hl11_4] at BK469)
                 (try simp only [hl11_4] at HO_10)
                 (try simp only [hl11_4] at HO_13)
                 cases gk with
                 | zero => exact absurd HA.out (by simp [billetref06_way.l2])
                 | succ k4 =>
                  have H := HA.out
                  clear HA
                  simp only [billetref06_way.l2] at H
                  by_cases c38 : x16_4 < (l1.length : Int)
                  ·rw [if_pos c38] at H
                   have c38b0 : decide (x16_4 < (l1.length : Int)) = true := decide_eq_true c38
                   clear c38
                   by_cases c39 : 0 ≤ x16_4
                   ·rw [if_pos c39] at H
                    have c39b0 : decide (0 ≤ x16_4) = true := decide_eq_true c39
                    clear c39
                    by_cases c40 : x16_4 < (l0_1.length : Int)
                    ·rw [if_pos c40] at H
                     have c40b0 : decide (x16_4 < (l0_1.length : Int)) = true := decide_eq_true c40
                     clear c40
                     have HC41 := Aside0.mk H
                     clear H
                     have hcz42_0 : wr.cell? ⟨gb469, 0, none⟩ = some (.int .i64 a0_0) := (blk_cell BK469.out 0).trans rfl
                     have hcz42_1 : wr.cell? ⟨gb469, 1, none⟩ = some (.slice A0_1 l0_1.length c0_1) := (blk_cell BK469.out 1).trans rfl
                     have hfz42_0 := blk_frozen BK469.out 0
                     have hfz42_1 := blk_frozen BK469.out 1
                     have p483 : 0 ≤ (x16_4 : Int) := of_decide_eq_true (by first | (with_reducible assumption) | assumption)
                     have q483 : x16_4 < (l0_1.length : Int) := of_decide_eq_true (by first | (with_reducible assumption) | assumption)
                     obtain ⟨ad483, e483, hx483_0, hx483_1, hx483_2⟩ := at_T41 HR0_1.out x16_4 p483 q483
                     cases e483
                     replace hx483_0 := (HB.out.cell (World.block_lt_of_cell? w _ hx483_0)).trans hx483_0
                     replace hx483_1 := (HB.out.cell (World.block_lt_of_cell? w _ hx483_1)).trans hx483_1
                     replace hx483_2 := (HB.out.cell (World.block_lt_of_cell? w _ hx483_2)).trans hx483_2
                     replace p483 := eq_true p483
                     replace q483 := eq_true q483
                     go_upto_region 18 with (first | ((with_reducible refine gate_dst (N := 17) rfl ?_); refine box_event ?hg (N := 17) ?hd (cs := #[.int .i64 0, .int .i64 0, .int .i64 0]) (t := 41) ?hr ?_; (case hd => rfl); (case hg => rfl); (case hr => first | (go_simp; done) | (go_simp; rfl)); intro gb484 hg w43 hbox hb; have n0_ := Aside0.mk (Kd.R_below (by (with_reducible repeat (first | apply Kd.R_alloc | apply Kd.R_drewN | apply Kd.R_drew)); exact HO_10.out) hb); have n1_ := Aside0.mk (Kd.R_below (by (with_reducible repeat (first | apply Kd.R_alloc | apply Kd.R_drewN | apply Kd.R_drew)); exact HO_11.out) hb); have n2_ := Aside0.mk (Kd.R_below (by (with_reducible repeat (first | apply Kd.R_alloc | apply Kd.R_drewN | apply Kd.R_drew)); exact HO_13.out) hb); have n3_ := Aside0.mk (blk_below (g := gb469) (o := .cells #[.int .i64 a0_0, .slice (some ad483) l0_1.length c0_1] 24 (0, 0)) (by (with_reducible repeat (first | refine blk_drewN ?_ _ | refine blk_drew ?_ | refine blk_alloc ?_ _)); exact BK469.out) hb); have n4_ := Aside0.mk (below_step (by repeat (first | (with_reducible first | exact HB.out | apply below_alloc | apply pw_below_drewN | apply below_drew1 | refine below_set ?_ GE469.out) | exact HB.out)) hb); have n5_ := Aside0.mk (hbox); have n6_ := Aside0.mk ((by rw [hg]; exact (below_size (by repeat (first | (with_reducible first | exact HB.out | apply below_alloc | apply pw_below_drewN | apply below_drew1 | refine below_set ?_ GE469.out) | exact HB.out))) : w.heap.size ≤ gb484)); have n7_ := Aside0.mk ((by rw [hg]; exact (below_size (by repeat (first | (with_reducible first | exact HB.out | apply below_alloc | apply pw_below_drewN | apply below_drew1 | refine below_set ?_ GE469.out) | exact HB.out))) : w.heap.size ≤ gb484)); have n8_ := Aside0.mk ((by rw [hg]; exact Nat.ne_of_lt (blk_lt (g := gb469) (o := .cells #[.int .i64 a0_0, .slice (some ad483) l0_1.length c0_1] 24 (0, 0)) (by (with_reducible repeat (first | refine blk_drewN ?_ _ | refine blk_drew ?_ | refine blk_alloc ?_ _)); exact BK469.out)) : gb469 ≠ gb484)); have n9_ := Aside0.mk ((by rw [hg]; exact Nat.ne_of_gt (blk_lt (g := gb469) (o := .cells #[.int .i64 a0_0, .slice (some ad483) l0_1.length c0_1] 24 (0, 0)) (by (with_reducible repeat (first | refine blk_drewN ?_ _ | refine blk_drew ?_ | refine blk_alloc ?_ _)); exact BK469.out)) : gb484 ≠ gb469)); clear HO_10; clear HO_11; clear HO_13; clear BK469; clear HB; have HO_10 := n0_; have HO_11 := n1_; have HO_13 := n2_; have BK469 := n3_; have HB := n4_; have BK484 := n5_; have GW484 := n6_; have GE484 := n7_; have NB469_484 := n8_; have NB484_469 := n9_; clear n0_ n1_ n2_ n3_ n4_ n5_ n6_ n7_ n8_ n9_; clear hb hbox hg; have hnb44 := NB484_469.out; have hnc44 := NB469_484.out; have hcz45_0 : w43.cell? ⟨gb484, 0, none⟩ = some (.int .i64 0) := (blk_cell BK484.out 0).trans rfl; have hcz45_1 : w43.cell? ⟨gb484, 1, none⟩ = some (.int .i64 0) := (blk_cell BK484.out 1).trans rfl; have hcz45_2 : w43.cell? ⟨gb484, 2, none⟩ = some (.int .i64 0) := (blk_cell BK484.out 2).trans rfl; have hfz45_0 := blk_frozen BK484.out 0; have hfz45_1 := blk_frozen BK484.out 1; have hfz45_2 := blk_frozen BK484.out 2))
                     repeat (go_quiet (fail); go_upto_region 18 with (first | ((with_reducible refine gate_dst (N := 17) rfl ?_); refine box_event ?hg (N := 17) ?hd (cs := #[.int .i64 0, .int .i64 0, .int .i64 0]) (t := 41) ?hr ?_; (case hd => rfl); (case hg => rfl); (case hr => first | (go_simp; done) | (go_simp; rfl)); intro gb484 hg w43 hbox hb; have n0_ := Aside0.mk (Kd.R_below (by (with_reducible repeat (first | apply Kd.R_alloc | apply Kd.R_drewN | apply Kd.R_drew)); exact HO_10.out) hb); have n1_ := Aside0.mk (Kd.R_below (by (with_reducible repeat (first | apply Kd.R_alloc | apply Kd.R_drewN | apply Kd.R_drew)); exact HO_11.out) hb); have n2_ := Aside0.mk (Kd.R_below (by (with_reducible repeat (first | apply Kd.R_alloc | apply Kd.R_drewN | apply Kd.R_drew)); exact HO_13.out) hb); have n3_ := Aside0.mk (blk_below (g := gb469) (o := .cells #[.int .i64 a0_0, .slice (some ad483) l0_1.length c0_1] 24 (0, 0)) (by (with_reducible repeat (first | refine blk_drewN ?_ _ | refine blk_drew ?_ | refine blk_alloc ?_ _)); exact BK469.out) hb); have n4_ := Aside0.mk (below_step (by repeat (first | (with_reducible first | exact HB.out | apply below_alloc | apply pw_below_drewN | apply below_drew1 | refine below_set ?_ GE469.out) | exact HB.out)) hb); have n5_ := Aside0.mk (hbox); have n6_ := Aside0.mk ((by rw [hg]; exact (below_size (by repeat (first | (with_reducible first | exact HB.out | apply below_alloc | apply pw_below_drewN | apply below_drew1 | refine below_set ?_ GE469.out) | exact HB.out))) : w.heap.size ≤ gb484)); have n7_ := Aside0.mk ((by rw [hg]; exact (below_size (by repeat (first | (with_reducible first | exact HB.out | apply below_alloc | apply pw_below_drewN | apply below_drew1 | refine below_set ?_ GE469.out) | exact HB.out))) : w.heap.size ≤ gb484)); have n8_ := Aside0.mk ((by rw [hg]; exact Nat.ne_of_lt (blk_lt (g := gb469) (o := .cells #[.int .i64 a0_0, .slice (some ad483) l0_1.length c0_1] 24 (0, 0)) (by (with_reducible repeat (first | refine blk_drewN ?_ _ | refine blk_drew ?_ | refine blk_alloc ?_ _)); exact BK469.out)) : gb469 ≠ gb484)); have n9_ := Aside0.mk ((by rw [hg]; exact Nat.ne_of_gt (blk_lt (g := gb469) (o := .cells #[.int .i64 a0_0, .slice (some ad483) l0_1.length c0_1] 24 (0, 0)) (by (with_reducible repeat (first | refine blk_drewN ?_ _ | refine blk_drew ?_ | refine blk_alloc ?_ _)); exact BK469.out)) : gb484 ≠ gb469)); clear HO_10; clear HO_11; clear HO_13; clear BK469; clear HB; have HO_10 := n0_; have HO_11 := n1_; have HO_13 := n2_; have BK469 := n3_; have HB := n4_; have BK484 := n5_; have GW484 := n6_; have GE484 := n7_; have NB469_484 := n8_; have NB484_469 := n9_; clear n0_ n1_ n2_ n3_ n4_ n5_ n6_ n7_ n8_ n9_; clear hb hbox hg; have hnb44 := NB484_469.out; have hnc44 := NB469_484.out; have hcz45_0 : w43.cell? ⟨gb484, 0, none⟩ = some (.int .i64 0) := (blk_cell BK484.out 0).trans rfl; have hcz45_1 : w43.cell? ⟨gb484, 1, none⟩ = some (.int .i64 0) := (blk_cell BK484.out 1).trans rfl; have hcz45_2 : w43.cell? ⟨gb484, 2, none⟩ = some (.int .i64 0) := (blk_cell BK484.out 2).trans rfl; have hfz45_0 := blk_frozen BK484.out 0; have hfz45_1 := blk_frozen BK484.out 1; have hfz45_2 := blk_frozen BK484.out 2)))
                     (try simp only [Act.put, List.setIfInBounds_toArray, List.set_cons_zero, List.set_cons_succ])
                     go_cut [77] (fun v77 wc => ∃ (kq : Nat) (x77_40 : Bool), v77 = .bool x77_40 ∧ Aside0 (billetref06_way.j4 kq l1 a3 x10_4 x11_4 x13_4 x14_2 (rd x13_2 x14_2) x16_4 (rd x13_2 x14_2) x77_40 a0_0 l0_1 ((rd_T41 l0_1 x16_4).f0) ((rd_T41 l0_1 x16_4).f1) ((rd_T41 l0_1 x16_4).f2) = some (r1, r2)) ∧ Aside0 (kq ≤ k4) ∧ Aside0 (Kd.R (Kd.int .i64) 3 wc w.heap.size (fun k_ => some k_ ≠ (u13 : Value).ownBlock) v471 x10_4) ∧ Aside0 (Kd.R Kd.bool 4 wc w.heap.size (fun _ => True) (.slice (some ⟨go24, 0, none⟩) x11_4.length co24) x11_4) ∧ Aside0 (Kd.R (Kd.int .i64) 3 wc w.heap.size (fun k_ => some k_ ≠ (v471 : Value).ownBlock) u13 x13_4) ∧ Aside0 (wc.heap[gb469]? = some (.cells #[.int .i64 a0_0, (.slice (some ad483) l0_1.length c0_1)] 24 (0, 0))) ∧ Aside0 (wc.heap[gb484]? = some (.cells #[.int .i64 ((rd_T41 l0_1 x16_4).f0), .int .i64 ((rd_T41 l0_1 x16_4).f1), .int .i64 ((rd_T41 l0_1 x16_4).f2)] 41 (0, 0))) ∧ Aside0 (Below w.heap.size w wc))
                     case first =>
                      have H := HC41.out
                      clear HC41
                      by_cases c46 : ((rd_T41 l0_1 x16_4).f0) = (rd x13_2 x14_2)
                      ·rw [if_pos c46] at H
                       have c46b0 : (((rd_T41 l0_1 x16_4).f0) == (rd x13_2 x14_2)) = true := beq_iff_eq.mpr c46
                       have c46b1 : (((rd_T41 l0_1 x16_4).f0) != (rd x13_2 x14_2)) = false := bne_eq_false_iff_eq.mpr c46
                       clear c46
                       (first | rw [c46b0] | (simp only [i64_w, i32_w]; rw [c46b0]) | skip)
                       have H' := Aside0.mk H
                       clear H
                       have hnb47 := NB484_469.out
                       have hnc47 := NB469_484.out
                       have hcz48_0 : w43.cell? ⟨gb484, 0, none⟩ = some (.int .i64 0) := (blk_cell BK484.out 0).trans rfl
                       have hcz48_1 : w43.cell? ⟨gb484, 1, none⟩ = some (.int .i64 0) := (blk_cell BK484.out 1).trans rfl
                       have hcz48_2 : w43.cell? ⟨gb484, 2, none⟩ = some (.int .i64 0) := (blk_cell BK484.out 2).trans rfl
                       have hfz48_0 := blk_frozen BK484.out 0
                       have hfz48_1 := blk_frozen BK484.out 1
                       have hfz48_2 := blk_frozen BK484.out 2
                       have p485 : 0 ≤ (x16_4 : Int) := of_decide_eq_true (by first | (with_reducible assumption) | assumption)
                       have q485 : x16_4 < (l1.length : Int) := of_decide_eq_true (by first | (with_reducible assumption) | assumption)
                       obtain ⟨ad485, e485, hx485_0⟩ := Kd.at_int HR1.out x16_4 p485 q485
                       cases e485
                       have hn485_0 : ad485.block ≠ gb484 := Nat.ne_of_lt (Nat.lt_of_lt_of_le (by have := World.block_lt_of_cell? _ _ hx485_0; first | rwa [add_block] at this | exact this) GW484.out)
                       have hn485_1 : ad485.block ≠ gb484 := Nat.ne_of_lt (Nat.lt_of_lt_of_le (by have := World.block_lt_of_cell? _ _ hx485_0; first | rwa [add_block] at this | exact this) GW484.out)
                       have hn485_2 : ad485.block ≠ gb484 := Nat.ne_of_lt (Nat.lt_of_lt_of_le (by have := World.block_lt_of_cell? _ _ hx485_0; first | rwa [add_block] at this | exact this) GW484.out)
                       replace hx485_0 := (HB.out.cell (World.block_lt_of_cell? w _ hx485_0)).trans hx485_0
                       replace hx485_0 := (cell_far (p := ⟨gb484, 0, none⟩) (by first | (rw [add_block]; exact hn485_0) | (show (Addr.add _ _).block ≠ _; rw [add_block]; exact hn485_0) | exact hn485_0) (.int .i64 ((rd_T41 l0_1 x16_4).f0))).trans hx485_0
                       replace hx485_0 := (cell_far (p := ⟨gb484, 1, none⟩) (by first | (rw [add_block]; exact hn485_1) | (show (Addr.add _ _).block ≠ _; rw [add_block]; exact hn485_1) | exact hn485_1) (.int .i64 ((rd_T41 l0_1 x16_4).f1))).trans hx485_0
                       replace hx485_0 := (cell_far (p := ⟨gb484, 2, none⟩) (by first | (rw [add_block]; exact hn485_2) | (show (Addr.add _ _).block ≠ _; rw [add_block]; exact hn485_2) | exact hn485_2) (.int .i64 ((rd_T41 l0_1 x16_4).f2))).trans hx485_0
                       (try have hy485_0 := fun (n_ : Nat) => (show (((((w43.drewN n_).setCell ⟨gb484, 0, none⟩ (.int .i64 ((rd_T41 l0_1 x16_4).f0))).setCell ⟨gb484, 1, none⟩ (.int .i64 ((rd_T41 l0_1 x16_4).f1))).setCell ⟨gb484, 2, none⟩ (.int .i64 ((rd_T41 l0_1 x16_4).f2)))).cell? _ = some _ from hx485_0))
                       clear hn485_0
                       clear hn485_1
                       clear hn485_2
                       replace p485 := eq_true p485
                       replace q485 := eq_true q485
                       go_wp2
                       repeat (go_quiet (fail); try go_wp2)
                       go_meet
                       case rel => exact ⟨_, (decide ((rd l1 x16_4) < ((rd_T41 l0_1 x16_4).f2))), (by first | rfl | (simp; done) | (simp [*]; done)), H', ⟨by have := HK1.out; have := HK2.out; have := HJ29.out; have := HK4.out; first | omega | exact Nat.le_refl _⟩, ⟨by (try simp only [hl11_2]); (try simp only [hl11_4]); (with_reducible repeat (first | apply Kd.R_alloc | apply Kd.R_drewN | apply Kd.R_drew)); exact Kd.R_mono (Kd.R_far (p := ⟨gb484, 2, none⟩) (Kd.R_far (p := ⟨gb484, 1, none⟩) (Kd.R_far (p := ⟨gb484, 0, none⟩) (Kd.R_types HO_10.out BK484.out (by decide)) (fun _ hk => hk.2) (.int .i64 ((rd_T41 l0_1 x16_4).f0))) (fun _ hk => hk.2) (.int .i64 ((rd_T41 l0_1 x16_4).f1))) (fun _ hk => hk.2) (.int .i64 ((rd_T41 l0_1 x16_4).f2))) (fun _ hk => hk.1)⟩, ⟨by (try simp only [hl11_2]); (try simp only [hl11_4]); (with_reducible repeat (first | apply Kd.R_alloc | apply Kd.R_drewN | apply Kd.R_drew)); exact Kd.R_mono (Kd.R_far (p := ⟨gb484, 2, none⟩) (Kd.R_far (p := ⟨gb484, 1, none⟩) (Kd.R_far (p := ⟨gb484, 0, none⟩) (Kd.R_types HO_11.out BK484.out (by decide)) (fun _ hk => hk.2) (.int .i64 ((rd_T41 l0_1 x16_4).f0))) (fun _ hk => hk.2) (.int .i64 ((rd_T41 l0_1 x16_4).f1))) (fun _ hk => hk.2) (.int .i64 ((rd_T41 l0_1 x16_4).f2))) (fun _ hk => trivial)⟩, ⟨by (try simp only [hl11_2]); (try simp only [hl11_4]); (with_reducible repeat (first | apply Kd.R_alloc | apply Kd.R_drewN | apply Kd.R_drew)); exact Kd.R_mono (Kd.R_far (p := ⟨gb484, 2, none⟩) (Kd.R_far (p := ⟨gb484, 1, none⟩) (Kd.R_far (p := ⟨gb484, 0, none⟩) (Kd.R_types HO_13.out BK484.out (by decide)) (fun _ hk => hk.2) (.int .i64 ((rd_T41 l0_1 x16_4).f0))) (fun _ hk => hk.2) (.int .i64 ((rd_T41 l0_1 x16_4).f1))) (fun _ hk => hk.2) (.int .i64 ((rd_T41 l0_1 x16_4).f2))) (fun _ hk => hk.1)⟩, ⟨by (try simp only [hl11_2]); (try simp only [hl11_4]); (with_reducible repeat (first | refine blk_drewN ?_ _ | refine blk_drew ?_ | refine blk_alloc ?_ _)); refine blk_far ?_ NB469_484.out _; (with_reducible repeat (first | refine blk_drewN ?_ _ | refine blk_drew ?_ | refine blk_alloc ?_ _)); refine blk_far ?_ NB469_484.out _; (with_reducible repeat (first | refine blk_drewN ?_ _ | refine blk_drew ?_ | refine blk_alloc ?_ _)); refine blk_far ?_ NB469_484.out _; (with_reducible repeat (first | refine blk_drewN ?_ _ | refine blk_drew ?_ | refine blk_alloc ?_ _)); exact BK469.out⟩, ⟨by (try simp only [hl11_2]); (try simp only [hl11_4]); (with_reducible repeat (first | refine blk_drewN ?_ _ | refine blk_drew ?_ | refine blk_alloc ?_ _)); refine blk_put (cs := #[.int .i64 ((rd_T41 l0_1 x16_4).f0), .int .i64 ((rd_T41 l0_1 x16_4).f1), .int .i64 0]) ?_ 2 _ rfl; (with_reducible repeat (first | refine blk_drewN ?_ _ | refine blk_drew ?_ | refine blk_alloc ?_ _)); refine blk_put (cs := #[.int .i64 ((rd_T41 l0_1 x16_4).f0), .int .i64 0, .int .i64 0]) ?_ 1 _ rfl; (with_reducible repeat (first | refine blk_drewN ?_ _ | refine blk_drew ?_ | refine blk_alloc ?_ _)); refine blk_put (cs := #[.int .i64 0, .int .i64 0, .int .i64 0]) ?_ 0 _ rfl; (with_reducible repeat (first | refine blk_drewN ?_ _ | refine blk_drew ?_ | refine blk_alloc ?_ _)); exact BK484.out⟩, ⟨by repeat (first | (with_reducible first | exact HB.out | apply below_alloc | apply pw_below_drewN | apply below_drew1 | refine below_set ?_ GE469.out | refine below_set ?_ GE484.out) | exact HB.out)⟩⟩
                      ·rw [if_neg c46] at H
                       have c46b0 : (((rd_T41 l0_1 x16_4).f0) == (rd x13_2 x14_2)) = false := beq_eq_false_iff_ne.mpr c46
                       have c46b1 : (((rd_T41 l0_1 x16_4).f0) != (rd x13_2 x14_2)) = true := bne_iff_ne.mpr c46
                       (first | rw [c46b0] | (simp only [i64_w, i32_w]; rw [c46b0]) | skip)
                       have H' := Aside0.mk H
                       clear H
                       have hnb49 := NB484_469.out
                       have hnc49 := NB469_484.out
                       have hcz50_0 : w43.cell? ⟨gb484, 0, none⟩ = some (.int .i64 0) := (blk_cell BK484.out 0).trans rfl
                       have hcz50_1 : w43.cell? ⟨gb484, 1, none⟩ = some (.int .i64 0) := (blk_cell BK484.out 1).trans rfl
                       have hcz50_2 : w43.cell? ⟨gb484, 2, none⟩ = some (.int .i64 0) := (blk_cell BK484.out 2).trans rfl
                       have hfz50_0 := blk_frozen BK484.out 0
                       have hfz50_1 := blk_frozen BK484.out 1
                       have hfz50_2 := blk_frozen BK484.out 2
                       go_wp2
                       repeat (go_quiet (fail); try go_wp2)
                       go_meet
                       case rel => exact ⟨_, (false), (by first | rfl | (simp; done) | (simp [*]; done)), H', ⟨by have := HK1.out; have := HK2.out; have := HJ29.out; have := HK4.out; first | omega | exact Nat.le_refl _⟩, ⟨by (try simp only [hl11_2]); (try simp only [hl11_4]); (with_reducible repeat (first | apply Kd.R_alloc | apply Kd.R_drewN | apply Kd.R_drew)); exact Kd.R_mono (Kd.R_far (p := ⟨gb484, 2, none⟩) (Kd.R_far (p := ⟨gb484, 1, none⟩) (Kd.R_far (p := ⟨gb484, 0, none⟩) (Kd.R_types HO_10.out BK484.out (by decide)) (fun _ hk => hk.2) (.int .i64 ((rd_T41 l0_1 x16_4).f0))) (fun _ hk => hk.2) (.int .i64 ((rd_T41 l0_1 x16_4).f1))) (fun _ hk => hk.2) (.int .i64 ((rd_T41 l0_1 x16_4).f2))) (fun _ hk => hk.1)⟩, ⟨by (try simp only [hl11_2]); (try simp only [hl11_4]); (with_reducible repeat (first | apply Kd.R_alloc | apply Kd.R_drewN | apply Kd.R_drew)); exact Kd.R_mono (Kd.R_far (p := ⟨gb484, 2, none⟩) (Kd.R_far (p := ⟨gb484, 1, none⟩) (Kd.R_far (p := ⟨gb484, 0, none⟩) (Kd.R_types HO_11.out BK484.out (by decide)) (fun _ hk => hk.2) (.int .i64 ((rd_T41 l0_1 x16_4).f0))) (fun _ hk => hk.2) (.int .i64 ((rd_T41 l0_1 x16_4).f1))) (fun _ hk => hk.2) (.int .i64 ((rd_T41 l0_1 x16_4).f2))) (fun _ hk => trivial)⟩, ⟨by (try simp only [hl11_2]); (try simp only [hl11_4]); (with_reducible repeat (first | apply Kd.R_alloc | apply Kd.R_drewN | apply Kd.R_drew)); exact Kd.R_mono (Kd.R_far (p := ⟨gb484, 2, none⟩) (Kd.R_far (p := ⟨gb484, 1, none⟩) (Kd.R_far (p := ⟨gb484, 0, none⟩) (Kd.R_types HO_13.out BK484.out (by decide)) (fun _ hk => hk.2) (.int .i64 ((rd_T41 l0_1 x16_4).f0))) (fun _ hk => hk.2) (.int .i64 ((rd_T41 l0_1 x16_4).f1))) (fun _ hk => hk.2) (.int .i64 ((rd_T41 l0_1 x16_4).f2))) (fun _ hk => hk.1)⟩, ⟨by (try simp only [hl11_2]); (try simp only [hl11_4]); (with_reducible repeat (first | refine blk_drewN ?_ _ | refine blk_drew ?_ | refine blk_alloc ?_ _)); refine blk_far ?_ NB469_484.out _; (with_reducible repeat (first | refine blk_drewN ?_ _ | refine blk_drew ?_ | refine blk_alloc ?_ _)); refine blk_far ?_ NB469_484.out _; (with_reducible repeat (first | refine blk_drewN ?_ _ | refine blk_drew ?_ | refine blk_alloc ?_ _)); refine blk_far ?_ NB469_484.out _; (with_reducible repeat (first | refine blk_drewN ?_ _ | refine blk_drew ?_ | refine blk_alloc ?_ _)); exact BK469.out⟩, ⟨by (try simp only [hl11_2]); (try simp only [hl11_4]); (with_reducible repeat (first | refine blk_drewN ?_ _ | refine blk_drew ?_ | refine blk_alloc ?_ _)); refine blk_put (cs := #[.int .i64 ((rd_T41 l0_1 x16_4).f0), .int .i64 ((rd_T41 l0_1 x16_4).f1), .int .i64 0]) ?_ 2 _ rfl; (with_reducible repeat (first | refine blk_drewN ?_ _ | refine blk_drew ?_ | refine blk_alloc ?_ _)); refine blk_put (cs := #[.int .i64 ((rd_T41 l0_1 x16_4).f0), .int .i64 0, .int .i64 0]) ?_ 1 _ rfl; (with_reducible repeat (first | refine blk_drewN ?_ _ | refine blk_drew ?_ | refine blk_alloc ?_ _)); refine blk_put (cs := #[.int .i64 0, .int .i64 0, .int .i64 0]) ?_ 0 _ rfl; (with_reducible repeat (first | refine blk_drewN ?_ _ | refine blk_drew ?_ | refine blk_alloc ?_ _)); exact BK484.out⟩, ⟨by repeat (first | (with_reducible first | exact HB.out | apply below_alloc | apply pw_below_drewN | apply below_drew1 | refine below_set ?_ GE469.out | refine below_set ?_ GE484.out) | exact HB.out)⟩⟩
                     case rest =>
                      clear HC41
                      obtain ⟨kq, x77_40, rfl, HA, HJ40, HO_10, HO_11, HO_13, BK469, BK484, HB⟩ := hcut
                      cases kq with
                      | zero => exact absurd HA.out (by simp [billetref06_way.j4])
                      | succ kj40 =>
                       have H := HA.out
                       clear HA
                       simp only [billetref06_way.j4] at H
                       by_cases c51 : x77_40 = true
                       ·subst c51
                        have H1 : (if 0 ≤ ((rd_T41 l0_1 x16_4).f1) then (if ((rd_T41 l0_1 x16_4).f1) < (x11_4.length : Int) then (if rdOf false x11_4 ((rd_T41 l0_1 x16_4).f1) = true then (billetref06_way.l2 kj40 l1 a3 x10_4 x11_4 x13_4 x14_2 (rd x13_2 x14_2) (wrap64 (x16_4 + 1)) a0_0 l0_1) else (if ((rd_T41 l0_1 x16_4).f1) < (x10_4.length : Int) then (if x13_4.length < 17592186044416 then (billetref06_way.l2 kj40 l1 a3 (x10_4.set (((rd_T41 l0_1 x16_4).f1) : Int).toNat x16_4) (x11_4.set (((rd_T41 l0_1 x16_4).f1) : Int).toNat true) (x13_4 ++ [((rd_T41 l0_1 x16_4).f1)]) x14_2 (rd x13_2 x14_2) (wrap64 (x16_4 + 1)) a0_0 l0_1) else (none)) else (none))) else (none)) else (none)) = some (r1, r2) := by rw [if_pos rfl] at H; exact H
                        clear H
                        have H := H1
                        clear H1
                        by_cases c52 : 0 ≤ ((rd_T41 l0_1 x16_4).f1)
                        ·rw [if_pos c52] at H
                         have c52b0 : decide (0 ≤ ((rd_T41 l0_1 x16_4).f1)) = true := decide_eq_true c52
                         clear c52
                         by_cases c53 : ((rd_T41 l0_1 x16_4).f1) < (x11_4.length : Int)
                         ·rw [if_pos c53] at H
                          have c53b0 : decide (((rd_T41 l0_1 x16_4).f1) < (x11_4.length : Int)) = true := decide_eq_true c53
                          clear c53
                          obtain ⟨bq54, hbq54⟩ : ∃ b_ : Bool, b_ = (rdOf false x11_4 ((rd_T41 l0_1 x16_4).f1)) := ⟨_, rfl⟩
                          replace H : (if bq54 = true then (billetref06_way.l2 kj40 l1 a3 x10_4 x11_4 x13_4 x14_2 (rd x13_2 x14_2) (wrap64 (x16_4 + 1)) a0_0 l0_1) else (if ((rd_T41 l0_1 x16_4).f1) < (x10_4.length : Int) then (if x13_4.length < 17592186044416 then (billetref06_way.l2 kj40 l1 a3 (x10_4.set (((rd_T41 l0_1 x16_4).f1) : Int).toNat x16_4) (x11_4.set (((rd_T41 l0_1 x16_4).f1) : Int).toNat true) (x13_4 ++ [((rd_T41 l0_1 x16_4).f1)]) x14_2 (rd x13_2 x14_2) (wrap64 (x16_4 + 1)) a0_0 l0_1) else (none)) else (none))) = some (r1, r2) := by rw [← hbq54] at H; exact H
                          have Nbq54 := Aside0.mk hbq54
                          clear hbq54
                          by_cases c55 : bq54 = true
                          ·subst c55
                           have H1 : (billetref06_way.l2 kj40 l1 a3 x10_4 x11_4 x13_4 x14_2 (rd x13_2 x14_2) (wrap64 (x16_4 + 1)) a0_0 l0_1) = some (r1, r2) := by rw [if_pos rfl] at H; exact H
                           clear H
                           have H := H1
                           clear H1
                           have H' := Aside0.mk H
                           clear H
                           have hnb56 := NB484_469.out
                           have hnc56 := NB469_484.out
                           have hcz57_0 : wc.cell? ⟨gb484, 0, none⟩ = some (.int .i64 ((rd_T41 l0_1 x16_4).f0)) := (blk_cell BK484.out 0).trans rfl
                           have hcz57_1 : wc.cell? ⟨gb484, 1, none⟩ = some (.int .i64 ((rd_T41 l0_1 x16_4).f1)) := (blk_cell BK484.out 1).trans rfl
                           have hcz57_2 : wc.cell? ⟨gb484, 2, none⟩ = some (.int .i64 ((rd_T41 l0_1 x16_4).f2)) := (blk_cell BK484.out 2).trans rfl
                           have hfz57_0 := blk_frozen BK484.out 0
                           have hfz57_1 := blk_frozen BK484.out 1
                           have hfz57_2 := blk_frozen BK484.out 2
                           have p486 : 0 ≤ (((rd_T41 l0_1 x16_4).f1) : Int) := of_decide_eq_true (by first | (with_reducible assumption) | assumption)
                           have q486 : ((rd_T41 l0_1 x16_4).f1) < (x11_4.length : Int) := of_decide_eq_true (by first | (with_reducible assumption) | assumption)
                           obtain ⟨ad486, e486, hx486_0⟩ := Kd.at_bool (Kd.R_reads' HO_11.out).2.2 ((rd_T41 l0_1 x16_4).f1) p486 q486
                           (try rw [← Nbq54.out] at hx486_0)
                           obtain rfl : (⟨go24, 0, none⟩ : Addr) = ad486 := (by injection e486)
                           (first | simp only [add_plain] at hx486_0 | simp only [add_at] at hx486_0 | simp only [Addr.add, Nat.zero_add] at hx486_0 | skip)
                           replace p486 := eq_true p486
                           replace q486 := eq_true q486
                           go_wp2
                           repeat (go_quiet (fail); try go_wp2)
                           (try simp only [← hl11_4])
                           go_roundg kj40
                           case measure => have := HK1.out; have := HK2.out; have := HJ29.out; have := HK4.out; have := HJ40.out; omega
                           case rel => exact ⟨(x10_4), (x11_4), (x13_4), (wrap64 (x16_4 + 1)), (by first | rfl | (simp; done) | (simp [*]; done)), H', ⟨by have := HK1.out; have := HK2.out; have := HJ29.out; have := HK4.out; have := HJ40.out; omega⟩, ⟨by (try simp only [hl11_2]); (try simp only [hl11_4]); (with_reducible repeat (first | apply Kd.R_alloc | apply Kd.R_drewN | apply Kd.R_drew)); exact HO_10.out⟩, ⟨by (try simp only [hl11_2]); (try simp only [hl11_4]); (with_reducible repeat (first | apply Kd.R_alloc | apply Kd.R_drewN | apply Kd.R_drew)); exact HO_11.out⟩, ⟨by (try simp only [hl11_2]); (try simp only [hl11_4]); (with_reducible repeat (first | apply Kd.R_alloc | apply Kd.R_drewN | apply Kd.R_drew)); exact HO_13.out⟩, ⟨by (try simp only [hl11_2]); (try simp only [hl11_4]); (with_reducible repeat (first | refine blk_drewN ?_ _ | refine blk_drew ?_ | refine blk_alloc ?_ _)); exact BK469.out⟩, ⟨by repeat (first | (with_reducible first | exact HB.out | apply below_alloc | apply pw_below_drewN | apply below_drew1 | refine below_set ?_ GE469.out | refine below_set ?_ GE484.out) | exact HB.out)⟩⟩
                          ·replace c55 := Bool.eq_false_iff.mpr c55
                           subst c55
                           have H1 : (if ((rd_T41 l0_1 x16_4).f1) < (x10_4.length : Int) then (if x13_4.length < 17592186044416 then (billetref06_way.l2 kj40 l1 a3 (x10_4.set (((rd_T41 l0_1 x16_4).f1) : Int).toNat x16_4) (x11_4.set (((rd_T41 l0_1 x16_4).f1) : Int).toNat true) (x13_4 ++ [((rd_T41 l0_1 x16_4).f1)]) x14_2 (rd x13_2 x14_2) (wrap64 (x16_4 + 1)) a0_0 l0_1) else (none)) else (none)) = some (r1, r2) := by rw [if_neg (show ¬ (false = true) by decide)] at H; exact H
                           clear H
                           have H := H1
                           clear H1
                           obtain ⟨y487, hy487⟩ : ∃ y_ : List Bool, y_ = (x11_4.set (((rd_T41 l0_1 x16_4).f1) : Int).toNat true) := ⟨_, rfl⟩
                           replace H : (if ((rd_T41 l0_1 x16_4).f1) < (x10_4.length : Int) then (if x13_4.length < 17592186044416 then (billetref06_way.l2 kj40 l1 a3 (x10_4.set (((rd_T41 l0_1 x16_4).f1) : Int).toNat x16_4) y487 (x13_4 ++ [((rd_T41 l0_1 x16_4).f1)]) x14_2 (rd x13_2 x14_2) (wrap64 (x16_4 + 1)) a0_0 l0_1) else (none)) else (none)) = some (r1, r2) := by first | (rw [hy487]; with_reducible exact H) | (have H2_ := (Option.bind_some _ _).symm.trans H; rw [hy487]; with_reducible exact H2_) | (have H2_ := (Option.bind_some _ _).symm.trans H; with_reducible exact H2_) | with_reducible exact H | (rw [hy487]; exact H) | exact H
                           have Ny487 := Aside0.mk hy487
                           clear hy487
                           by_cases c59 : ((rd_T41 l0_1 x16_4).f1) < (x10_4.length : Int)
                           ·rw [if_pos c59] at H
                            have c59b0 : decide (((rd_T41 l0_1 x16_4).f1) < (x10_4.length : Int)) = true := decide_eq_true c59
                            clear c59
                            obtain ⟨y488, hy488⟩ : ∃ y_ : List Int, y_ = (x10_4.set (((rd_T41 l0_1 x16_4).f1) : Int).toNat x16_4) := ⟨_, rfl⟩
                            replace H : (if x13_4.length < 17592186044416 then (billetref06_way.l2 kj40 l1 a3 y488 y487 (x13_4 ++ [((rd_T41 l0_1 x16_4).f1)]) x14_2 (rd x13_2 x14_2) (wrap64 (x16_4 + 1)) a0_0 l0_1) else (none)) = some (r1, r2) := by first | (rw [hy488]; with_reducible exact H) | (have H2_ := (Option.bind_some _ _).symm.trans H; rw [hy488]; with_reducible exact H2_) | (have H2_ := (Option.bind_some _ _).symm.trans H; with_reducible exact H2_) | with_reducible exact H | (rw [hy488]; exact H) | exact H
                            have Ny488 := Aside0.mk hy488
                            clear hy488
                            by_cases c61 : x13_4.length < 17592186044416
                            ·rw [if_pos c61] at H
                             have LMc61 := Aside0.mk c61
                             clear c61
                             obtain ⟨y489, hy489⟩ : ∃ y_ : List Int, y_ = (x13_4 ++ [((rd_T41 l0_1 x16_4).f1)]) := ⟨_, rfl⟩
                             replace H : (billetref06_way.l2 kj40 l1 a3 y488 y487 y489 x14_2 (rd x13_2 x14_2) (wrap64 (x16_4 + 1)) a0_0 l0_1) = some (r1, r2) := by first | (rw [hy489]; with_reducible exact H) | (have H2_ := (Option.bind_some _ _).symm.trans H; rw [hy489]; with_reducible exact H2_) | (have H2_ := (Option.bind_some _ _).symm.trans H; with_reducible exact H2_) | with_reducible exact H | (rw [hy489]; exact H) | exact H
                             have Ny489 := Aside0.mk hy489
                             clear hy489
                             have H' := Aside0.mk H
                             clear H
                             have hnb62 := NB484_469.out
                             have hnc62 := NB469_484.out
                             have hcz63_0 : wc.cell? ⟨gb484, 0, none⟩ = some (.int .i64 ((rd_T41 l0_1 x16_4).f0)) := (blk_cell BK484.out 0).trans rfl
                             have hcz63_1 : wc.cell? ⟨gb484, 1, none⟩ = some (.int .i64 ((rd_T41 l0_1 x16_4).f1)) := (blk_cell BK484.out 1).trans rfl
                             have hcz63_2 : wc.cell? ⟨gb484, 2, none⟩ = some (.int .i64 ((rd_T41 l0_1 x16_4).f2)) := (blk_cell BK484.out 2).trans rfl
                             have hfz63_0 := blk_frozen BK484.out 0
                             have hfz63_1 := blk_frozen BK484.out 1
                             have hfz63_2 := blk_frozen BK484.out 2
                             have p486 : 0 ≤ (((rd_T41 l0_1 x16_4).f1) : Int) := of_decide_eq_true (by first | (with_reducible assumption) | assumption)
                             have q486 : ((rd_T41 l0_1 x16_4).f1) < (x11_4.length : Int) := of_decide_eq_true (by first | (with_reducible assumption) | assumption)
                             obtain ⟨ad486, e486, hx486_0⟩ := Kd.at_bool (Kd.R_reads' HO_11.out).2.2 ((rd_T41 l0_1 x16_4).f1) p486 q486
                             (try rw [← Nbq54.out] at hx486_0)
                             obtain rfl : (⟨go24, 0, none⟩ : Addr) = ad486 := (by injection e486)
                             (first | simp only [add_plain] at hx486_0 | simp only [add_at] at hx486_0 | simp only [Addr.add, Nat.zero_add] at hx486_0 | skip)
                             replace p486 := eq_true p486
                             replace q486 := eq_true q486
                             have p58 : 0 ≤ (((rd_T41 l0_1 x16_4).f1) : Int) := of_decide_eq_true (by first | (with_reducible assumption) | assumption)
                             have q58 : (((rd_T41 l0_1 x16_4).f1) : Int) < ((x11_4.length : Int) : Int) := of_decide_eq_true (by first | (with_reducible assumption) | assumption)
                             obtain ⟨hx58_0, hf58_0⟩ := Kd.R_celln false HO_11.out (((rd_T41 l0_1 x16_4).f1) : Int) p58 q58
                             replace p58 := eq_true p58
                             replace q58 := eq_true q58
                             have HP64 := Kd.R_putg HO_11.out (((rd_T41 l0_1 x16_4).f1) : Int) true
                             iterate 8 ((try go_quiet (fail)); try go_wp2_with (first | ((with_reducible refine gate_store (t := 4) (p := 100) rfl ?_); (try (rw [drewN_self wc]; generalize hq_ : World.drewN wc _ = wc; have n0_ := Aside0.mk (Kd.R_at hq_ HO_10.out); have n1_ := Aside0.mk (Kd.R_at hq_ HO_11.out); have n2_ := Aside0.mk (Kd.R_at hq_ HO_13.out); have n3_ := Aside0.mk (blk_at hq_ BK469.out); have n4_ := Aside0.mk (blk_at hq_ BK484.out); have n5_ := Aside0.mk (below_at hq_ HB.out); clear hq_ HO_10 HO_11 HO_13 BK469 BK484 HB; have HO_10 := n0_; have HO_11 := n1_; have HO_13 := n2_; have BK469 := n3_; have BK484 := n4_; have HB := n5_; clear n0_ n1_ n2_ n3_ n4_ n5_; (try (have HP64 := Kd.R_putg HO_11.out (((rd_T41 l0_1 x16_4).f1) : Int) true)))); refine store_event (t := 4) (p := 100) (v := ?vo_w65) (w1 := (wc.setCell ⟨go24, (((rd_T41 l0_1 x16_4).f1) : Int).toNat, none⟩ (.bool true))) ?hg ?ho ?hn ?hr ?_; (case ho => rfl); (case hg => rfl); (case hn => rfl); (case hr => first | (go_simp; done) | (go_simp; rfl)); intro w65 hw; have hg : wc.grownBy w65 (some go24) := (by rw [hw]; exact HP64.2); have hp_ : Kd.R Kd.bool 4 w65 w.heap.size (fun _ => True) (.slice (some ⟨go24, 0, none⟩) x11_4.length co24) y487 := (by rw [hw, Ny487.out]; exact HP64.1); clear HP64; have n0_ := Aside0.mk (Kd.R_over' (v := (.slice (some ⟨go24, 0, none⟩) x11_4.length co24)) (by (with_reducible repeat (first | apply Kd.R_alloc | apply Kd.R_drewN | apply Kd.R_drew)); exact HO_10.out) (Kd.R_typed HO_11.out) (by decide) hg); have n1_ := Aside0.mk (hp_); have n2_ := Aside0.mk (Kd.R_over' (v := (.slice (some ⟨go24, 0, none⟩) x11_4.length co24)) (by (with_reducible repeat (first | apply Kd.R_alloc | apply Kd.R_drewN | apply Kd.R_drew)); exact HO_13.out) (Kd.R_typed HO_11.out) (by decide) hg); have n3_ := Aside0.mk (blk_grown (g := gb469) (o := .cells #[.int .i64 a0_0, .slice (some ad483) l0_1.length c0_1] 24 (0, 0)) (by (with_reducible repeat (first | refine blk_drewN ?_ _ | refine blk_drew ?_ | refine blk_alloc ?_ _)); exact BK469.out) hg (Kd.R_ne HO_11.out BK469.out (by decide))); have n4_ := Aside0.mk (blk_grown (g := gb484) (o := .cells #[.int .i64 ((rd_T41 l0_1 x16_4).f0), .int .i64 ((rd_T41 l0_1 x16_4).f1), .int .i64 ((rd_T41 l0_1 x16_4).f2)] 41 (0, 0)) (by (with_reducible repeat (first | refine blk_drewN ?_ _ | refine blk_drew ?_ | refine blk_alloc ?_ _)); exact BK484.out) hg (Kd.R_ne HO_11.out BK484.out (by decide))); have n5_ := Aside0.mk ((by rw [hw]; exact below_set (HB.out) GB24.out : Below w.heap.size w w65)); clear HO_10; clear HO_11; clear HO_13; clear BK469; clear BK484; clear HB; have HO_10 := n0_; have HO_11 := n1_; have HO_13 := n2_; have BK469 := n3_; have BK484 := n4_; have HB := n5_; clear n0_ n1_ n2_ n3_ n4_ n5_; clear hg hw hp_; have p60 : 0 ≤ (((rd_T41 l0_1 x16_4).f1) : Int) := of_decide_eq_true (by first | (with_reducible assumption) | assumption); have q60 : (((rd_T41 l0_1 x16_4).f1) : Int) < ((x10_4.length : Int) : Int) := of_decide_eq_true (by first | (with_reducible assumption) | assumption); obtain ⟨go60, co60, eo60, gb60, gl60, cl60, HG60⟩ := Kd.R_form HO_10.out (by omega); (first | cases eo60 | (injection eo60 with ea_ en_ ec_; (first | subst ea_ | (injection ea_ with ea_; subst ea_)); subst ec_; clear en_)); have GB60 := Aside0.mk gb60; have GG60 := Aside0.mk HG60; clear gb60 gl60 HG60; obtain ⟨hx60_0, hf60_0⟩ := Kd.R_celln 0 HO_10.out (((rd_T41 l0_1 x16_4).f1) : Int) p60 q60; replace p60 := eq_true p60; replace q60 := eq_true q60; obtain ⟨hy66_, hz66_⟩ := Kd.R_celln 0 HO_10.out (((rd_T41 l0_1 x16_4).f1) : Int) (of_decide_eq_true (by first | (with_reducible assumption) | assumption)) (of_decide_eq_true (by first | (with_reducible assumption) | assumption)); have HP66 := Kd.R_putg HO_10.out (((rd_T41 l0_1 x16_4).f1) : Int) x16_4) | ((with_reducible refine gate_store (t := 3) (p := 104) rfl ?_); (try (rw [drewN_self w65]; generalize hq_ : World.drewN w65 _ = w65; have n0_ := Aside0.mk (Kd.R_at hq_ HO_10.out); have n1_ := Aside0.mk (Kd.R_at hq_ HO_11.out); have n2_ := Aside0.mk (Kd.R_at hq_ HO_13.out); have n3_ := Aside0.mk (blk_at hq_ BK469.out); have n4_ := Aside0.mk (blk_at hq_ BK484.out); have n5_ := Aside0.mk (below_at hq_ HB.out); clear hq_ HO_10 HO_11 HO_13 BK469 BK484 HB; have HO_10 := n0_; have HO_11 := n1_; have HO_13 := n2_; have BK469 := n3_; have BK484 := n4_; have HB := n5_; clear n0_ n1_ n2_ n3_ n4_ n5_; (try (obtain ⟨hy66_, hz66_⟩ := Kd.R_celln 0 HO_10.out (((rd_T41 l0_1 x16_4).f1) : Int) (of_decide_eq_true (by first | (with_reducible assumption) | assumption)) (of_decide_eq_true (by first | (with_reducible assumption) | assumption)))); (try (have HP66 := Kd.R_putg HO_10.out (((rd_T41 l0_1 x16_4).f1) : Int) x16_4)))); refine store_event (t := 3) (p := 104) (v := ?vo_w67) (w1 := (w65.setCell ⟨go60, (((rd_T41 l0_1 x16_4).f1) : Int).toNat, none⟩ (.int .i64 x16_4))) ?hg ?ho ?hn ?hr ?_; (case ho => rfl); (case hg => rfl); (case hn => rfl); (case hr => first | (go_simp; done) | (go_simp; rfl)); intro w67 hw; have hg : w65.grownBy w67 (some go60) := (by rw [hw]; exact HP66.2); have hp_ : Kd.R (Kd.int .i64) 3 w67 w.heap.size (fun k_ => some k_ ≠ (u13 : Value).ownBlock) (.slice (some ⟨go60, 0, none⟩) x10_4.length co60) y488 := (by rw [hw, Ny488.out]; exact HP66.1); clear HP66; have n0_ := Aside0.mk (hp_); have n1_ := Aside0.mk (Kd.R_over' (v := (.slice (some ⟨go60, 0, none⟩) x10_4.length co60)) (by (with_reducible repeat (first | apply Kd.R_alloc | apply Kd.R_drewN | apply Kd.R_drew)); exact HO_11.out) (Kd.R_typed HO_10.out) (by decide) hg); have n2_ := Aside0.mk (Kd.R_after (v := (.slice (some ⟨go60, 0, none⟩) x10_4.length co60)) (v1 := (.slice (some ⟨go60, 0, none⟩) x10_4.length co60)) (ok := (fun _ => True)) (by (with_reducible repeat (first | apply Kd.R_alloc | apply Kd.R_drewN | apply Kd.R_drew)); exact Kd.R_mono HO_13.out (fun _ hk => ⟨trivial, hk⟩)) hg (.inl rfl)); have n3_ := Aside0.mk (blk_grown (g := gb469) (o := .cells #[.int .i64 a0_0, .slice (some ad483) l0_1.length c0_1] 24 (0, 0)) (by (with_reducible repeat (first | refine blk_drewN ?_ _ | refine blk_drew ?_ | refine blk_alloc ?_ _)); exact BK469.out) hg (Kd.R_ne HO_10.out BK469.out (by decide))); have n4_ := Aside0.mk (blk_grown (g := gb484) (o := .cells #[.int .i64 ((rd_T41 l0_1 x16_4).f0), .int .i64 ((rd_T41 l0_1 x16_4).f1), .int .i64 ((rd_T41 l0_1 x16_4).f2)] 41 (0, 0)) (by (with_reducible repeat (first | refine blk_drewN ?_ _ | refine blk_drew ?_ | refine blk_alloc ?_ _)); exact BK484.out) hg (Kd.R_ne HO_10.out BK484.out (by decide))); have n5_ := Aside0.mk ((by rw [hw]; exact below_set (HB.out) GB60.out : Below w.heap.size w w67)); clear HO_10; clear HO_11; clear HO_13; clear BK469; clear BK484; clear HB; have HO_10 := n0_; have HO_11 := n1_; have HO_13 := n2_; have BK469 := n3_; have BK484 := n4_; have HB := n5_; clear n0_ n1_ n2_ n3_ n4_ n5_; clear hg hw hp_) | ((with_reducible refine gate_builtin (b := .append) (xs := #[.tmp 105, .tmp 107]) rfl ?_); at_builtin; refine Kd.R_append (Kd.int .i64) (w0 := w) w.heap.size rfl (.tmp 105) (.tmp 107) 25 3 (.int .i64 0) 8 rfl Try.underlying25 info3 rfl (by decide) (by omega) u13 x13_4 ((rd_T41 l0_1 x16_4).f1) [.int .i64 ((rd_T41 l0_1 x16_4).f1)] (fun k_ => some k_ ≠ (.slice (some ⟨go60, 0, none⟩) x10_4.length co60 : Value).ownBlock) (fun _ => False) rfl rfl ?aP (fun _ hk => hk.elim) ?aF ?aO ?aB ?aS ?aL ?_; (case aP => exact rfl); (case aB => exact (by repeat (first | (with_reducible first | exact HB.out | apply below_alloc | apply pw_below_drewN | apply below_drew1 | refine below_set ?_ GE469.out | refine below_set ?_ GE484.out) | exact HB.out))); (case aF => exact (fun k_ hk => Kd.fresh' (Kd.R_lt (by (with_reducible repeat (first | apply Kd.R_alloc | apply Kd.R_drewN | apply Kd.R_drew)); exact HO_10.out)) k_ hk)); (case aO => exact (by (with_reducible repeat (first | apply Kd.R_alloc | apply Kd.R_drewN | apply Kd.R_drew)); exact Kd.R_mono HO_13.out (fun _ hk => hk.2))); (case aS => exact (below_size (by repeat (first | (with_reducible first | exact HB.out | apply below_alloc | apply pw_below_drewN | apply below_drew1 | refine below_set ?_ GE469.out | refine below_set ?_ GE484.out) | exact HB.out)))); (case aL => have := LMc61.out; omega); intro v490 w68 ho hb hg hat; rw [← Ny489.out] at ho; have n0_ := Aside0.mk (Kd.R_after (ok := (fun _ => True)) (by (with_reducible repeat (first | apply Kd.R_alloc | apply Kd.R_drewN | apply Kd.R_drew)); exact Kd.R_mono HO_10.out (fun _ hk => ⟨trivial, hk⟩)) hg hat); have n1_ := Aside0.mk (Kd.R_over' (by (with_reducible repeat (first | apply Kd.R_alloc | apply Kd.R_drewN | apply Kd.R_drew)); exact HO_11.out) (Kd.R_typed (by (with_reducible repeat (first | apply Kd.R_alloc | apply Kd.R_drewN | apply Kd.R_drew)); exact HO_13.out)) (by decide) hg); have n2_ := Aside0.mk (blk_grown (g := gb469) (o := .cells #[.int .i64 a0_0, .slice (some ad483) l0_1.length c0_1] 24 (0, 0)) (by (with_reducible repeat (first | refine blk_drewN ?_ _ | refine blk_drew ?_ | refine blk_alloc ?_ _)); exact BK469.out) hg (Kd.R_ne HO_13.out BK469.out (by decide))); have n3_ := Aside0.mk (blk_grown (g := gb484) (o := .cells #[.int .i64 ((rd_T41 l0_1 x16_4).f0), .int .i64 ((rd_T41 l0_1 x16_4).f1), .int .i64 ((rd_T41 l0_1 x16_4).f2)] 41 (0, 0)) (by (with_reducible repeat (first | refine blk_drewN ?_ _ | refine blk_drew ?_ | refine blk_alloc ?_ _)); exact BK484.out) hg (Kd.R_ne HO_13.out BK484.out (by decide))); have n4_ := Aside0.mk (hb); have n5_ := Aside0.mk (ho); clear HO_10; clear HO_11; clear BK469; clear BK484; clear HB; clear HO_13; have HO_10 := n0_; have HO_11 := n1_; have BK469 := n2_; have BK484 := n3_; have HB := n4_; have HO491 := n5_; clear n0_ n1_ n2_ n3_ n4_ n5_; clear ho hb hg hat)))
                             (try simp only [← hl11_4])
                             go_roundg kj40
                             case measure => have := HK1.out; have := HK2.out; have := HJ29.out; have := HK4.out; have := HJ40.out; omega
                             case rel => exact ⟨(y488), (y487), (y489), (wrap64 (x16_4 + 1)), (by first | rfl | (simp; done) | (simp [*]; done)), H', ⟨by have := HK1.out; have := HK2.out; have := HJ29.out; have := HK4.out; have := HJ40.out; omega⟩, ⟨by (try simp only [hl11_2]); (try simp only [hl11_4]); (with_reducible repeat (first | apply Kd.R_alloc | apply Kd.R_drewN | apply Kd.R_drew)); exact Kd.R_mono HO_10.out (fun _ hk => hk.2)⟩, ⟨by (try simp only [hl11_2]); (try simp only [hl11_4]); (with_reducible repeat (first | apply Kd.R_alloc | apply Kd.R_drewN | apply Kd.R_drew)); exact HO_11.out⟩, ⟨by (try simp only [hl11_2]); (try simp only [hl11_4]); (with_reducible repeat (first | apply Kd.R_alloc | apply Kd.R_drewN | apply Kd.R_drew)); exact HO491.out⟩, ⟨by (try simp only [hl11_2]); (try simp only [hl11_4]); (with_reducible repeat (first | refine blk_drewN ?_ _ | refine blk_drew ?_ | refine blk_alloc ?_ _)); exact BK469.out⟩, ⟨by repeat (first | (with_reducible first | exact HB.out | apply below_alloc | apply pw_below_drewN | apply below_drew1 | refine below_set ?_ GE469.out | refine below_set ?_ GE484.out) | exact HB.out)⟩⟩
                            ·rw [if_neg c61] at H
                             exact absurd H (by simp)
                           ·rw [if_neg c59] at H
                            exact absurd H (by simp)
                         ·rw [if_neg c53] at H
                          exact absurd H (by simp)
                        ·rw [if_neg c52] at H
                         exact absurd H (by simp)
                       ·replace c51 := Bool.eq_false_iff.mpr c51
                        subst c51
                        have H1 : (if ((rd_T41 l0_1 x16_4).f1) = (rd x13_2 x14_2) then (if 0 ≤ x16_4 then (if x16_4 < (l1.length : Int) then (billetref06_way.j5 kj40 l1 a3 x10_4 x11_4 x13_4 x14_2 (rd x13_2 x14_2) x16_4 (rd x13_2 x14_2) (decide ((rd l1 x16_4) > 0)) a0_0 l0_1 ((rd_T41 l0_1 x16_4).f0) ((rd_T41 l0_1 x16_4).f1) ((rd_T41 l0_1 x16_4).f2)) else (none)) else (none)) else (billetref06_way.j5 kj40 l1 a3 x10_4 x11_4 x13_4 x14_2 (rd x13_2 x14_2) x16_4 (rd x13_2 x14_2) false a0_0 l0_1 ((rd_T41 l0_1 x16_4).f0) ((rd_T41 l0_1 x16_4).f1) ((rd_T41 l0_1 x16_4).f2))) = some (r1, r2) := by rw [if_neg (show ¬ (false = true) by decide)] at H; exact H
                        clear H
                        have H := H1
                        clear H1
                        have HC69 := Aside0.mk H
                        clear H
                        go_upto_region 20 with (fail)
                        repeat (go_quiet (fail); go_upto_region 20 with (fail))
                        go_cut [90] (fun v90 wc => ∃ (kq : Nat) (x90_68 : Bool), v90 = .bool x90_68 ∧ Aside0 (billetref06_way.j5 kq l1 a3 x10_4 x11_4 x13_4 x14_2 (rd x13_2 x14_2) x16_4 (rd x13_2 x14_2) x90_68 a0_0 l0_1 ((rd_T41 l0_1 x16_4).f0) ((rd_T41 l0_1 x16_4).f1) ((rd_T41 l0_1 x16_4).f2) = some (r1, r2)) ∧ Aside0 (kq ≤ kj40) ∧ Aside0 (Kd.R (Kd.int .i64) 3 wc w.heap.size (fun k_ => some k_ ≠ (u13 : Value).ownBlock) v471 x10_4) ∧ Aside0 (Kd.R Kd.bool 4 wc w.heap.size (fun _ => True) (.slice (some ⟨go24, 0, none⟩) x11_4.length co24) x11_4) ∧ Aside0 (Kd.R (Kd.int .i64) 3 wc w.heap.size (fun k_ => some k_ ≠ (v471 : Value).ownBlock) u13 x13_4) ∧ Aside0 (wc.heap[gb469]? = some (.cells #[.int .i64 a0_0, (.slice (some ad483) l0_1.length c0_1)] 24 (0, 0))) ∧ Aside0 (wc.heap[gb484]? = some (.cells #[.int .i64 ((rd_T41 l0_1 x16_4).f0), .int .i64 ((rd_T41 l0_1 x16_4).f1), .int .i64 ((rd_T41 l0_1 x16_4).f2)] 41 (0, 0))) ∧ Aside0 (Below w.heap.size w wc))
                        case first =>
                         have H := HC69.out
                         clear HC69
                         by_cases c70 : ((rd_T41 l0_1 x16_4).f1) = (rd x13_2 x14_2)
                         ·rw [if_pos c70] at H
                          have c70b0 : (((rd_T41 l0_1 x16_4).f1) == (rd x13_2 x14_2)) = true := beq_iff_eq.mpr c70
                          have c70b1 : (((rd_T41 l0_1 x16_4).f1) != (rd x13_2 x14_2)) = false := bne_eq_false_iff_eq.mpr c70
                          clear c70
                          (first | rw [c70b0] | (simp only [i64_w, i32_w]; rw [c70b0]) | skip)
                          by_cases c71 : 0 ≤ x16_4
                          ·rw [if_pos c71] at H
                           have c71b0 : decide (0 ≤ x16_4) = true := decide_eq_true c71
                           clear c71
                           by_cases c72 : x16_4 < (l1.length : Int)
                           ·rw [if_pos c72] at H
                            have c72b0 : decide (x16_4 < (l1.length : Int)) = true := decide_eq_true c72
                            clear c72
                            have H' := Aside0.mk H
                            clear H
                            have hnb73 := NB484_469.out
                            have hnc73 := NB469_484.out
                            have hcz74_0 : wc.cell? ⟨gb484, 0, none⟩ = some (.int .i64 ((rd_T41 l0_1 x16_4).f0)) := (blk_cell BK484.out 0).trans rfl
                            have hcz74_1 : wc.cell? ⟨gb484, 1, none⟩ = some (.int .i64 ((rd_T41 l0_1 x16_4).f1)) := (blk_cell BK484.out 1).trans rfl
                            have hcz74_2 : wc.cell? ⟨gb484, 2, none⟩ = some (.int .i64 ((rd_T41 l0_1 x16_4).f2)) := (blk_cell BK484.out 2).trans rfl
                            have hfz74_0 := blk_frozen BK484.out 0
                            have hfz74_1 := blk_frozen BK484.out 1
                            have hfz74_2 := blk_frozen BK484.out 2
                            have p492 : 0 ≤ (x16_4 : Int) := of_decide_eq_true (by first | (with_reducible assumption) | assumption)
                            have q492 : x16_4 < (l1.length : Int) := of_decide_eq_true (by first | (with_reducible assumption) | assumption)
                            obtain ⟨ad492, e492, hx492_0⟩ := Kd.at_int HR1.out x16_4 p492 q492
                            cases e492
                            replace hx492_0 := (HB.out.cell (World.block_lt_of_cell? w _ hx492_0)).trans hx492_0
                            replace p492 := eq_true p492
                            replace q492 := eq_true q492
                            go_wp2
                            repeat (go_quiet (fail); try go_wp2)
                            go_meet
                            case rel => exact ⟨_, (decide ((rd l1 x16_4) > 0)), (by first | rfl | (simp; done) | (simp [*]; done)), H', ⟨by have := HK1.out; have := HK2.out; have := HJ29.out; have := HK4.out; have := HJ40.out; first | omega | exact Nat.le_refl _⟩, ⟨by (try simp only [hl11_2]); (try simp only [hl11_4]); (with_reducible repeat (first | apply Kd.R_alloc | apply Kd.R_drewN | apply Kd.R_drew)); exact HO_10.out⟩, ⟨by (try simp only [hl11_2]); (try simp only [hl11_4]); (with_reducible repeat (first | apply Kd.R_alloc | apply Kd.R_drewN | apply Kd.R_drew)); exact HO_11.out⟩, ⟨by (try simp only [hl11_2]); (try simp only [hl11_4]); (with_reducible repeat (first | apply Kd.R_alloc | apply Kd.R_drewN | apply Kd.R_drew)); exact HO_13.out⟩, ⟨by (try simp only [hl11_2]); (try simp only [hl11_4]); (with_reducible repeat (first | refine blk_drewN ?_ _ | refine blk_drew ?_ | refine blk_alloc ?_ _)); exact BK469.out⟩, ⟨by (try simp only [hl11_2]); (try simp only [hl11_4]); (with_reducible repeat (first | refine blk_drewN ?_ _ | refine blk_drew ?_ | refine blk_alloc ?_ _)); exact BK484.out⟩, ⟨by repeat (first | (with_reducible first | exact HB.out | apply below_alloc | apply pw_below_drewN | apply below_drew1 | refine below_set ?_ GE469.out | refine below_set ?_ GE484.out) | exact HB.out)⟩⟩
                           ·rw [if_neg c72] at H
                            exact absurd H (by simp)
                          ·rw [if_neg c71] at H
                           exact absurd H (by simp)
                         ·rw [if_neg c70] at H
                          have c70b0 : (((rd_T41 l0_1 x16_4).f1) == (rd x13_2 x14_2)) = false := beq_eq_false_iff_ne.mpr c70
                          have c70b1 : (((rd_T41 l0_1 x16_4).f1) != (rd x13_2 x14_2)) = true := bne_iff_ne.mpr c70
                          (first | rw [c70b0] | (simp only [i64_w, i32_w]; rw [c70b0]) | skip)
                          have H' := Aside0.mk H
                          clear H
                          have hnb75 := NB484_469.out
                          have hnc75 := NB469_484.out
                          have hcz76_0 : wc.cell? ⟨gb484, 0, none⟩ = some (.int .i64 ((rd_T41 l0_1 x16_4).f0)) := (blk_cell BK484.out 0).trans rfl
                          have hcz76_1 : wc.cell? ⟨gb484, 1, none⟩ = some (.int .i64 ((rd_T41 l0_1 x16_4).f1)) := (blk_cell BK484.out 1).trans rfl
                          have hcz76_2 : wc.cell? ⟨gb484, 2, none⟩ = some (.int .i64 ((rd_T41 l0_1 x16_4).f2)) := (blk_cell BK484.out 2).trans rfl
                          have hfz76_0 := blk_frozen BK484.out 0
                          have hfz76_1 := blk_frozen BK484.out 1
                          have hfz76_2 := blk_frozen BK484.out 2
                          go_wp2
                          repeat (go_quiet (fail); try go_wp2)
                          go_meet
                          case rel => exact ⟨_, (false), (by first | rfl | (simp; done) | (simp [*]; done)), H', ⟨by have := HK1.out; have := HK2.out; have := HJ29.out; have := HK4.out; have := HJ40.out; first | omega | exact Nat.le_refl _⟩, ⟨by (try simp only [hl11_2]); (try simp only [hl11_4]); (with_reducible repeat (first | apply Kd.R_alloc | apply Kd.R_drewN | apply Kd.R_drew)); exact HO_10.out⟩, ⟨by (try simp only [hl11_2]); (try simp only [hl11_4]); (with_reducible repeat (first | apply Kd.R_alloc | apply Kd.R_drewN | apply Kd.R_drew)); exact HO_11.out⟩, ⟨by (try simp only [hl11_2]); (try simp only [hl11_4]); (with_reducible repeat (first | apply Kd.R_alloc | apply Kd.R_drewN | apply Kd.R_drew)); exact HO_13.out⟩, ⟨by (try simp only [hl11_2]); (try simp only [hl11_4]); (with_reducible repeat (first | refine blk_drewN ?_ _ | refine blk_drew ?_ | refine blk_alloc ?_ _)); exact BK469.out⟩, ⟨by (try simp only [hl11_2]); (try simp only [hl11_4]); (with_reducible repeat (first | refine blk_drewN ?_ _ | refine blk_drew ?_ | refine blk_alloc ?_ _)); exact BK484.out⟩, ⟨by repeat (first | (with_reducible first | exact HB.out | apply below_alloc | apply pw_below_drewN | apply below_drew1 | refine below_set ?_ GE469.out | refine below_set ?_ GE484.out) | exact HB.out)⟩⟩
                        case rest =>
                         clear HC69
                         obtain ⟨kq, x90_68, rfl, HA, HJ68, HO_10, HO_11, HO_13, BK469, BK484, HB⟩ := hcut
                         cases kq with
                         | zero => exact absurd HA.out (by simp [billetref06_way.j5])
                         | succ kj68 =>
                          have H := HA.out
                          clear HA
                          simp only [billetref06_way.j5] at H
                          by_cases c77 : x90_68 = true
                          ·subst c77
                           have H1 : (if 0 ≤ ((rd_T41 l0_1 x16_4).f0) then (if ((rd_T41 l0_1 x16_4).f0) < (x11_4.length : Int) then (if rdOf false x11_4 ((rd_T41 l0_1 x16_4).f0) = true then (billetref06_way.l2 kj68 l1 a3 x10_4 x11_4 x13_4 x14_2 (rd x13_2 x14_2) (wrap64 (x16_4 + 1)) a0_0 l0_1) else (if ((rd_T41 l0_1 x16_4).f0) < (x10_4.length : Int) then (if x13_4.length < 17592186044416 then (billetref06_way.l2 kj68 l1 a3 (x10_4.set (((rd_T41 l0_1 x16_4).f0) : Int).toNat x16_4) (x11_4.set (((rd_T41 l0_1 x16_4).f0) : Int).toNat true) (x13_4 ++ [((rd_T41 l0_1 x16_4).f0)]) x14_2 (rd x13_2 x14_2) (wrap64 (x16_4 + 1)) a0_0 l0_1) else (none)) else (none))) else (none)) else (none)) = some (r1, r2) := by rw [if_pos rfl] at H; exact H
                           clear H
                           have H := H1
                           clear H1
                           by_cases c78 : 0 ≤ ((rd_T41 l0_1 x16_4).f0)
                           ·rw [if_pos c78] at H
                            have c78b0 : decide (0 ≤ ((rd_T41 l0_1 x16_4).f0)) = true := decide_eq_true c78
                            clear c78
                            by_cases c79 : ((rd_T41 l0_1 x16_4).f0) < (x11_4.length : Int)
                            ·rw [if_pos c79] at H
                             have c79b0 : decide (((rd_T41 l0_1 x16_4).f0) < (x11_4.length : Int)) = true := decide_eq_true c79
                             clear c79
                             obtain ⟨bq80, hbq80⟩ : ∃ b_ : Bool, b_ = (rdOf false x11_4 ((rd_T41 l0_1 x16_4).f0)) := ⟨_, rfl⟩
                             replace H : (if bq80 = true then (billetref06_way.l2 kj68 l1 a3 x10_4 x11_4 x13_4 x14_2 (rd x13_2 x14_2) (wrap64 (x16_4 + 1)) a0_0 l0_1) else (if ((rd_T41 l0_1 x16_4).f0) < (x10_4.length : Int) then (if x13_4.length < 17592186044416 then (billetref06_way.l2 kj68 l1 a3 (x10_4.set (((rd_T41 l0_1 x16_4).f0) : Int).toNat x16_4) (x11_4.set (((rd_T41 l0_1 x16_4).f0) : Int).toNat true) (x13_4 ++ [((rd_T41 l0_1 x16_4).f0)]) x14_2 (rd x13_2 x14_2) (wrap64 (x16_4 + 1)) a0_0 l0_1) else (none)) else (none))) = some (r1, r2) := by rw [← hbq80] at H; exact H
                             have Nbq80 := Aside0.mk hbq80
                             clear hbq80
                             by_cases c81 : bq80 = true
                             ·subst c81
                              have H1 : (billetref06_way.l2 kj68 l1 a3 x10_4 x11_4 x13_4 x14_2 (rd x13_2 x14_2) (wrap64 (x16_4 + 1)) a0_0 l0_1) = some (r1, r2) := by rw [if_pos rfl] at H; exact H
                              clear H
                              have H := H1
                              clear H1
                              have H' := Aside0.mk H
                              clear H
                              have hnb82 := NB484_469.out
                              have hnc82 := NB469_484.out
                              have hcz83_0 : wc.cell? ⟨gb484, 0, none⟩ = some (.int .i64 ((rd_T41 l0_1 x16_4).f0)) := (blk_cell BK484.out 0).trans rfl
                              have hcz83_1 : wc.cell? ⟨gb484, 1, none⟩ = some (.int .i64 ((rd_T41 l0_1 x16_4).f1)) := (blk_cell BK484.out 1).trans rfl
                              have hcz83_2 : wc.cell? ⟨gb484, 2, none⟩ = some (.int .i64 ((rd_T41 l0_1 x16_4).f2)) := (blk_cell BK484.out 2).trans rfl
                              have hfz83_0 := blk_frozen BK484.out 0
                              have hfz83_1 := blk_frozen BK484.out 1
                              have hfz83_2 := blk_frozen BK484.out 2
                              have p493 : 0 ≤ (((rd_T41 l0_1 x16_4).f0) : Int) := of_decide_eq_true (by first | (with_reducible assumption) | assumption)
                              have q493 : ((rd_T41 l0_1 x16_4).f0) < (x11_4.length : Int) := of_decide_eq_true (by first | (with_reducible assumption) | assumption)
                              obtain ⟨ad493, e493, hx493_0⟩ := Kd.at_bool (Kd.R_reads' HO_11.out).2.2 ((rd_T41 l0_1 x16_4).f0) p493 q493
                              (try rw [← Nbq80.out] at hx493_0)
                              obtain rfl : (⟨go24, 0, none⟩ : Addr) = ad493 := (by injection e493)
                              (first | simp only [add_plain] at hx493_0 | simp only [add_at] at hx493_0 | simp only [Addr.add, Nat.zero_add] at hx493_0 | skip)
                              replace p493 := eq_true p493
                              replace q493 := eq_true q493
                              go_wp2
                              repeat (go_quiet (fail); try go_wp2)
                              (try simp only [← hl11_4])
                              go_roundg kj68
                              case measure => have := HK1.out; have := HK2.out; have := HJ29.out; have := HK4.out; have := HJ40.out; have := HJ68.out; omega
                              case rel => exact ⟨(x10_4), (x11_4), (x13_4), (wrap64 (x16_4 + 1)), (by first | rfl | (simp; done) | (simp [*]; done)), H', ⟨by have := HK1.out; have := HK2.out; have := HJ29.out; have := HK4.out; have := HJ40.out; have := HJ68.out; omega⟩, ⟨by (try simp only [hl11_2]); (try simp only [hl11_4]); (with_reducible repeat (first | apply Kd.R_alloc | apply Kd.R_drewN | apply Kd.R_drew)); exact HO_10.out⟩, ⟨by (try simp only [hl11_2]); (try simp only [hl11_4]); (with_reducible repeat (first | apply Kd.R_alloc | apply Kd.R_drewN | apply Kd.R_drew)); exact HO_11.out⟩, ⟨by (try simp only [hl11_2]); (try simp only [hl11_4]); (with_reducible repeat (first | apply Kd.R_alloc | apply Kd.R_drewN | apply Kd.R_drew)); exact HO_13.out⟩, ⟨by (try simp only [hl11_2]); (try simp only [hl11_4]); (with_reducible repeat (first | refine blk_drewN ?_ _ | refine blk_drew ?_ | refine blk_alloc ?_ _)); exact BK469.out⟩, ⟨by repeat (first | (with_reducible first | exact HB.out | apply below_alloc | apply pw_below_drewN | apply below_drew1 | refine below_set ?_ GE469.out | refine below_set ?_ GE484.out) | exact HB.out)⟩⟩
                             ·replace c81 := Bool.eq_false_iff.mpr c81
                              subst c81
                              have H1 : (if ((rd_T41 l0_1 x16_4).f0) < (x10_4.length : Int) then (if x13_4.length < 17592186044416 then (billetref06_way.l2 kj68 l1 a3 (x10_4.set (((rd_T41 l0_1 x16_4).f0) : Int).toNat x16_4) (x11_4.set (((rd_T41 l0_1 x16_4).f0) : Int).toNat true) (x13_4 ++ [((rd_T41 l0_1 x16_4).f0)]) x14_2 (rd x13_2 x14_2) (wrap64 (x16_4 + 1)) a0_0 l0_1) else (none)) else (none)) = some (r1, r2) := by rw [if_neg (show ¬ (false = true) by decide)] at H; exact H
                              clear H
                              have H := H1
                              clear H1
                              obtain ⟨y494, hy494⟩ : ∃ y_ : List Bool, y_ = (x11_4.set (((rd_T41 l0_1 x16_4).f0) : Int).toNat true) := ⟨_, rfl⟩
                              replace H : (if ((rd_T41 l0_1 x16_4).f0) < (x10_4.length : Int) then (if x13_4.length < 17592186044416 then (billetref06_way.l2 kj68 l1 a3 (x10_4.set (((rd_T41 l0_1 x16_4).f0) : Int).toNat x16_4) y494 (x13_4 ++ [((rd_T41 l0_1 x16_4).f0)]) x14_2 (rd x13_2 x14_2) (wrap64 (x16_4 + 1)) a0_0 l0_1) else (none)) else (none)) = some (r1, r2) := by first | (rw [hy494]; with_reducible exact H) | (have H2_ := (Option.bind_some _ _).symm.trans H; rw [hy494]; with_reducible exact H2_) | (have H2_ := (Option.bind_some _ _).symm.trans H; with_reducible exact H2_) | with_reducible exact H | (rw [hy494]; exact H) | exact H
                              have Ny494 := Aside0.mk hy494
                              clear hy494
                              by_cases c85 : ((rd_T41 l0_1 x16_4).f0) < (x10_4.length : Int)
                              ·rw [if_pos c85] at H
                               have c85b0 : decide (((rd_T41 l0_1 x16_4).f0) < (x10_4.length : Int)) = true := decide_eq_true c85
                               clear c85
                               obtain ⟨y495, hy495⟩ : ∃ y_ : List Int, y_ = (x10_4.set (((rd_T41 l0_1 x16_4).f0) : Int).toNat x16_4) := ⟨_, rfl⟩
                               replace H : (if x13_4.length < 17592186044416 then (billetref06_way.l2 kj68 l1 a3 y495 y494 (x13_4 ++ [((rd_T41 l0_1 x16_4).f0)]) x14_2 (rd x13_2 x14_2) (wrap64 (x16_4 + 1)) a0_0 l0_1) else (none)) = some (r1, r2) := by first | (rw [hy495]; with_reducible exact H) | (have H2_ := (Option.bind_some _ _).symm.trans H; rw [hy495]; with_reducible exact H2_) | (have H2_ := (Option.bind_some _ _).symm.trans H; with_reducible exact H2_) | with_reducible exact H | (rw [hy495]; exact H) | exact H
                               have Ny495 := Aside0.mk hy495
                               clear hy495
                               by_cases c87 : x13_4.length < 17592186044416
                               ·rw [if_pos c87] at H
                                have LMc87 := Aside0.mk c87
                                clear c87
                                obtain ⟨y496, hy496⟩ : ∃ y_ : List Int, y_ = (x13_4 ++ [((rd_T41 l0_1 x16_4).f0)]) := ⟨_, rfl⟩
                                replace H : (billetref06_way.l2 kj68 l1 a3 y495 y494 y496 x14_2 (rd x13_2 x14_2) (wrap64 (x16_4 + 1)) a0_0 l0_1) = some (r1, r2) := by first | (rw [hy496]; with_reducible exact H) | (have H2_ := (Option.bind_some _ _).symm.trans H; rw [hy496]; with_reducible exact H2_) | (have H2_ := (Option.bind_some _ _).symm.trans H; with_reducible exact H2_) | with_reducible exact H | (rw [hy496]; exact H) | exact H
                                have Ny496 := Aside0.mk hy496
                                clear hy496
                                have H' := Aside0.mk H
                                clear H
                                have hnb88 := NB484_469.out
                                have hnc88 := NB469_484.out
                                have hcz89_0 : wc.cell? ⟨gb484, 0, none⟩ = some (.int .i64 ((rd_T41 l0_1 x16_4).f0)) := (blk_cell BK484.out 0).trans rfl
                                have hcz89_1 : wc.cell? ⟨gb484, 1, none⟩ = some (.int .i64 ((rd_T41 l0_1 x16_4).f1)) := (blk_cell BK484.out 1).trans rfl
                                have hcz89_2 : wc.cell? ⟨gb484, 2, none⟩ = some (.int .i64 ((rd_T41 l0_1 x16_4).f2)) := (blk_cell BK484.out 2).trans rfl
                                have hfz89_0 := blk_frozen BK484.out 0
                                have hfz89_1 := blk_frozen BK484.out 1
                                have hfz89_2 := blk_frozen BK484.out 2
                                have p493 : 0 ≤ (((rd_T41 l0_1 x16_4).f0) : Int) := of_decide_eq_true (by first | (with_reducible assumption) | assumption)
                                have q493 : ((rd_T41 l0_1 x16_4).f0) < (x11_4.length : Int) := of_decide_eq_true (by first | (with_reducible assumption) | assumption)
                                obtain ⟨ad493, e493, hx493_0⟩ := Kd.at_bool (Kd.R_reads' HO_11.out).2.2 ((rd_T41 l0_1 x16_4).f0) p493 q493
                                (try rw [← Nbq80.out] at hx493_0)
                                obtain rfl : (⟨go24, 0, none⟩ : Addr) = ad493 := (by injection e493)
                                (first | simp only [add_plain] at hx493_0 | simp only [add_at] at hx493_0 | simp only [Addr.add, Nat.zero_add] at hx493_0 | skip)
                                replace p493 := eq_true p493
                                replace q493 := eq_true q493
                                have p84 : 0 ≤ (((rd_T41 l0_1 x16_4).f0) : Int) := of_decide_eq_true (by first | (with_reducible assumption) | assumption)
                                have q84 : (((rd_T41 l0_1 x16_4).f0) : Int) < ((x11_4.length : Int) : Int) := of_decide_eq_true (by first | (with_reducible assumption) | assumption)
                                obtain ⟨hx84_0, hf84_0⟩ := Kd.R_celln false HO_11.out (((rd_T41 l0_1 x16_4).f0) : Int) p84 q84
                                replace p84 := eq_true p84
                                replace q84 := eq_true q84
                                have HP90 := Kd.R_putg HO_11.out (((rd_T41 l0_1 x16_4).f0) : Int) true
                                iterate 8 ((try go_quiet (fail)); try go_wp2_with (first | ((with_reducible refine gate_store (t := 4) (p := 100) rfl ?_); (try (rw [drewN_self wc]; generalize hq_ : World.drewN wc _ = wc; have n0_ := Aside0.mk (Kd.R_at hq_ HO_10.out); have n1_ := Aside0.mk (Kd.R_at hq_ HO_11.out); have n2_ := Aside0.mk (Kd.R_at hq_ HO_13.out); have n3_ := Aside0.mk (blk_at hq_ BK469.out); have n4_ := Aside0.mk (blk_at hq_ BK484.out); have n5_ := Aside0.mk (below_at hq_ HB.out); clear hq_ HO_10 HO_11 HO_13 BK469 BK484 HB; have HO_10 := n0_; have HO_11 := n1_; have HO_13 := n2_; have BK469 := n3_; have BK484 := n4_; have HB := n5_; clear n0_ n1_ n2_ n3_ n4_ n5_; (try (have HP90 := Kd.R_putg HO_11.out (((rd_T41 l0_1 x16_4).f0) : Int) true)))); refine store_event (t := 4) (p := 100) (v := ?vo_w91) (w1 := (wc.setCell ⟨go24, (((rd_T41 l0_1 x16_4).f0) : Int).toNat, none⟩ (.bool true))) ?hg ?ho ?hn ?hr ?_; (case ho => rfl); (case hg => rfl); (case hn => rfl); (case hr => first | (go_simp; done) | (go_simp; rfl)); intro w91 hw; have hg : wc.grownBy w91 (some go24) := (by rw [hw]; exact HP90.2); have hp_ : Kd.R Kd.bool 4 w91 w.heap.size (fun _ => True) (.slice (some ⟨go24, 0, none⟩) x11_4.length co24) y494 := (by rw [hw, Ny494.out]; exact HP90.1); clear HP90; have n0_ := Aside0.mk (Kd.R_over' (v := (.slice (some ⟨go24, 0, none⟩) x11_4.length co24)) (by (with_reducible repeat (first | apply Kd.R_alloc | apply Kd.R_drewN | apply Kd.R_drew)); exact HO_10.out) (Kd.R_typed HO_11.out) (by decide) hg); have n1_ := Aside0.mk (hp_); have n2_ := Aside0.mk (Kd.R_over' (v := (.slice (some ⟨go24, 0, none⟩) x11_4.length co24)) (by (with_reducible repeat (first | apply Kd.R_alloc | apply Kd.R_drewN | apply Kd.R_drew)); exact HO_13.out) (Kd.R_typed HO_11.out) (by decide) hg); have n3_ := Aside0.mk (blk_grown (g := gb469) (o := .cells #[.int .i64 a0_0, .slice (some ad483) l0_1.length c0_1] 24 (0, 0)) (by (with_reducible repeat (first | refine blk_drewN ?_ _ | refine blk_drew ?_ | refine blk_alloc ?_ _)); exact BK469.out) hg (Kd.R_ne HO_11.out BK469.out (by decide))); have n4_ := Aside0.mk (blk_grown (g := gb484) (o := .cells #[.int .i64 ((rd_T41 l0_1 x16_4).f0), .int .i64 ((rd_T41 l0_1 x16_4).f1), .int .i64 ((rd_T41 l0_1 x16_4).f2)] 41 (0, 0)) (by (with_reducible repeat (first | refine blk_drewN ?_ _ | refine blk_drew ?_ | refine blk_alloc ?_ _)); exact BK484.out) hg (Kd.R_ne HO_11.out BK484.out (by decide))); have n5_ := Aside0.mk ((by rw [hw]; exact below_set (HB.out) GB24.out : Below w.heap.size w w91)); clear HO_10; clear HO_11; clear HO_13; clear BK469; clear BK484; clear HB; have HO_10 := n0_; have HO_11 := n1_; have HO_13 := n2_; have BK469 := n3_; have BK484 := n4_; have HB := n5_; clear n0_ n1_ n2_ n3_ n4_ n5_; clear hg hw hp_; have p86 : 0 ≤ (((rd_T41 l0_1 x16_4).f0) : Int) := of_decide_eq_true (by first | (with_reducible assumption) | assumption); have q86 : (((rd_T41 l0_1 x16_4).f0) : Int) < ((x10_4.length : Int) : Int) := of_decide_eq_true (by first | (with_reducible assumption) | assumption); obtain ⟨go86, co86, eo86, gb86, gl86, cl86, HG86⟩ := Kd.R_form HO_10.out (by omega); (first | cases eo86 | (injection eo86 with ea_ en_ ec_; (first | subst ea_ | (injection ea_ with ea_; subst ea_)); subst ec_; clear en_)); have GB86 := Aside0.mk gb86; have GG86 := Aside0.mk HG86; clear gb86 gl86 HG86; obtain ⟨hx86_0, hf86_0⟩ := Kd.R_celln 0 HO_10.out (((rd_T41 l0_1 x16_4).f0) : Int) p86 q86; replace p86 := eq_true p86; replace q86 := eq_true q86; obtain ⟨hy92_, hz92_⟩ := Kd.R_celln 0 HO_10.out (((rd_T41 l0_1 x16_4).f0) : Int) (of_decide_eq_true (by first | (with_reducible assumption) | assumption)) (of_decide_eq_true (by first | (with_reducible assumption) | assumption)); have HP92 := Kd.R_putg HO_10.out (((rd_T41 l0_1 x16_4).f0) : Int) x16_4) | ((with_reducible refine gate_store (t := 3) (p := 104) rfl ?_); (try (rw [drewN_self w91]; generalize hq_ : World.drewN w91 _ = w91; have n0_ := Aside0.mk (Kd.R_at hq_ HO_10.out); have n1_ := Aside0.mk (Kd.R_at hq_ HO_11.out); have n2_ := Aside0.mk (Kd.R_at hq_ HO_13.out); have n3_ := Aside0.mk (blk_at hq_ BK469.out); have n4_ := Aside0.mk (blk_at hq_ BK484.out); have n5_ := Aside0.mk (below_at hq_ HB.out); clear hq_ HO_10 HO_11 HO_13 BK469 BK484 HB; have HO_10 := n0_; have HO_11 := n1_; have HO_13 := n2_; have BK469 := n3_; have BK484 := n4_; have HB := n5_; clear n0_ n1_ n2_ n3_ n4_ n5_; (try (obtain ⟨hy92_, hz92_⟩ := Kd.R_celln 0 HO_10.out (((rd_T41 l0_1 x16_4).f0) : Int) (of_decide_eq_true (by first | (with_reducible assumption) | assumption)) (of_decide_eq_true (by first | (with_reducible assumption) | assumption)))); (try (have HP92 := Kd.R_putg HO_10.out (((rd_T41 l0_1 x16_4).f0) : Int) x16_4)))); refine store_event (t := 3) (p := 104) (v := ?vo_w93) (w1 := (w91.setCell ⟨go86, (((rd_T41 l0_1 x16_4).f0) : Int).toNat, none⟩ (.int .i64 x16_4))) ?hg ?ho ?hn ?hr ?_; (case ho => rfl); (case hg => rfl); (case hn => rfl); (case hr => first | (go_simp; done) | (go_simp; rfl)); intro w93 hw; have hg : w91.grownBy w93 (some go86) := (by rw [hw]; exact HP92.2); have hp_ : Kd.R (Kd.int .i64) 3 w93 w.heap.size (fun k_ => some k_ ≠ (u13 : Value).ownBlock) (.slice (some ⟨go86, 0, none⟩) x10_4.length co86) y495 := (by rw [hw, Ny495.out]; exact HP92.1); clear HP92; have n0_ := Aside0.mk (hp_); have n1_ := Aside0.mk (Kd.R_over' (v := (.slice (some ⟨go86, 0, none⟩) x10_4.length co86)) (by (with_reducible repeat (first | apply Kd.R_alloc | apply Kd.R_drewN | apply Kd.R_drew)); exact HO_11.out) (Kd.R_typed HO_10.out) (by decide) hg); have n2_ := Aside0.mk (Kd.R_after (v := (.slice (some ⟨go86, 0, none⟩) x10_4.length co86)) (v1 := (.slice (some ⟨go86, 0, none⟩) x10_4.length co86)) (ok := (fun _ => True)) (by (with_reducible repeat (first | apply Kd.R_alloc | apply Kd.R_drewN | apply Kd.R_drew)); exact Kd.R_mono HO_13.out (fun _ hk => ⟨trivial, hk⟩)) hg (.inl rfl)); have n3_ := Aside0.mk (blk_grown (g := gb469) (o := .cells #[.int .i64 a0_0, .slice (some ad483) l0_1.length c0_1] 24 (0, 0)) (by (with_reducible repeat (first | refine blk_drewN ?_ _ | refine blk_drew ?_ | refine blk_alloc ?_ _)); exact BK469.out) hg (Kd.R_ne HO_10.out BK469.out (by decide))); have n4_ := Aside0.mk (blk_grown (g := gb484) (o := .cells #[.int .i64 ((rd_T41 l0_1 x16_4).f0), .int .i64 ((rd_T41 l0_1 x16_4).f1), .int .i64 ((rd_T41 l0_1 x16_4).f2)] 41 (0, 0)) (by (with_reducible repeat (first | refine blk_drewN ?_ _ | refine blk_drew ?_ | refine blk_alloc ?_ _)); exact BK484.out) hg (Kd.R_ne HO_10.out BK484.out (by decide))); have n5_ := Aside0.mk ((by rw [hw]; exact below_set (HB.out) GB86.out : Below w.heap.size w w93)); clear HO_10; clear HO_11; clear HO_13; clear BK469; clear BK484; clear HB; have HO_10 := n0_; have HO_11 := n1_; have HO_13 := n2_; have BK469 := n3_; have BK484 := n4_; have HB := n5_; clear n0_ n1_ n2_ n3_ n4_ n5_; clear hg hw hp_) | ((with_reducible refine gate_builtin (b := .append) (xs := #[.tmp 105, .tmp 107]) rfl ?_); at_builtin; refine Kd.R_append (Kd.int .i64) (w0 := w) w.heap.size rfl (.tmp 105) (.tmp 107) 25 3 (.int .i64 0) 8 rfl Try.underlying25 info3 rfl (by decide) (by omega) u13 x13_4 ((rd_T41 l0_1 x16_4).f0) [.int .i64 ((rd_T41 l0_1 x16_4).f0)] (fun k_ => some k_ ≠ (.slice (some ⟨go86, 0, none⟩) x10_4.length co86 : Value).ownBlock) (fun _ => False) rfl rfl ?aP (fun _ hk => hk.elim) ?aF ?aO ?aB ?aS ?aL ?_; (case aP => exact rfl); (case aB => exact (by repeat (first | (with_reducible first | exact HB.out | apply below_alloc | apply pw_below_drewN | apply below_drew1 | refine below_set ?_ GE469.out | refine below_set ?_ GE484.out) | exact HB.out))); (case aF => exact (fun k_ hk => Kd.fresh' (Kd.R_lt (by (with_reducible repeat (first | apply Kd.R_alloc | apply Kd.R_drewN | apply Kd.R_drew)); exact HO_10.out)) k_ hk)); (case aO => exact (by (with_reducible repeat (first | apply Kd.R_alloc | apply Kd.R_drewN | apply Kd.R_drew)); exact Kd.R_mono HO_13.out (fun _ hk => hk.2))); (case aS => exact (below_size (by repeat (first | (with_reducible first | exact HB.out | apply below_alloc | apply pw_below_drewN | apply below_drew1 | refine below_set ?_ GE469.out | refine below_set ?_ GE484.out) | exact HB.out)))); (case aL => have := LMc87.out; omega); intro v497 w94 ho hb hg hat; rw [← Ny496.out] at ho; have n0_ := Aside0.mk (Kd.R_after (ok := (fun _ => True)) (by (with_reducible repeat (first | apply Kd.R_alloc | apply Kd.R_drewN | apply Kd.R_drew)); exact Kd.R_mono HO_10.out (fun _ hk => ⟨trivial, hk⟩)) hg hat); have n1_ := Aside0.mk (Kd.R_over' (by (with_reducible repeat (first | apply Kd.R_alloc | apply Kd.R_drewN | apply Kd.R_drew)); exact HO_11.out) (Kd.R_typed (by (with_reducible repeat (first | apply Kd.R_alloc | apply Kd.R_drewN | apply Kd.R_drew)); exact HO_13.out)) (by decide) hg); have n2_ := Aside0.mk (blk_grown (g := gb469) (o := .cells #[.int .i64 a0_0, .slice (some ad483) l0_1.length c0_1] 24 (0, 0)) (by (with_reducible repeat (first | refine blk_drewN ?_ _ | refine blk_drew ?_ | refine blk_alloc ?_ _)); exact BK469.out) hg (Kd.R_ne HO_13.out BK469.out (by decide))); have n3_ := Aside0.mk (blk_grown (g := gb484) (o := .cells #[.int .i64 ((rd_T41 l0_1 x16_4).f0), .int .i64 ((rd_T41 l0_1 x16_4).f1), .int .i64 ((rd_T41 l0_1 x16_4).f2)] 41 (0, 0)) (by (with_reducible repeat (first | refine blk_drewN ?_ _ | refine blk_drew ?_ | refine blk_alloc ?_ _)); exact BK484.out) hg (Kd.R_ne HO_13.out BK484.out (by decide))); have n4_ := Aside0.mk (hb); have n5_ := Aside0.mk (ho); clear HO_10; clear HO_11; clear BK469; clear BK484; clear HB; clear HO_13; have HO_10 := n0_; have HO_11 := n1_; have BK469 := n2_; have BK484 := n3_; have HB := n4_; have HO498 := n5_; clear n0_ n1_ n2_ n3_ n4_ n5_; clear ho hb hg hat)))
                                (try simp only [← hl11_4])
                                go_roundg kj68
                                case measure => have := HK1.out; have := HK2.out; have := HJ29.out; have := HK4.out; have := HJ40.out; have := HJ68.out; omega
                                case rel => exact ⟨(y495), (y494), (y496), (wrap64 (x16_4 + 1)), (by first | rfl | (simp; done) | (simp [*]; done)), H', ⟨by have := HK1.out; have := HK2.out; have := HJ29.out; have := HK4.out; have := HJ40.out; have := HJ68.out; omega⟩, ⟨by (try simp only [hl11_2]); (try simp only [hl11_4]); (with_reducible repeat (first | apply Kd.R_alloc | apply Kd.R_drewN | apply Kd.R_drew)); exact Kd.R_mono HO_10.out (fun _ hk => hk.2)⟩, ⟨by (try simp only [hl11_2]); (try simp only [hl11_4]); (with_reducible repeat (first | apply Kd.R_alloc | apply Kd.R_drewN | apply Kd.R_drew)); exact HO_11.out⟩, ⟨by (try simp only [hl11_2]); (try simp only [hl11_4]); (with_reducible repeat (first | apply Kd.R_alloc | apply Kd.R_drewN | apply Kd.R_drew)); exact HO498.out⟩, ⟨by (try simp only [hl11_2]); (try simp only [hl11_4]); (with_reducible repeat (first | refine blk_drewN ?_ _ | refine blk_drew ?_ | refine blk_alloc ?_ _)); exact BK469.out⟩, ⟨by repeat (first | (with_reducible first | exact HB.out | apply below_alloc | apply pw_below_drewN | apply below_drew1 | refine below_set ?_ GE469.out | refine below_set ?_ GE484.out) | exact HB.out)⟩⟩
                               ·rw [if_neg c87] at H
                                exact absurd H (by simp)
                              ·rw [if_neg c85] at H
                               exact absurd H (by simp)
                            ·rw [if_neg c79] at H
                             exact absurd H (by simp)
                           ·rw [if_neg c78] at H
                            exact absurd H (by simp)
                          ·replace c77 := Bool.eq_false_iff.mpr c77
                           subst c77
                           have H1 : (if 0 ≤ (rd x13_2 x14_2) then (if (rd x13_2 x14_2) < (x11_4.length : Int) then (if rdOf false x11_4 (rd x13_2 x14_2) = true then (billetref06_way.l2 kj68 l1 a3 x10_4 x11_4 x13_4 x14_2 (rd x13_2 x14_2) (wrap64 (x16_4 + 1)) a0_0 l0_1) else (if (rd x13_2 x14_2) < (x10_4.length : Int) then (if x13_4.length < 17592186044416 then (billetref06_way.l2 kj68 l1 a3 (x10_4.set ((rd x13_2 x14_2) : Int).toNat x16_4) (x11_4.set ((rd x13_2 x14_2) : Int).toNat true) (x13_4 ++ [(rd x13_2 x14_2)]) x14_2 (rd x13_2 x14_2) (wrap64 (x16_4 + 1)) a0_0 l0_1) else (none)) else (none))) else (none)) else (none)) = some (r1, r2) := by rw [if_neg (show ¬ (false = true) by decide)] at H; exact H
                           clear H
                           have H := H1
                           clear H1
                           by_cases c95 : 0 ≤ (rd x13_2 x14_2)
                           ·rw [if_pos c95] at H
                            have c95b0 : decide (0 ≤ (rd x13_2 x14_2)) = true := decide_eq_true c95
                            clear c95
                            by_cases c96 : (rd x13_2 x14_2) < (x11_4.length : Int)
                            ·rw [if_pos c96] at H
                             have c96b0 : decide ((rd x13_2 x14_2) < (x11_4.length : Int)) = true := decide_eq_true c96
                             clear c96
                             obtain ⟨bq97, hbq97⟩ : ∃ b_ : Bool, b_ = (rdOf false x11_4 (rd x13_2 x14_2)) := ⟨_, rfl⟩
                             replace H : (if bq97 = true then (billetref06_way.l2 kj68 l1 a3 x10_4 x11_4 x13_4 x14_2 (rd x13_2 x14_2) (wrap64 (x16_4 + 1)) a0_0 l0_1) else (if (rd x13_2 x14_2) < (x10_4.length : Int) then (if x13_4.length < 17592186044416 then (billetref06_way.l2 kj68 l1 a3 (x10_4.set ((rd x13_2 x14_2) : Int).toNat x16_4) (x11_4.set ((rd x13_2 x14_2) : Int).toNat true) (x13_4 ++ [(rd x13_2 x14_2)]) x14_2 (rd x13_2 x14_2) (wrap64 (x16_4 + 1)) a0_0 l0_1) else (none)) else (none))) = some (r1, r2) := by rw [← hbq97] at H; exact H
                             have Nbq97 := Aside0.mk hbq97
                             clear hbq97
                             by_cases c98 : bq97 = true
                             ·subst c98
                              have H1 : (billetref06_way.l2 kj68 l1 a3 x10_4 x11_4 x13_4 x14_2 (rd x13_2 x14_2) (wrap64 (x16_4 + 1)) a0_0 l0_1) = some (r1, r2) := by rw [if_pos rfl] at H; exact H
                              clear H
                              have H := H1
                              clear H1
                              have H' := Aside0.mk H
                              clear H
                              have p499 : 0 ≤ ((rd x13_2 x14_2) : Int) := of_decide_eq_true (by first | (with_reducible assumption) | assumption)
                              have q499 : (rd x13_2 x14_2) < (x11_4.length : Int) := of_decide_eq_true (by first | (with_reducible assumption) | assumption)
                              obtain ⟨ad499, e499, hx499_0⟩ := Kd.at_bool (Kd.R_reads' HO_11.out).2.2 (rd x13_2 x14_2) p499 q499
                              (try rw [← Nbq97.out] at hx499_0)
                              obtain rfl : (⟨go24, 0, none⟩ : Addr) = ad499 := (by injection e499)
                              (first | simp only [add_plain] at hx499_0 | simp only [add_at] at hx499_0 | simp only [Addr.add, Nat.zero_add] at hx499_0 | skip)
                              replace p499 := eq_true p499
                              replace q499 := eq_true q499
                              go_wp2
                              repeat (go_quiet (fail); try go_wp2)
                              (try simp only [← hl11_4])
                              go_roundg kj68
                              case measure => have := HK1.out; have := HK2.out; have := HJ29.out; have := HK4.out; have := HJ40.out; have := HJ68.out; omega
                              case rel => exact ⟨(x10_4), (x11_4), (x13_4), (wrap64 (x16_4 + 1)), (by first | rfl | (simp; done) | (simp [*]; done)), H', ⟨by have := HK1.out; have := HK2.out; have := HJ29.out; have := HK4.out; have := HJ40.out; have := HJ68.out; omega⟩, ⟨by (try simp only [hl11_2]); (try simp only [hl11_4]); (with_reducible repeat (first | apply Kd.R_alloc | apply Kd.R_drewN | apply Kd.R_drew)); exact HO_10.out⟩, ⟨by (try simp only [hl11_2]); (try simp only [hl11_4]); (with_reducible repeat (first | apply Kd.R_alloc | apply Kd.R_drewN | apply Kd.R_drew)); exact HO_11.out⟩, ⟨by (try simp only [hl11_2]); (try simp only [hl11_4]); (with_reducible repeat (first | apply Kd.R_alloc | apply Kd.R_drewN | apply Kd.R_drew)); exact HO_13.out⟩, ⟨by (try simp only [hl11_2]); (try simp only [hl11_4]); (with_reducible repeat (first | refine blk_drewN ?_ _ | refine blk_drew ?_ | refine blk_alloc ?_ _)); exact BK469.out⟩, ⟨by repeat (first | (with_reducible first | exact HB.out | apply below_alloc | apply pw_below_drewN | apply below_drew1 | refine below_set ?_ GE469.out | refine below_set ?_ GE484.out) | exact HB.out)⟩⟩
                             ·replace c98 := Bool.eq_false_iff.mpr c98
                              subst c98
                              have H1 : (if (rd x13_2 x14_2) < (x10_4.length : Int) then (if x13_4.length < 17592186044416 then (billetref06_way.l2 kj68 l1 a3 (x10_4.set ((rd x13_2 x14_2) : Int).toNat x16_4) (x11_4.set ((rd x13_2 x14_2) : Int).toNat true) (x13_4 ++ [(rd x13_2 x14_2)]) x14_2 (rd x13_2 x14_2) (wrap64 (x16_4 + 1)) a0_0 l0_1) else (none)) else (none)) = some (r1, r2) := by rw [if_neg (show ¬ (false = true) by decide)] at H; exact H
                              clear H
                              have H := H1
                              clear H1
                              obtain ⟨y500, hy500⟩ : ∃ y_ : List Bool, y_ = (x11_4.set ((rd x13_2 x14_2) : Int).toNat true) := ⟨_, rfl⟩
                              replace H : (if (rd x13_2 x14_2) < (x10_4.length : Int) then (if x13_4.length < 17592186044416 then (billetref06_way.l2 kj68 l1 a3 (x10_4.set ((rd x13_2 x14_2) : Int).toNat x16_4) y500 (x13_4 ++ [(rd x13_2 x14_2)]) x14_2 (rd x13_2 x14_2) (wrap64 (x16_4 + 1)) a0_0 l0_1) else (none)) else (none)) = some (r1, r2) := by first | (rw [hy500]; with_reducible exact H) | (have H2_ := (Option.bind_some _ _).symm.trans H; rw [hy500]; with_reducible exact H2_) | (have H2_ := (Option.bind_some _ _).symm.trans H; with_reducible exact H2_) | with_reducible exact H | (rw [hy500]; exact H) | exact H
                              have Ny500 := Aside0.mk hy500
                              clear hy500
                              by_cases c100 : (rd x13_2 x14_2) < (x10_4.length : Int)
                              ·rw [if_pos c100] at H
                               have c100b0 : decide ((rd x13_2 x14_2) < (x10_4.length : Int)) = true := decide_eq_true c100
                               clear c100
                               obtain ⟨y501, hy501⟩ : ∃ y_ : List Int, y_ = (x10_4.set ((rd x13_2 x14_2) : Int).toNat x16_4) := ⟨_, rfl⟩
                               replace H : (if x13_4.length < 17592186044416 then (billetref06_way.l2 kj68 l1 a3 y501 y500 (x13_4 ++ [(rd x13_2 x14_2)]) x14_2 (rd x13_2 x14_2) (wrap64 (x16_4 + 1)) a0_0 l0_1) else (none)) = some (r1, r2) := by first | (rw [hy501]; with_reducible exact H) | (have H2_ := (Option.bind_some _ _).symm.trans H; rw [hy501]; with_reducible exact H2_) | (have H2_ := (Option.bind_some _ _).symm.trans H; with_reducible exact H2_) | with_reducible exact H | (rw [hy501]; exact H) | exact H
                               have Ny501 := Aside0.mk hy501
                               clear hy501
                               by_cases c102 : x13_4.length < 17592186044416
                               ·rw [if_pos c102] at H
                                have LMc102 := Aside0.mk c102
                                clear c102
                                obtain ⟨y502, hy502⟩ : ∃ y_ : List Int, y_ = (x13_4 ++ [(rd x13_2 x14_2)]) := ⟨_, rfl⟩
                                replace H : (billetref06_way.l2 kj68 l1 a3 y501 y500 y502 x14_2 (rd x13_2 x14_2) (wrap64 (x16_4 + 1)) a0_0 l0_1) = some (r1, r2) := by first | (rw [hy502]; with_reducible exact H) | (have H2_ := (Option.bind_some _ _).symm.trans H; rw [hy502]; with_reducible exact H2_) | (have H2_ := (Option.bind_some _ _).symm.trans H; with_reducible exact H2_) | with_reducible exact H | (rw [hy502]; exact H) | exact H
                                have Ny502 := Aside0.mk hy502
                                clear hy502
                                have H' := Aside0.mk H
                                clear H
                                have p499 : 0 ≤ ((rd x13_2 x14_2) : Int) := of_decide_eq_true (by first | (with_reducible assumption) | assumption)
                                have q499 : (rd x13_2 x14_2) < (x11_4.length : Int) := of_decide_eq_true (by first | (with_reducible assumption) | assumption)
                                obtain ⟨ad499, e499, hx499_0⟩ := Kd.at_bool (Kd.R_reads' HO_11.out).2.2 (rd x13_2 x14_2) p499 q499
                                (try rw [← Nbq97.out] at hx499_0)
                                obtain rfl : (⟨go24, 0, none⟩ : Addr) = ad499 := (by injection e499)
                                (first | simp only [add_plain] at hx499_0 | simp only [add_at] at hx499_0 | simp only [Addr.add, Nat.zero_add] at hx499_0 | skip)
                                replace p499 := eq_true p499
                                replace q499 := eq_true q499
                                have p99 : 0 ≤ ((rd x13_2 x14_2) : Int) := of_decide_eq_true (by first | (with_reducible assumption) | assumption)
                                have q99 : ((rd x13_2 x14_2) : Int) < ((x11_4.length : Int) : Int) := of_decide_eq_true (by first | (with_reducible assumption) | assumption)
                                obtain ⟨hx99_0, hf99_0⟩ := Kd.R_celln false HO_11.out ((rd x13_2 x14_2) : Int) p99 q99
                                replace p99 := eq_true p99
                                replace q99 := eq_true q99
                                have HP103 := Kd.R_putg HO_11.out ((rd x13_2 x14_2) : Int) true
                                iterate 8 ((try go_quiet (fail)); try go_wp2_with (first | ((with_reducible refine gate_store (t := 4) (p := 100) rfl ?_); (try (rw [drewN_self wc]; generalize hq_ : World.drewN wc _ = wc; have n0_ := Aside0.mk (Kd.R_at hq_ HO_10.out); have n1_ := Aside0.mk (Kd.R_at hq_ HO_11.out); have n2_ := Aside0.mk (Kd.R_at hq_ HO_13.out); have n3_ := Aside0.mk (blk_at hq_ BK469.out); have n4_ := Aside0.mk (blk_at hq_ BK484.out); have n5_ := Aside0.mk (below_at hq_ HB.out); clear hq_ HO_10 HO_11 HO_13 BK469 BK484 HB; have HO_10 := n0_; have HO_11 := n1_; have HO_13 := n2_; have BK469 := n3_; have BK484 := n4_; have HB := n5_; clear n0_ n1_ n2_ n3_ n4_ n5_; (try (have HP103 := Kd.R_putg HO_11.out ((rd x13_2 x14_2) : Int) true)))); refine store_event (t := 4) (p := 100) (v := ?vo_w104) (w1 := (wc.setCell ⟨go24, ((rd x13_2 x14_2) : Int).toNat, none⟩ (.bool true))) ?hg ?ho ?hn ?hr ?_; (case ho => rfl); (case hg => rfl); (case hn => rfl); (case hr => first | (go_simp; done) | (go_simp; rfl)); intro w104 hw; have hg : wc.grownBy w104 (some go24) := (by rw [hw]; exact HP103.2); have hp_ : Kd.R Kd.bool 4 w104 w.heap.size (fun _ => True) (.slice (some ⟨go24, 0, none⟩) x11_4.length co24) y500 := (by rw [hw, Ny500.out]; exact HP103.1); clear HP103; have n0_ := Aside0.mk (Kd.R_over' (v := (.slice (some ⟨go24, 0, none⟩) x11_4.length co24)) (by (with_reducible repeat (first | apply Kd.R_alloc | apply Kd.R_drewN | apply Kd.R_drew)); exact HO_10.out) (Kd.R_typed HO_11.out) (by decide) hg); have n1_ := Aside0.mk (hp_); have n2_ := Aside0.mk (Kd.R_over' (v := (.slice (some ⟨go24, 0, none⟩) x11_4.length co24)) (by (with_reducible repeat (first | apply Kd.R_alloc | apply Kd.R_drewN | apply Kd.R_drew)); exact HO_13.out) (Kd.R_typed HO_11.out) (by decide) hg); have n3_ := Aside0.mk (blk_grown (g := gb469) (o := .cells #[.int .i64 a0_0, .slice (some ad483) l0_1.length c0_1] 24 (0, 0)) (by (with_reducible repeat (first | refine blk_drewN ?_ _ | refine blk_drew ?_ | refine blk_alloc ?_ _)); exact BK469.out) hg (Kd.R_ne HO_11.out BK469.out (by decide))); have n4_ := Aside0.mk (blk_grown (g := gb484) (o := .cells #[.int .i64 ((rd_T41 l0_1 x16_4).f0), .int .i64 ((rd_T41 l0_1 x16_4).f1), .int .i64 ((rd_T41 l0_1 x16_4).f2)] 41 (0, 0)) (by (with_reducible repeat (first | refine blk_drewN ?_ _ | refine blk_drew ?_ | refine blk_alloc ?_ _)); exact BK484.out) hg (Kd.R_ne HO_11.out BK484.out (by decide))); have n5_ := Aside0.mk ((by rw [hw]; exact below_set (HB.out) GB24.out : Below w.heap.size w w104)); clear HO_10; clear HO_11; clear HO_13; clear BK469; clear BK484; clear HB; have HO_10 := n0_; have HO_11 := n1_; have HO_13 := n2_; have BK469 := n3_; have BK484 := n4_; have HB := n5_; clear n0_ n1_ n2_ n3_ n4_ n5_; clear hg hw hp_; have p101 : 0 ≤ ((rd x13_2 x14_2) : Int) := of_decide_eq_true (by first | (with_reducible assumption) | assumption); have q101 : ((rd x13_2 x14_2) : Int) < ((x10_4.length : Int) : Int) := of_decide_eq_true (by first | (with_reducible assumption) | assumption); obtain ⟨go101, co101, eo101, gb101, gl101, cl101, HG101⟩ := Kd.R_form HO_10.out (by omega); (first | cases eo101 | (injection eo101 with ea_ en_ ec_; (first | subst ea_ | (injection ea_ with ea_; subst ea_)); subst ec_; clear en_)); have GB101 := Aside0.mk gb101; have GG101 := Aside0.mk HG101; clear gb101 gl101 HG101; obtain ⟨hx101_0, hf101_0⟩ := Kd.R_celln 0 HO_10.out ((rd x13_2 x14_2) : Int) p101 q101; replace p101 := eq_true p101; replace q101 := eq_true q101; obtain ⟨hy105_, hz105_⟩ := Kd.R_celln 0 HO_10.out ((rd x13_2 x14_2) : Int) (of_decide_eq_true (by first | (with_reducible assumption) | assumption)) (of_decide_eq_true (by first | (with_reducible assumption) | assumption)); have HP105 := Kd.R_putg HO_10.out ((rd x13_2 x14_2) : Int) x16_4) | ((with_reducible refine gate_store (t := 3) (p := 104) rfl ?_); (try (rw [drewN_self w104]; generalize hq_ : World.drewN w104 _ = w104; have n0_ := Aside0.mk (Kd.R_at hq_ HO_10.out); have n1_ := Aside0.mk (Kd.R_at hq_ HO_11.out); have n2_ := Aside0.mk (Kd.R_at hq_ HO_13.out); have n3_ := Aside0.mk (blk_at hq_ BK469.out); have n4_ := Aside0.mk (blk_at hq_ BK484.out); have n5_ := Aside0.mk (below_at hq_ HB.out); clear hq_ HO_10 HO_11 HO_13 BK469 BK484 HB; have HO_10 := n0_; have HO_11 := n1_; have HO_13 := n2_; have BK469 := n3_; have BK484 := n4_; have HB := n5_; clear n0_ n1_ n2_ n3_ n4_ n5_; (try (obtain ⟨hy105_, hz105_⟩ := Kd.R_celln 0 HO_10.out ((rd x13_2 x14_2) : Int) (of_decide_eq_true (by first | (with_reducible assumption) | assumption)) (of_decide_eq_true (by first | (with_reducible assumption) | assumption)))); (try (have HP105 := Kd.R_putg HO_10.out ((rd x13_2 x14_2) : Int) x16_4)))); refine store_event (t := 3) (p := 104) (v := ?vo_w106) (w1 := (w104.setCell ⟨go101, ((rd x13_2 x14_2) : Int).toNat, none⟩ (.int .i64 x16_4))) ?hg ?ho ?hn ?hr ?_; (case ho => rfl); (case hg => rfl); (case hn => rfl); (case hr => first | (go_simp; done) | (go_simp; rfl)); intro w106 hw; have hg : w104.grownBy w106 (some go101) := (by rw [hw]; exact HP105.2); have hp_ : Kd.R (Kd.int .i64) 3 w106 w.heap.size (fun k_ => some k_ ≠ (u13 : Value).ownBlock) (.slice (some ⟨go101, 0, none⟩) x10_4.length co101) y501 := (by rw [hw, Ny501.out]; exact HP105.1); clear HP105; have n0_ := Aside0.mk (hp_); have n1_ := Aside0.mk (Kd.R_over' (v := (.slice (some ⟨go101, 0, none⟩) x10_4.length co101)) (by (with_reducible repeat (first | apply Kd.R_alloc | apply Kd.R_drewN | apply Kd.R_drew)); exact HO_11.out) (Kd.R_typed HO_10.out) (by decide) hg); have n2_ := Aside0.mk (Kd.R_after (v := (.slice (some ⟨go101, 0, none⟩) x10_4.length co101)) (v1 := (.slice (some ⟨go101, 0, none⟩) x10_4.length co101)) (ok := (fun _ => True)) (by (with_reducible repeat (first | apply Kd.R_alloc | apply Kd.R_drewN | apply Kd.R_drew)); exact Kd.R_mono HO_13.out (fun _ hk => ⟨trivial, hk⟩)) hg (.inl rfl)); have n3_ := Aside0.mk (blk_grown (g := gb469) (o := .cells #[.int .i64 a0_0, .slice (some ad483) l0_1.length c0_1] 24 (0, 0)) (by (with_reducible repeat (first | refine blk_drewN ?_ _ | refine blk_drew ?_ | refine blk_alloc ?_ _)); exact BK469.out) hg (Kd.R_ne HO_10.out BK469.out (by decide))); have n4_ := Aside0.mk (blk_grown (g := gb484) (o := .cells #[.int .i64 ((rd_T41 l0_1 x16_4).f0), .int .i64 ((rd_T41 l0_1 x16_4).f1), .int .i64 ((rd_T41 l0_1 x16_4).f2)] 41 (0, 0)) (by (with_reducible repeat (first | refine blk_drewN ?_ _ | refine blk_drew ?_ | refine blk_alloc ?_ _)); exact BK484.out) hg (Kd.R_ne HO_10.out BK484.out (by decide))); have n5_ := Aside0.mk ((by rw [hw]; exact below_set (HB.out) GB101.out : Below w.heap.size w w106)); clear HO_10; clear HO_11; clear HO_13; clear BK469; clear BK484; clear HB; have HO_10 := n0_; have HO_11 := n1_; have HO_13 := n2_; have BK469 := n3_; have BK484 := n4_; have HB := n5_; clear n0_ n1_ n2_ n3_ n4_ n5_; clear hg hw hp_) | ((with_reducible refine gate_builtin (b := .append) (xs := #[.tmp 105, .tmp 107]) rfl ?_); at_builtin; refine Kd.R_append (Kd.int .i64) (w0 := w) w.heap.size rfl (.tmp 105) (.tmp 107) 25 3 (.int .i64 0) 8 rfl Try.underlying25 info3 rfl (by decide) (by omega) u13 x13_4 (rd x13_2 x14_2) [.int .i64 (rd x13_2 x14_2)] (fun k_ => some k_ ≠ (.slice (some ⟨go101, 0, none⟩) x10_4.length co101 : Value).ownBlock) (fun _ => False) rfl rfl ?aP (fun _ hk => hk.elim) ?aF ?aO ?aB ?aS ?aL ?_; (case aP => exact rfl); (case aB => exact (by repeat (first | (with_reducible first | exact HB.out | apply below_alloc | apply pw_below_drewN | apply below_drew1 | refine below_set ?_ GE469.out | refine below_set ?_ GE484.out) | exact HB.out))); (case aF => exact (fun k_ hk => Kd.fresh' (Kd.R_lt (by (with_reducible repeat (first | apply Kd.R_alloc | apply Kd.R_drewN | apply Kd.R_drew)); exact HO_10.out)) k_ hk)); (case aO => exact (by (with_reducible repeat (first | apply Kd.R_alloc | apply Kd.R_drewN | apply Kd.R_drew)); exact Kd.R_mono HO_13.out (fun _ hk => hk.2))); (case aS => exact (below_size (by repeat (first | (with_reducible first | exact HB.out | apply below_alloc | apply pw_below_drewN | apply below_drew1 | refine below_set ?_ GE469.out | refine below_set ?_ GE484.out) | exact HB.out)))); (case aL => have := LMc102.out; omega); intro v503 w107 ho hb hg hat; rw [← Ny502.out] at ho; have n0_ := Aside0.mk (Kd.R_after (ok := (fun _ => True)) (by (with_reducible repeat (first | apply Kd.R_alloc | apply Kd.R_drewN | apply Kd.R_drew)); exact Kd.R_mono HO_10.out (fun _ hk => ⟨trivial, hk⟩)) hg hat); have n1_ := Aside0.mk (Kd.R_over' (by (with_reducible repeat (first | apply Kd.R_alloc | apply Kd.R_drewN | apply Kd.R_drew)); exact HO_11.out) (Kd.R_typed (by (with_reducible repeat (first | apply Kd.R_alloc | apply Kd.R_drewN | apply Kd.R_drew)); exact HO_13.out)) (by decide) hg); have n2_ := Aside0.mk (blk_grown (g := gb469) (o := .cells #[.int .i64 a0_0, .slice (some ad483) l0_1.length c0_1] 24 (0, 0)) (by (with_reducible repeat (first | refine blk_drewN ?_ _ | refine blk_drew ?_ | refine blk_alloc ?_ _)); exact BK469.out) hg (Kd.R_ne HO_13.out BK469.out (by decide))); have n3_ := Aside0.mk (blk_grown (g := gb484) (o := .cells #[.int .i64 ((rd_T41 l0_1 x16_4).f0), .int .i64 ((rd_T41 l0_1 x16_4).f1), .int .i64 ((rd_T41 l0_1 x16_4).f2)] 41 (0, 0)) (by (with_reducible repeat (first | refine blk_drewN ?_ _ | refine blk_drew ?_ | refine blk_alloc ?_ _)); exact BK484.out) hg (Kd.R_ne HO_13.out BK484.out (by decide))); have n4_ := Aside0.mk (hb); have n5_ := Aside0.mk (ho); clear HO_10; clear HO_11; clear BK469; clear BK484; clear HB; clear HO_13; have HO_10 := n0_; have HO_11 := n1_; have BK469 := n2_; have BK484 := n3_; have HB := n4_; have HO504 := n5_; clear n0_ n1_ n2_ n3_ n4_ n5_; clear ho hb hg hat)))
                                (try simp only [← hl11_4])
                                go_roundg kj68
                                case measure => have := HK1.out; have := HK2.out; have := HJ29.out; have := HK4.out; have := HJ40.out; have := HJ68.out; omega
                                case rel => exact ⟨(y501), (y500), (y502), (wrap64 (x16_4 + 1)), (by first | rfl | (simp; done) | (simp [*]; done)), H', ⟨by have := HK1.out; have := HK2.out; have := HJ29.out; have := HK4.out; have := HJ40.out; have := HJ68.out; omega⟩, ⟨by (try simp only [hl11_2]); (try simp only [hl11_4]); (with_reducible repeat (first | apply Kd.R_alloc | apply Kd.R_drewN | apply Kd.R_drew)); exact Kd.R_mono HO_10.out (fun _ hk => hk.2)⟩, ⟨by (try simp only [hl11_2]); (try simp only [hl11_4]); (with_reducible repeat (first | apply Kd.R_alloc | apply Kd.R_drewN | apply Kd.R_drew)); exact HO_11.out⟩, ⟨by (try simp only [hl11_2]); (try simp only [hl11_4]); (with_reducible repeat (first | apply Kd.R_alloc | apply Kd.R_drewN | apply Kd.R_drew)); exact HO504.out⟩, ⟨by (try simp only [hl11_2]); (try simp only [hl11_4]); (with_reducible repeat (first | refine blk_drewN ?_ _ | refine blk_drew ?_ | refine blk_alloc ?_ _)); exact BK469.out⟩, ⟨by repeat (first | (with_reducible first | exact HB.out | apply below_alloc | apply pw_below_drewN | apply below_drew1 | refine below_set ?_ GE469.out | refine below_set ?_ GE484.out) | exact HB.out)⟩⟩
                               ·rw [if_neg c102] at H
                                exact absurd H (by simp)
                              ·rw [if_neg c100] at H
                               exact absurd H (by simp)
                            ·rw [if_neg c96] at H
                             exact absurd H (by simp)
                           ·rw [if_neg c95] at H
                            exact absurd H (by simp)
                    ·rw [if_neg c40] at H
                     exact absurd H (by simp)
                   ·rw [if_neg c39] at H
                    exact absurd H (by simp)
                  ·rw [if_neg c38] at H
                   have c38b0 : decide (x16_4 < (l1.length : Int)) = false := decide_eq_false c38
                   clear c38
                   have H' := Aside0.mk H
                   clear H
                   go_wp2
                   repeat (go_quiet (fail); try go_wp2)
                   (try simp only [← hl11_2, ← hl11_4])
                   go_roundg k4
                   case measure => have := HK1.out; have := HK2.out; have := HJ29.out; have := HK4.out; omega
                   case rel => exact ⟨(x10_4), (x11_4), (x13_4), (wrap64 (x14_2 + 1)), (by first | rfl | (simp; done) | (simp [*]; done)), H', ⟨by have := HK1.out; have := HK2.out; have := HJ29.out; have := HK4.out; omega⟩, ⟨by (try simp only [hl11_2]); (try simp only [hl11_4]); (with_reducible repeat (first | apply Kd.R_alloc | apply Kd.R_drewN | apply Kd.R_drew)); exact HO_10.out⟩, ⟨by (try simp only [hl11_2]); (try simp only [hl11_4]); (with_reducible repeat (first | apply Kd.R_alloc | apply Kd.R_drewN | apply Kd.R_drew)); exact HO_11.out⟩, ⟨by (try simp only [hl11_2]); (try simp only [hl11_4]); (with_reducible repeat (first | apply Kd.R_alloc | apply Kd.R_drewN | apply Kd.R_drew)); exact HO_13.out⟩, ⟨by (try simp only [hl11_2]); (try simp only [hl11_4]); (with_reducible repeat (first | refine blk_drewN ?_ _ | refine blk_drew ?_ | refine blk_alloc ?_ _)); exact BK469.out⟩, ⟨by repeat (first | (with_reducible first | exact HB.out | apply below_alloc | apply pw_below_drewN | apply below_drew1 | refine below_set ?_ GE469.out) | exact HB.out)⟩⟩
               ·rw [if_neg c36] at H
                exact absurd H (by simp)
              ·rw [if_neg c35] at H
               exact absurd H (by simp)
             ·replace c34 := Bool.eq_false_iff.mpr c34
              subst c34
              have H1 : (if 0 ≤ a3 then (if a3 < (x11_2.length : Int) then (some (x10_2, rdOf false x11_2 a3)) else (none)) else (none)) = some (r1, r2) := by rw [if_neg (show ¬ (false = true) by decide)] at H; exact H
              clear H
              have H := H1
              clear H1
              by_cases c108 : 0 ≤ a3
              ·rw [if_pos c108] at H
               have c108b0 : decide (0 ≤ a3) = true := decide_eq_true c108
               clear c108
               by_cases c109 : a3 < (x11_2.length : Int)
               ·rw [if_pos c109] at H
                have c109b0 : decide (a3 < (x11_2.length : Int)) = true := decide_eq_true c109
                clear c109
                simp only [Option.some.injEq, Prod.mk.injEq] at H
                obtain ⟨rfl, rfl⟩ := H
                have p481 : 0 ≤ (a3 : Int) := of_decide_eq_true (by first | (with_reducible assumption) | assumption)
                have q481 : a3 < (x11_2.length : Int) := of_decide_eq_true (by first | (with_reducible assumption) | assumption)
                obtain ⟨ad481, e481, hx481_0⟩ := Kd.at_bool (Kd.R_reads' HO_11.out).2.2 a3 p481 q481
                obtain rfl : (⟨go24, 0, none⟩ : Addr) = ad481 := (by injection e481)
                (first | simp only [add_plain] at hx481_0 | simp only [add_at] at hx481_0 | simp only [Addr.add, Nat.zero_add] at hx481_0 | skip)
                replace p481 := eq_true p481
                replace q481 := eq_true q481
                go_wp2
                repeat (go_quiet (fail); try go_wp2)
                go_ret2
                exact ⟨_, by first | rfl | (simp [errW_none, errW_some] <;> rfl) | (simp [*, errW_none, errW_some] <;> rfl), by (with_reducible repeat (first | apply Kd.R_alloc | apply Kd.R_drewN | apply Kd.R_drew)); exact Kd.R_mono HO_10.out (fun _ hk => trivial), by repeat (first | (with_reducible first | exact HB.out | apply below_alloc | apply pw_below_drewN | apply below_drew1 | refine below_set ?_ GE469.out) | exact HB.out)⟩
               ·rw [if_neg c109] at H
                exact absurd H (by simp)
              ·rw [if_neg c108] at H
               exact absurd H (by simp)
        ·rw [if_neg c23] at H
         exact absurd H (by simp)
       ·rw [if_neg c22] at H
        exact absurd H (by simp)
   ·rw [if_neg c7] at H
    exact absurd H (by simp)
  ·rw [if_neg c6] at H
   exact absurd H (by simp)
 ·rw [if_neg c5] at H
  exact absurd H (by simp)

end Go.Proofs.Ytfmfojogcghkkaa.P
