-- Laid by a program of this session (wip/tools/genx.py) out of the kit's print of the translation.
import Derived.Test.YtpdgdogcfmfakaaPx0
import Derived.Test.YtpdgdogcfmfakaaPx6
import Derived.Test.YtpdgdogcfmfakaaPx9
import Derived.Test.YtpdgdogcfmfakaaPx13
import Derived.Test.YtpdgdogcfmfakaaPx17
import Derived.Test.YtpdgdogcfmfakaaPx18
import Derived.Test.YtpdgdogcfmfakaaPx20
namespace Go.Proofs.Ytpdgdogcfmfakaa.P
open Go.RowKit Go.Proofs.YtpdgdogcfmfakaaW.PrintWords Go.Proofs.YtpdgdogcfmfakaaW.PrintLast Go.Proofs.YtpdgdogcfmfakaaW.PrintMore
attribute [local go_sem] max2_int min2_int max_two min_two max_three min_three max_four min_four   -- for this text's walks alone
set_option linter.unusedVariables false
set_option linter.unusedSimpArgs false

/-! ### billetlaw15_ShareTrims: function 6 -/
mutual
def billetlaw15_ShareTrims.j1 : Nat → Bool → List (S40) → List (S40) → List ByteArray → List Int → Option (Bool)
  | 0, _, _, _, _, _ => none
  | k + 1, x7, x8, x9, x10, x11 => (share_Trim.f k x8 x9 x10 x11).bind fun t424 => (billetlaw15_ShareTrims.l1 k x7 x8 x9 x10 x11 t424 0)
def billetlaw15_ShareTrims.l1 : Nat → Bool → List (S40) → List (S40) → List ByteArray → List Int → List (S40) → Int → Option (Bool)
  | 0, _, _, _, _, _, _, _ => none
  | k + 1, x7, x8, x9, x10, x11, x13, x14 => if x14 < 8 then (if 0 ≤ x14 then (if x14 < (x10.length : Int) then ((billetlaw15_count.f k x13 (rdOf ByteArray.empty x10 x14) (⟨#[]⟩ : ByteArray)).bind fun t428 => (if x14 < (x11.length : Int) then ((billetlaw15_count.f k x8 (rdOf ByteArray.empty x10 x14) (⟨#[]⟩ : ByteArray)).bind fun t431 => (if t428 = (mn (rd x11 x14) t431) then (billetlaw15_ShareTrims.l2 k x7 x8 x9 x10 x11 x13 x14 0 0 0) else (some false))) else (none))) else (none)) else (none)) else (billetlaw15_ShareTrims.l3 k x7 x10 x13 0 0)
def billetlaw15_ShareTrims.l2 : Nat → Bool → List (S40) → List (S40) → List ByteArray → List Int → List (S40) → Int → Int → Int → Int → Option (Bool)
  | 0, _, _, _, _, _, _, _, _, _, _ => none
  | k + 1, x7, x8, x9, x10, x11, x13, x14, x15, x16, x17 => if x17 < (x8.length : Int) then (if 0 ≤ x17 then (if 0 ≤ x14 then (if x14 < (x10.length : Int) then (if ((rd_T40 x8 x17).f0).toList = (rdOf ByteArray.empty x10 x14).toList then ((billetlaw15_count.f k x13 (rdOf ByteArray.empty x10 x14) ((rd_T40 x8 x17).f1)).bind fun t437 => (if t437 > ((rd_T40 x8 x17).f2) then (some false) else ((billetlaw15_count.f k x9 (rdOf ByteArray.empty x10 x14) ((rd_T40 x8 x17).f1)).bind fun t441 => ((billetlaw15_count.f k x9 (rdOf ByteArray.empty x10 x14) ((rd_T40 x8 x17).f1)).bind fun t445 => (billetlaw15_ShareTrims.l2 k x7 x8 x9 x10 x11 x13 x14 (wrap64 (x15 + (mn t437 t441))) (wrap64 (x16 + (mn ((rd_T40 x8 x17).f2) t445))) (wrap64 (x17 + 1))))))) else (billetlaw15_ShareTrims.l2 k x7 x8 x9 x10 x11 x13 x14 x15 x16 (wrap64 (x17 + 1)))) else (none)) else (none)) else (none)) else (if 0 ≤ x14 then (if x14 < (x11.length : Int) then (if x15 = (mn (rd x11 x14) x16) then (billetlaw15_ShareTrims.l1 k x7 x8 x9 x10 x11 x13 (wrap64 (x14 + 1))) else (some false)) else (none)) else (none))
def billetlaw15_ShareTrims.l3 : Nat → Bool → List ByteArray → List (S40) → Int → Int → Option (Bool)
  | 0, _, _, _, _, _ => none
  | k + 1, x7, x10, x13, x19, x20 => if x20 < (x13.length : Int) then (if 0 ≤ x20 then (if ((rd_T40 x13 x20).f2) < 1 then (some false) else (billetlaw15_ShareTrims.l3 k x7 x10 x13 (wrap64 (x19 + ((rd_T40 x13 x20).f2))) (wrap64 (x20 + 1)))) else (none)) else (billetlaw15_ShareTrims.l4 k x7 x10 x13 x19 0 0)
def billetlaw15_ShareTrims.l4 : Nat → Bool → List ByteArray → List (S40) → Int → Int → Int → Option (Bool)
  | 0, _, _, _, _, _, _ => none
  | k + 1, x7, x10, x13, x19, x21, x22 => if x22 < 8 then (if 0 ≤ x22 then (if x22 < (x10.length : Int) then ((billetlaw15_count.f k x13 (rdOf ByteArray.empty x10 x22) (⟨#[]⟩ : ByteArray)).bind fun t449 => (billetlaw15_ShareTrims.l4 k x7 x10 x13 x19 (wrap64 (x21 + t449)) (wrap64 (x22 + 1)))) else (none)) else (none)) else (if x7 = true then (some (x19 == x21)) else (some false))
def billetlaw15_ShareTrims.l0 : Nat → List Int → Bool → List (S40) → List (S40) → List ByteArray → List Int → Int → Option (Bool)
  | 0, _, _, _, _, _, _, _ => none
  | k + 1, x2, x7, x8, x9, x10, x11, x12 => if x12 < 8 then (if x12 < (x2.length : Int) then (if 0 ≤ x12 then ((billetlaw15_pick.f (rd x2 x12) 9).bind fun t422 => (if x12 < (x11.length : Int) then (billetlaw15_ShareTrims.l0 k x2 x7 x8 x9 x10 (x11.set (x12 : Int).toNat t422) (wrap64 (x12 + 1))) else (none))) else (none)) else (billetlaw15_ShareTrims.j1 k x7 x8 x9 x10 x11)) else (billetlaw15_ShareTrims.j1 k x7 x8 x9 x10 x11)
end
def billetlaw15_ShareTrims.f (k : Nat) (l0 : List Int) (l1 : List Int) (l2 : List Int) : Option (Bool) := (billetlaw15_awake.f k).bind fun t402 => ((billetlaw08_Binds.f k l0).bind fun t403 => ((billetlaw15_once.f k t403).bind fun t406 => ((billetlaw08_Binds.f k l1).bind fun t409 => ((billetlaw15_once.f k t409).bind fun t412 => (if 8 ≤ 35184372088832 then (billetlaw15_ShareTrims.l0 k l2 t402 t406 t412 (([(⟨#[119, 97]⟩ : ByteArray), (⟨#[119, 98]⟩ : ByteArray), (⟨#[119, 99]⟩ : ByteArray), (⟨#[119, 100]⟩ : ByteArray), (⟨#[119, 101]⟩ : ByteArray), (⟨#[119, 102]⟩ : ByteArray), (⟨#[119, 103]⟩ : ByteArray), (⟨#[119, 104]⟩ : ByteArray)] : List ByteArray)) (List.replicate 8 0) 0) else (none))))))
theorem billetlaw15_ShareTrims.mono_l : ∀ k, (∀ y0 y1 y2 y3 y4, LeO (billetlaw15_ShareTrims.j1 k y0 y1 y2 y3 y4) (billetlaw15_ShareTrims.j1 (k + 1) y0 y1 y2 y3 y4)) ∧ (∀ y0 y1 y2 y3 y4 y5 y6, LeO (billetlaw15_ShareTrims.l1 k y0 y1 y2 y3 y4 y5 y6) (billetlaw15_ShareTrims.l1 (k + 1) y0 y1 y2 y3 y4 y5 y6)) ∧ (∀ y0 y1 y2 y3 y4 y5 y6 y7 y8 y9, LeO (billetlaw15_ShareTrims.l2 k y0 y1 y2 y3 y4 y5 y6 y7 y8 y9) (billetlaw15_ShareTrims.l2 (k + 1) y0 y1 y2 y3 y4 y5 y6 y7 y8 y9)) ∧ (∀ y0 y1 y2 y3 y4, LeO (billetlaw15_ShareTrims.l3 k y0 y1 y2 y3 y4) (billetlaw15_ShareTrims.l3 (k + 1) y0 y1 y2 y3 y4)) ∧ (∀ y0 y1 y2 y3 y4 y5, LeO (billetlaw15_ShareTrims.l4 k y0 y1 y2 y3 y4 y5) (billetlaw15_ShareTrims.l4 (k + 1) y0 y1 y2 y3 y4 y5)) ∧ (∀ y0 y1 y2 y3 y4 y5 y6, LeO (billetlaw15_ShareTrims.l0 k y0 y1 y2 y3 y4 y5 y6) (billetlaw15_ShareTrims.l0 (k + 1) y0 y1 y2 y3 y4 y5 y6))
  | 0 => ⟨fun _ _ _ _ _ r h => by simp [billetlaw15_ShareTrims.j1] at h, fun _ _ _ _ _ _ _ r h => by simp [billetlaw15_ShareTrims.l1] at h, fun _ _ _ _ _ _ _ _ _ _ r h => by simp [billetlaw15_ShareTrims.l2] at h, fun _ _ _ _ _ r h => by simp [billetlaw15_ShareTrims.l3] at h, fun _ _ _ _ _ _ r h => by simp [billetlaw15_ShareTrims.l4] at h, fun _ _ _ _ _ _ _ r h => by simp [billetlaw15_ShareTrims.l0] at h⟩
  | k + 1 => by
    obtain ⟨ih0, ih1, ih2, ih3, ih4, ih5⟩ := billetlaw15_ShareTrims.mono_l k
    refine ⟨?_, ?_, ?_, ?_, ?_, ?_⟩
    · intro y0 y1 y2 y3 y4
      unfold billetlaw15_ShareTrims.j1
      repeat' first
      | (with_reducible exact ih0 _ _ _ _ _)
      | (with_reducible exact ih1 _ _ _ _ _ _ _)
      | (with_reducible exact ih2 _ _ _ _ _ _ _ _ _ _)
      | (with_reducible exact ih3 _ _ _ _ _)
      | (with_reducible exact ih4 _ _ _ _ _ _)
      | (with_reducible exact ih5 _ _ _ _ _ _ _)
      | (with_reducible exact billetlaw08_Binds.mono _ _)
      | (with_reducible exact billetlaw15_awake.mono _)
      | (with_reducible exact billetlaw15_count.mono _ _ _ _)
      | (with_reducible exact billetlaw15_once.mono _ _)
      | (with_reducible exact share_Trim.mono _ _ _ _ _)
      | (with_reducible exact LeO.refl _)
      | (with_reducible exact LeO.none _)
      | (with_reducible refine LeO.ite ?_ ?_)
      | (with_reducible refine LeO.bind ?_ (fun _ => ?_))
      | exact ih0 _ _ _ _ _
      | exact ih1 _ _ _ _ _ _ _
      | exact ih2 _ _ _ _ _ _ _ _ _ _
      | exact ih3 _ _ _ _ _
      | exact ih4 _ _ _ _ _ _
      | exact ih5 _ _ _ _ _ _ _
      | exact billetlaw08_Binds.mono _ _
      | exact billetlaw15_awake.mono _
      | exact billetlaw15_count.mono _ _ _ _
      | exact billetlaw15_once.mono _ _
      | exact share_Trim.mono _ _ _ _ _
      | exact LeO.none _
      | refine LeO.ite ?_ ?_
      | refine LeO.bind ?_ (fun _ => ?_)
    · intro y0 y1 y2 y3 y4 y5 y6
      unfold billetlaw15_ShareTrims.l1
      repeat' first
      | (with_reducible exact ih0 _ _ _ _ _)
      | (with_reducible exact ih1 _ _ _ _ _ _ _)
      | (with_reducible exact ih2 _ _ _ _ _ _ _ _ _ _)
      | (with_reducible exact ih3 _ _ _ _ _)
      | (with_reducible exact ih4 _ _ _ _ _ _)
      | (with_reducible exact ih5 _ _ _ _ _ _ _)
      | (with_reducible exact billetlaw08_Binds.mono _ _)
      | (with_reducible exact billetlaw15_awake.mono _)
      | (with_reducible exact billetlaw15_count.mono _ _ _ _)
      | (with_reducible exact billetlaw15_once.mono _ _)
      | (with_reducible exact share_Trim.mono _ _ _ _ _)
      | (with_reducible exact LeO.refl _)
      | (with_reducible exact LeO.none _)
      | (with_reducible refine LeO.ite ?_ ?_)
      | (with_reducible refine LeO.bind ?_ (fun _ => ?_))
      | exact ih0 _ _ _ _ _
      | exact ih1 _ _ _ _ _ _ _
      | exact ih2 _ _ _ _ _ _ _ _ _ _
      | exact ih3 _ _ _ _ _
      | exact ih4 _ _ _ _ _ _
      | exact ih5 _ _ _ _ _ _ _
      | exact billetlaw08_Binds.mono _ _
      | exact billetlaw15_awake.mono _
      | exact billetlaw15_count.mono _ _ _ _
      | exact billetlaw15_once.mono _ _
      | exact share_Trim.mono _ _ _ _ _
      | exact LeO.none _
      | refine LeO.ite ?_ ?_
      | refine LeO.bind ?_ (fun _ => ?_)
    · intro y0 y1 y2 y3 y4 y5 y6 y7 y8 y9
      unfold billetlaw15_ShareTrims.l2
      repeat' first
      | (with_reducible exact ih0 _ _ _ _ _)
      | (with_reducible exact ih1 _ _ _ _ _ _ _)
      | (with_reducible exact ih2 _ _ _ _ _ _ _ _ _ _)
      | (with_reducible exact ih3 _ _ _ _ _)
      | (with_reducible exact ih4 _ _ _ _ _ _)
      | (with_reducible exact ih5 _ _ _ _ _ _ _)
      | (with_reducible exact billetlaw08_Binds.mono _ _)
      | (with_reducible exact billetlaw15_awake.mono _)
      | (with_reducible exact billetlaw15_count.mono _ _ _ _)
      | (with_reducible exact billetlaw15_once.mono _ _)
      | (with_reducible exact share_Trim.mono _ _ _ _ _)
      | (with_reducible exact LeO.refl _)
      | (with_reducible exact LeO.none _)
      | (with_reducible refine LeO.ite ?_ ?_)
      | (with_reducible refine LeO.bind ?_ (fun _ => ?_))
      | exact ih0 _ _ _ _ _
      | exact ih1 _ _ _ _ _ _ _
      | exact ih2 _ _ _ _ _ _ _ _ _ _
      | exact ih3 _ _ _ _ _
      | exact ih4 _ _ _ _ _ _
      | exact ih5 _ _ _ _ _ _ _
      | exact billetlaw08_Binds.mono _ _
      | exact billetlaw15_awake.mono _
      | exact billetlaw15_count.mono _ _ _ _
      | exact billetlaw15_once.mono _ _
      | exact share_Trim.mono _ _ _ _ _
      | exact LeO.none _
      | refine LeO.ite ?_ ?_
      | refine LeO.bind ?_ (fun _ => ?_)
    · intro y0 y1 y2 y3 y4
      unfold billetlaw15_ShareTrims.l3
      repeat' first
      | (with_reducible exact ih0 _ _ _ _ _)
      | (with_reducible exact ih1 _ _ _ _ _ _ _)
      | (with_reducible exact ih2 _ _ _ _ _ _ _ _ _ _)
      | (with_reducible exact ih3 _ _ _ _ _)
      | (with_reducible exact ih4 _ _ _ _ _ _)
      | (with_reducible exact ih5 _ _ _ _ _ _ _)
      | (with_reducible exact billetlaw08_Binds.mono _ _)
      | (with_reducible exact billetlaw15_awake.mono _)
      | (with_reducible exact billetlaw15_count.mono _ _ _ _)
      | (with_reducible exact billetlaw15_once.mono _ _)
      | (with_reducible exact share_Trim.mono _ _ _ _ _)
      | (with_reducible exact LeO.refl _)
      | (with_reducible exact LeO.none _)
      | (with_reducible refine LeO.ite ?_ ?_)
      | (with_reducible refine LeO.bind ?_ (fun _ => ?_))
      | exact ih0 _ _ _ _ _
      | exact ih1 _ _ _ _ _ _ _
      | exact ih2 _ _ _ _ _ _ _ _ _ _
      | exact ih3 _ _ _ _ _
      | exact ih4 _ _ _ _ _ _
      | exact ih5 _ _ _ _ _ _ _
      | exact billetlaw08_Binds.mono _ _
      | exact billetlaw15_awake.mono _
      | exact billetlaw15_count.mono _ _ _ _
      | exact billetlaw15_once.mono _ _
      | exact share_Trim.mono _ _ _ _ _
      | exact LeO.none _
      | refine LeO.ite ?_ ?_
      | refine LeO.bind ?_ (fun _ => ?_)
    · intro y0 y1 y2 y3 y4 y5
      unfold billetlaw15_ShareTrims.l4
      repeat' first
      | (with_reducible exact ih0 _ _ _ _ _)
      | (with_reducible exact ih1 _ _ _ _ _ _ _)
      | (with_reducible exact ih2 _ _ _ _ _ _ _ _ _ _)
      | (with_reducible exact ih3 _ _ _ _ _)
      | (with_reducible exact ih4 _ _ _ _ _ _)
      | (with_reducible exact ih5 _ _ _ _ _ _ _)
      | (with_reducible exact billetlaw08_Binds.mono _ _)
      | (with_reducible exact billetlaw15_awake.mono _)
      | (with_reducible exact billetlaw15_count.mono _ _ _ _)
      | (with_reducible exact billetlaw15_once.mono _ _)
      | (with_reducible exact share_Trim.mono _ _ _ _ _)
      | (with_reducible exact LeO.refl _)
      | (with_reducible exact LeO.none _)
      | (with_reducible refine LeO.ite ?_ ?_)
      | (with_reducible refine LeO.bind ?_ (fun _ => ?_))
      | exact ih0 _ _ _ _ _
      | exact ih1 _ _ _ _ _ _ _
      | exact ih2 _ _ _ _ _ _ _ _ _ _
      | exact ih3 _ _ _ _ _
      | exact ih4 _ _ _ _ _ _
      | exact ih5 _ _ _ _ _ _ _
      | exact billetlaw08_Binds.mono _ _
      | exact billetlaw15_awake.mono _
      | exact billetlaw15_count.mono _ _ _ _
      | exact billetlaw15_once.mono _ _
      | exact share_Trim.mono _ _ _ _ _
      | exact LeO.none _
      | refine LeO.ite ?_ ?_
      | refine LeO.bind ?_ (fun _ => ?_)
    · intro y0 y1 y2 y3 y4 y5 y6
      unfold billetlaw15_ShareTrims.l0
      repeat' first
      | (with_reducible exact ih0 _ _ _ _ _)
      | (with_reducible exact ih1 _ _ _ _ _ _ _)
      | (with_reducible exact ih2 _ _ _ _ _ _ _ _ _ _)
      | (with_reducible exact ih3 _ _ _ _ _)
      | (with_reducible exact ih4 _ _ _ _ _ _)
      | (with_reducible exact ih5 _ _ _ _ _ _ _)
      | (with_reducible exact billetlaw08_Binds.mono _ _)
      | (with_reducible exact billetlaw15_awake.mono _)
      | (with_reducible exact billetlaw15_count.mono _ _ _ _)
      | (with_reducible exact billetlaw15_once.mono _ _)
      | (with_reducible exact share_Trim.mono _ _ _ _ _)
      | (with_reducible exact LeO.refl _)
      | (with_reducible exact LeO.none _)
      | (with_reducible refine LeO.ite ?_ ?_)
      | (with_reducible refine LeO.bind ?_ (fun _ => ?_))
      | exact ih0 _ _ _ _ _
      | exact ih1 _ _ _ _ _ _ _
      | exact ih2 _ _ _ _ _ _ _ _ _ _
      | exact ih3 _ _ _ _ _
      | exact ih4 _ _ _ _ _ _
      | exact ih5 _ _ _ _ _ _ _
      | exact billetlaw08_Binds.mono _ _
      | exact billetlaw15_awake.mono _
      | exact billetlaw15_count.mono _ _ _ _
      | exact billetlaw15_once.mono _ _
      | exact share_Trim.mono _ _ _ _ _
      | exact LeO.none _
      | refine LeO.ite ?_ ?_
      | refine LeO.bind ?_ (fun _ => ?_)
theorem billetlaw15_ShareTrims.mono : ∀ a0 a1 a2 k, LeO (billetlaw15_ShareTrims.f k a0 a1 a2) (billetlaw15_ShareTrims.f (k + 1) a0 a1 a2) := by
  intro a0 a1 a2 k
  obtain ⟨ih0, ih1, ih2, ih3, ih4, ih5⟩ := billetlaw15_ShareTrims.mono_l k
  unfold billetlaw15_ShareTrims.f
  repeat' first
      | (with_reducible exact ih0 _ _ _ _ _)
      | (with_reducible exact ih1 _ _ _ _ _ _ _)
      | (with_reducible exact ih2 _ _ _ _ _ _ _ _ _ _)
      | (with_reducible exact ih3 _ _ _ _ _)
      | (with_reducible exact ih4 _ _ _ _ _ _)
      | (with_reducible exact ih5 _ _ _ _ _ _ _)
      | (with_reducible exact billetlaw08_Binds.mono _ _)
      | (with_reducible exact billetlaw15_awake.mono _)
      | (with_reducible exact billetlaw15_count.mono _ _ _ _)
      | (with_reducible exact billetlaw15_once.mono _ _)
      | (with_reducible exact share_Trim.mono _ _ _ _ _)
      | (with_reducible exact LeO.refl _)
      | (with_reducible exact LeO.none _)
      | (with_reducible refine LeO.ite ?_ ?_)
      | (with_reducible refine LeO.bind ?_ (fun _ => ?_))
      | exact ih0 _ _ _ _ _
      | exact ih1 _ _ _ _ _ _ _
      | exact ih2 _ _ _ _ _ _ _ _ _ _
      | exact ih3 _ _ _ _ _
      | exact ih4 _ _ _ _ _ _
      | exact ih5 _ _ _ _ _ _ _
      | exact billetlaw08_Binds.mono _ _
      | exact billetlaw15_awake.mono _
      | exact billetlaw15_count.mono _ _ _ _
      | exact billetlaw15_once.mono _ _
      | exact share_Trim.mono _ _ _ _ _
      | exact LeO.none _
      | refine LeO.ite ?_ ?_
      | refine LeO.bind ?_ (fun _ => ?_)
set_option maxHeartbeats 8000000 in
set_option maxRecDepth 100000 in
theorem billetlaw15_ShareTrims.calls (k : Nat) (A0 : Option Addr) (c0 : Nat) (l0 : List Int) (A1 : Option Addr) (c1 : Nat) (l1 : List Int) (A2 : Option Addr) (c2 : Nat) (l2 : List Int) (r : Bool) (w : World) (hr0 : Kd.C (Kd.int .i64) w A0 l0.length l0) (hc0 : l0.length ≤ c0) (hr1 : Kd.C (Kd.int .i64) w A1 l1.length l1) (hc1 : l1.length ≤ c1) (hr2 : Kd.C (Kd.int .i64) w A2 l2.length l2) (hc2 : l2.length ≤ c2) (h : billetlaw15_ShareTrims.f k l0 l1 l2 = some r) :
    Calls Try.prog 6 #[.slice A0 l0.length c0, .slice A1 l1.length c1, .slice A2 l2.length c2] w fun e w' => e = .returned (.bool r) ∧ Below w.heap.size w w' := by
  have HR0 := Aside0.mk hr0
  have HC0 := Aside0.mk hc0
  clear hr0 hc0
  have HR1 := Aside0.mk hr1
  have HC1 := Aside0.mk hc1
  clear hr1 hc1
  have HR2 := Aside0.mk hr2
  have HC2 := Aside0.mk hc2
  clear hr2 hc2
  have HB := Aside0.mk (Below.refl w.heap.size w)
  have H : ((billetlaw15_awake.f k).bind fun t402 => ((billetlaw08_Binds.f k l0).bind fun t403 => ((billetlaw15_once.f k t403).bind fun t406 => ((billetlaw08_Binds.f k l1).bind fun t409 => ((billetlaw15_once.f k t409).bind fun t412 => (if 8 ≤ 35184372088832 then (billetlaw15_ShareTrims.l0 k l2 t402 t406 t412 (([(⟨#[119, 97]⟩ : ByteArray), (⟨#[119, 98]⟩ : ByteArray), (⟨#[119, 99]⟩ : ByteArray), (⟨#[119, 100]⟩ : ByteArray), (⟨#[119, 101]⟩ : ByteArray), (⟨#[119, 102]⟩ : ByteArray), (⟨#[119, 103]⟩ : ByteArray), (⟨#[119, 104]⟩ : ByteArray)] : List ByteArray)) (List.replicate 8 0) 0) else (none))))))) = some r := h
  clear h
  replace H := Option.bind_eq_some_iff.mp H
  obtain ⟨t402, A40, H⟩ := H
  replace H : ((billetlaw08_Binds.f k l0).bind fun t403 => ((billetlaw15_once.f k t403).bind fun t406 => ((billetlaw08_Binds.f k l1).bind fun t409 => ((billetlaw15_once.f k t409).bind fun t412 => (if 8 ≤ 35184372088832 then (billetlaw15_ShareTrims.l0 k l2 t402 t406 t412 (([(⟨#[119, 97]⟩ : ByteArray), (⟨#[119, 98]⟩ : ByteArray), (⟨#[119, 99]⟩ : ByteArray), (⟨#[119, 100]⟩ : ByteArray), (⟨#[119, 101]⟩ : ByteArray), (⟨#[119, 102]⟩ : ByteArray), (⟨#[119, 103]⟩ : ByteArray), (⟨#[119, 104]⟩ : ByteArray)] : List ByteArray)) (List.replicate 8 0) 0) else (none)))))) = some r := H
  have A4 := Aside0.mk A40
  clear A40
  replace H := Option.bind_eq_some_iff.mp H
  obtain ⟨t403, A50, H⟩ := H
  replace H : ((billetlaw15_once.f k t403).bind fun t406 => ((billetlaw08_Binds.f k l1).bind fun t409 => ((billetlaw15_once.f k t409).bind fun t412 => (if 8 ≤ 35184372088832 then (billetlaw15_ShareTrims.l0 k l2 t402 t406 t412 (([(⟨#[119, 97]⟩ : ByteArray), (⟨#[119, 98]⟩ : ByteArray), (⟨#[119, 99]⟩ : ByteArray), (⟨#[119, 100]⟩ : ByteArray), (⟨#[119, 101]⟩ : ByteArray), (⟨#[119, 102]⟩ : ByteArray), (⟨#[119, 103]⟩ : ByteArray), (⟨#[119, 104]⟩ : ByteArray)] : List ByteArray)) (List.replicate 8 0) 0) else (none))))) = some r := H
  have A5 := Aside0.mk A50
  clear A50
  replace H := Option.bind_eq_some_iff.mp H
  obtain ⟨t406, A60, H⟩ := H
  replace H : ((billetlaw08_Binds.f k l1).bind fun t409 => ((billetlaw15_once.f k t409).bind fun t412 => (if 8 ≤ 35184372088832 then (billetlaw15_ShareTrims.l0 k l2 t402 t406 t412 (([(⟨#[119, 97]⟩ : ByteArray), (⟨#[119, 98]⟩ : ByteArray), (⟨#[119, 99]⟩ : ByteArray), (⟨#[119, 100]⟩ : ByteArray), (⟨#[119, 101]⟩ : ByteArray), (⟨#[119, 102]⟩ : ByteArray), (⟨#[119, 103]⟩ : ByteArray), (⟨#[119, 104]⟩ : ByteArray)] : List ByteArray)) (List.replicate 8 0) 0) else (none)))) = some r := H
  have A6 := Aside0.mk A60
  clear A60
  replace H := Option.bind_eq_some_iff.mp H
  obtain ⟨t409, A70, H⟩ := H
  replace H : ((billetlaw15_once.f k t409).bind fun t412 => (if 8 ≤ 35184372088832 then (billetlaw15_ShareTrims.l0 k l2 t402 t406 t412 (([(⟨#[119, 97]⟩ : ByteArray), (⟨#[119, 98]⟩ : ByteArray), (⟨#[119, 99]⟩ : ByteArray), (⟨#[119, 100]⟩ : ByteArray), (⟨#[119, 101]⟩ : ByteArray), (⟨#[119, 102]⟩ : ByteArray), (⟨#[119, 103]⟩ : ByteArray), (⟨#[119, 104]⟩ : ByteArray)] : List ByteArray)) (List.replicate 8 0) 0) else (none))) = some r := H
  have A7 := Aside0.mk A70
  clear A70
  replace H := Option.bind_eq_some_iff.mp H
  obtain ⟨t412, A80, H⟩ := H
  replace H : (if 8 ≤ 35184372088832 then (billetlaw15_ShareTrims.l0 k l2 t402 t406 t412 (([(⟨#[119, 97]⟩ : ByteArray), (⟨#[119, 98]⟩ : ByteArray), (⟨#[119, 99]⟩ : ByteArray), (⟨#[119, 100]⟩ : ByteArray), (⟨#[119, 101]⟩ : ByteArray), (⟨#[119, 102]⟩ : ByteArray), (⟨#[119, 103]⟩ : ByteArray), (⟨#[119, 104]⟩ : ByteArray)] : List ByteArray)) (List.replicate 8 0) 0) else (none)) = some r := H
  have A8 := Aside0.mk A80
  clear A80
  obtain ⟨y415, hy415⟩ : ∃ y_ : List ByteArray, y_ = (([(⟨#[119, 97]⟩ : ByteArray), (⟨#[119, 98]⟩ : ByteArray), (⟨#[119, 99]⟩ : ByteArray), (⟨#[119, 100]⟩ : ByteArray), (⟨#[119, 101]⟩ : ByteArray), (⟨#[119, 102]⟩ : ByteArray), (⟨#[119, 103]⟩ : ByteArray), (⟨#[119, 104]⟩ : ByteArray)] : List ByteArray)) := ⟨_, rfl⟩
  replace H : (if 8 ≤ 35184372088832 then (billetlaw15_ShareTrims.l0 k l2 t402 t406 t412 y415 (List.replicate 8 0) 0) else (none)) = some r := by first | (rw [hy415]; with_reducible exact H) | (have H2_ := (Option.bind_some _ _).symm.trans H; rw [hy415]; with_reducible exact H2_) | (have H2_ := (Option.bind_some _ _).symm.trans H; with_reducible exact H2_) | with_reducible exact H | (rw [hy415]; exact H) | exact H
  have Ny415 := Aside0.mk hy415
  clear hy415
  by_cases c9 : 8 ≤ 35184372088832
  · rw [if_pos c9] at H
    have c9b0 := eq_true c9
    have c9b1 : decide (8 ≤ 35184372088832) = true := decide_eq_true c9
    clear c9
    obtain ⟨y418, hy418⟩ : ∃ y_ : List Int, y_ = (List.replicate 8 0) := ⟨_, rfl⟩
    replace H : (billetlaw15_ShareTrims.l0 k l2 t402 t406 t412 y415 y418 0) = some r := by first | (rw [hy418]; with_reducible exact H) | (have H2_ := (Option.bind_some _ _).symm.trans H; rw [hy418]; with_reducible exact H2_) | (have H2_ := (Option.bind_some _ _).symm.trans H; with_reducible exact H2_) | with_reducible exact H | (rw [hy418]; exact H) | exact H
    have Ny418 := Aside0.mk hy418
    clear hy418
    have HC10 := Aside0.mk H
    clear H
    go_enter Try.func6, Try.ntmps6
    go_upto_block 0 with (first | (go_at_call 10; (with_reducible refine (billetlaw15_awake.calls k  t402 _ A4.out).mono ?_); rintro e w11 ⟨rfl, hb⟩; have n0_ := Aside0.mk (below_step (by repeat (first | (with_reducible first | exact HB.out | apply below_alloc | apply pw_below_drewN | apply below_drew1) | exact HB.out)) hb); clear HB; have HB := n0_; clear n0_; (try clear hb); (try clear hb2); (try clear hk); (try clear hi)) | (go_at_call 20; (with_reducible refine (billetlaw08_Binds.calls k _ _ l0 t403 _ ?side1 ?side2 A5.out).mono ?_); (case side1 => repeat (first | exact (Kd.C_below HR0.out HB.out) | (with_reducible refine Kd.C_alloc ?_ _) | (with_reducible refine Kd.C_drewN ?_ _) | (with_reducible refine Kd.C_drew ?_))); (case side2 => exact HC0.out); rintro e w12 ⟨v404, rfl, ho0, hb⟩; have n0_ := Aside0.mk (Kd.R_lower ho0 (below_size (by repeat (first | (with_reducible first | exact HB.out | apply below_alloc | apply pw_below_drewN | apply below_drew1) | exact HB.out)))); have n1_ := Aside0.mk (below_step (by repeat (first | (with_reducible first | exact HB.out | apply below_alloc | apply pw_below_drewN | apply below_drew1) | exact HB.out)) hb); clear HB; have HO405 := n0_; have HB := n1_; clear n0_ n1_; (try clear hb); (try clear hb2); (try clear hk); (try clear hi); (try clear ho0); obtain ⟨Ao13, co13, eo13⟩ := Kd.R_slice HO405.out; subst eo13) | (go_at_call 19; (with_reducible refine (billetlaw15_once.calls k _ _ t403 t406 _ ?side1 ?side2 A6.out).mono ?_); (case side1 => repeat (first | exact (Kd.R_reads' HO405.out).2.2 | (with_reducible refine Kd.C_alloc ?_ _) | (with_reducible refine Kd.C_drewN ?_ _) | (with_reducible refine Kd.C_drew ?_))); (case side2 => exact (Kd.R_reads' HO405.out).2.1); rintro e w14 ⟨v407, rfl, ho0, hb⟩; have n0_ := Aside0.mk (Kd.R_elder' (by (with_reducible repeat (first | apply Kd.R_alloc | apply Kd.R_drewN | apply Kd.R_drew)); exact HO405.out) (Kd.R_base ho0) hb); have n1_ := Aside0.mk (Kd.R_lower (Kd.R_new' ho0 (Kd.R_lt (by (with_reducible repeat (first | apply Kd.R_alloc | apply Kd.R_drewN | apply Kd.R_drew)); exact HO405.out))) (below_size (by repeat (first | (with_reducible first | exact HB.out | apply below_alloc | apply pw_below_drewN | apply below_drew1) | exact HB.out)))); have n2_ := Aside0.mk (below_step (by repeat (first | (with_reducible first | exact HB.out | apply below_alloc | apply pw_below_drewN | apply below_drew1) | exact HB.out)) hb); clear HO405; clear HB; have HO405 := n0_; have HO408 := n1_; have HB := n2_; clear n0_ n1_ n2_; (try clear hb); (try clear hb2); (try clear hk); (try clear hi); (try clear ho0)) | (go_at_call 20; (with_reducible refine (billetlaw08_Binds.calls k _ _ l1 t409 _ ?side1 ?side2 A7.out).mono ?_); (case side1 => repeat (first | exact (Kd.C_below HR1.out HB.out) | (with_reducible refine Kd.C_alloc ?_ _) | (with_reducible refine Kd.C_drewN ?_ _) | (with_reducible refine Kd.C_drew ?_))); (case side2 => exact HC1.out); rintro e w15 ⟨v410, rfl, ho0, hb⟩; have n0_ := Aside0.mk (Kd.R_elder' (by (with_reducible repeat (first | apply Kd.R_alloc | apply Kd.R_drewN | apply Kd.R_drew)); exact HO405.out) (Kd.R_base ho0) hb); have n1_ := Aside0.mk (Kd.R_elder' (by (with_reducible repeat (first | apply Kd.R_alloc | apply Kd.R_drewN | apply Kd.R_drew)); exact HO408.out) (Kd.R_base ho0) hb); have n2_ := Aside0.mk (Kd.R_lower (Kd.R_new' (Kd.R_new' ho0 (Kd.R_lt (by (with_reducible repeat (first | apply Kd.R_alloc | apply Kd.R_drewN | apply Kd.R_drew)); exact HO405.out))) (Kd.R_lt (by (with_reducible repeat (first | apply Kd.R_alloc | apply Kd.R_drewN | apply Kd.R_drew)); exact HO408.out))) (below_size (by repeat (first | (with_reducible first | exact HB.out | apply below_alloc | apply pw_below_drewN | apply below_drew1) | exact HB.out)))); have n3_ := Aside0.mk (below_step (by repeat (first | (with_reducible first | exact HB.out | apply below_alloc | apply pw_below_drewN | apply below_drew1) | exact HB.out)) hb); clear HO405; clear HO408; clear HB; have HO405 := n0_; have HO408 := n1_; have HO411 := n2_; have HB := n3_; clear n0_ n1_ n2_ n3_; (try clear hb); (try clear hb2); (try clear hk); (try clear hi); (try clear ho0); obtain ⟨Ao16, co16, eo16⟩ := Kd.R_slice HO411.out; subst eo16) | (go_at_call 19; (with_reducible refine (billetlaw15_once.calls k _ _ t409 t412 _ ?side1 ?side2 A8.out).mono ?_); (case side1 => repeat (first | exact (Kd.R_reads' HO411.out).2.2 | (with_reducible refine Kd.C_alloc ?_ _) | (with_reducible refine Kd.C_drewN ?_ _) | (with_reducible refine Kd.C_drew ?_))); (case side2 => exact (Kd.R_reads' HO411.out).2.1); rintro e w17 ⟨v413, rfl, ho0, hb⟩; have n0_ := Aside0.mk (Kd.R_elder' (by (with_reducible repeat (first | apply Kd.R_alloc | apply Kd.R_drewN | apply Kd.R_drew)); exact HO405.out) (Kd.R_base ho0) hb); have n1_ := Aside0.mk (Kd.R_elder' (by (with_reducible repeat (first | apply Kd.R_alloc | apply Kd.R_drewN | apply Kd.R_drew)); exact HO408.out) (Kd.R_base ho0) hb); have n2_ := Aside0.mk (Kd.R_elder' (by (with_reducible repeat (first | apply Kd.R_alloc | apply Kd.R_drewN | apply Kd.R_drew)); exact HO411.out) (Kd.R_base ho0) hb); have n3_ := Aside0.mk (Kd.R_lower (Kd.R_new' (Kd.R_new' (Kd.R_new' ho0 (Kd.R_lt (by (with_reducible repeat (first | apply Kd.R_alloc | apply Kd.R_drewN | apply Kd.R_drew)); exact HO405.out))) (Kd.R_lt (by (with_reducible repeat (first | apply Kd.R_alloc | apply Kd.R_drewN | apply Kd.R_drew)); exact HO408.out))) (Kd.R_lt (by (with_reducible repeat (first | apply Kd.R_alloc | apply Kd.R_drewN | apply Kd.R_drew)); exact HO411.out))) (below_size (by repeat (first | (with_reducible first | exact HB.out | apply below_alloc | apply pw_below_drewN | apply below_drew1) | exact HB.out)))); have n4_ := Aside0.mk (below_step (by repeat (first | (with_reducible first | exact HB.out | apply below_alloc | apply pw_below_drewN | apply below_drew1) | exact HB.out)) hb); clear HO405; clear HO408; clear HO411; clear HB; have HO405 := n0_; have HO408 := n1_; have HO411 := n2_; have HO414 := n3_; have HB := n4_; clear n0_ n1_ n2_ n3_ n4_; (try clear hb); (try clear hb2); (try clear hk); (try clear hi); (try clear ho0)) | ((with_reducible refine gate_dst (N := 30) rfl ?_); (try (refine gate_guard (by rfl) ?_; dsimp only)); refine Kd.R_lit Kd.string _ 9 ?hg (N := 30) ?hd (xs := ([(⟨#[119, 97]⟩ : ByteArray), (⟨#[119, 98]⟩ : ByteArray), (⟨#[119, 99]⟩ : ByteArray), (⟨#[119, 100]⟩ : ByteArray), (⟨#[119, 101]⟩ : ByteArray), (⟨#[119, 102]⟩ : ByteArray), (⟨#[119, 103]⟩ : ByteArray), (⟨#[119, 104]⟩ : ByteArray)] : List ByteArray)) (inner := [.string (⟨#[119, 97]⟩ : ByteArray), .string (⟨#[119, 98]⟩ : ByteArray), .string (⟨#[119, 99]⟩ : ByteArray), .string (⟨#[119, 100]⟩ : ByteArray), .string (⟨#[119, 101]⟩ : ByteArray), .string (⟨#[119, 102]⟩ : ByteArray), .string (⟨#[119, 103]⟩ : ByteArray), .string (⟨#[119, 104]⟩ : ByteArray)]) (ok := fun _ => True) (okp := fun _ => True) ?hr ?hp (fun _ hk => hk) trivial (Below.refl _ _) (Nat.le_refl _) (by simp) ?_; (case hd => rfl); (case hg => rfl); (case hr => first | (go_simp; done) | (go_simp; rfl)); (case hp => exact (Reps.one (show Kd.M Kd.string _ _ _ (⟨#[119, 97]⟩ : ByteArray) [.string (⟨#[119, 97]⟩ : ByteArray)] from rfl) (Reps.one (show Kd.M Kd.string _ _ _ (⟨#[119, 98]⟩ : ByteArray) [.string (⟨#[119, 98]⟩ : ByteArray)] from rfl) (Reps.one (show Kd.M Kd.string _ _ _ (⟨#[119, 99]⟩ : ByteArray) [.string (⟨#[119, 99]⟩ : ByteArray)] from rfl) (Reps.one (show Kd.M Kd.string _ _ _ (⟨#[119, 100]⟩ : ByteArray) [.string (⟨#[119, 100]⟩ : ByteArray)] from rfl) (Reps.one (show Kd.M Kd.string _ _ _ (⟨#[119, 101]⟩ : ByteArray) [.string (⟨#[119, 101]⟩ : ByteArray)] from rfl) (Reps.one (show Kd.M Kd.string _ _ _ (⟨#[119, 102]⟩ : ByteArray) [.string (⟨#[119, 102]⟩ : ByteArray)] from rfl) (Reps.one (show Kd.M Kd.string _ _ _ (⟨#[119, 103]⟩ : ByteArray) [.string (⟨#[119, 103]⟩ : ByteArray)] from rfl) (Reps.one (show Kd.M Kd.string _ _ _ (⟨#[119, 104]⟩ : ByteArray) [.string (⟨#[119, 104]⟩ : ByteArray)] from rfl) (Reps.none _ _)))))))))); intro v416 w18 ho19 hb hg_ hnew_; clear hg_ hnew_; (first | rw [← Ny415.out] at ho19 | (simp only [Int.reduceToNat] at ho19; rw [← Ny415.out] at ho19)); have n0_ := Aside0.mk (Kd.R_below (by (with_reducible repeat (first | apply Kd.R_alloc | apply Kd.R_drewN | apply Kd.R_drew)); exact HO405.out) hb); have n1_ := Aside0.mk (Kd.R_below (by (with_reducible repeat (first | apply Kd.R_alloc | apply Kd.R_drewN | apply Kd.R_drew)); exact HO408.out) hb); have n2_ := Aside0.mk (Kd.R_below (by (with_reducible repeat (first | apply Kd.R_alloc | apply Kd.R_drewN | apply Kd.R_drew)); exact HO411.out) hb); have n3_ := Aside0.mk (Kd.R_below (by (with_reducible repeat (first | apply Kd.R_alloc | apply Kd.R_drewN | apply Kd.R_drew)); exact HO414.out) hb); have n4_ := Aside0.mk (Kd.R_lower ho19 (below_size (by repeat (first | (with_reducible first | exact HB.out | apply below_alloc | apply pw_below_drewN | apply below_drew1) | exact HB.out)))); have n5_ := Aside0.mk (below_step (by repeat (first | (with_reducible first | exact HB.out | apply below_alloc | apply pw_below_drewN | apply below_drew1) | exact HB.out)) hb); clear HO405; clear HO408; clear HO411; clear HO414; clear HB; have HO405 := n0_; have HO408 := n1_; have HO411 := n2_; have HO414 := n3_; have HO417 := n4_; have HB := n5_; clear n0_ n1_ n2_ n3_ n4_ n5_; clear hb ho19) | ((with_reducible refine gate_dst (N := 31) rfl ?_); (try (refine gate_guard (by rfl) ?_; dsimp only)); refine Kd.R_make (Kd.int .i64) _ 3 rfl (N := 31) rfl 22 _ _ rfl 8 rfl rfl Try.underlying22 (.int .i64 0) 8 info3 rfl (by decide) (by omega) 0 (ok := fun _ => True) (okp := fun _ => True) rfl (fun _ hk => hk) trivial (by omega) (by omega) (Below.refl _ _) (Nat.le_refl _) ?_; intro v419 w20 ho21 hb hg_ hnew_; clear hg_ hnew_; (first | rw [← Ny418.out] at ho21 | (simp only [Int.reduceToNat] at ho21; rw [← Ny418.out] at ho21)); have n0_ := Aside0.mk (Kd.R_below (by (with_reducible repeat (first | apply Kd.R_alloc | apply Kd.R_drewN | apply Kd.R_drew)); exact HO405.out) hb); have n1_ := Aside0.mk (Kd.R_below (by (with_reducible repeat (first | apply Kd.R_alloc | apply Kd.R_drewN | apply Kd.R_drew)); exact HO408.out) hb); have n2_ := Aside0.mk (Kd.R_below (by (with_reducible repeat (first | apply Kd.R_alloc | apply Kd.R_drewN | apply Kd.R_drew)); exact HO411.out) hb); have n3_ := Aside0.mk (Kd.R_below (by (with_reducible repeat (first | apply Kd.R_alloc | apply Kd.R_drewN | apply Kd.R_drew)); exact HO414.out) hb); have n4_ := Aside0.mk (Kd.R_below (by (with_reducible repeat (first | apply Kd.R_alloc | apply Kd.R_drewN | apply Kd.R_drew)); exact HO417.out) hb); have n5_ := Aside0.mk (Kd.R_lower ho21 (below_size (by repeat (first | (with_reducible first | exact HB.out | apply below_alloc | apply pw_below_drewN | apply below_drew1) | exact HB.out)))); have n6_ := Aside0.mk (below_step (by repeat (first | (with_reducible first | exact HB.out | apply below_alloc | apply pw_below_drewN | apply below_drew1) | exact HB.out)) hb); clear HO405; clear HO408; clear HO411; clear HO414; clear HO417; clear HB; have HO405 := n0_; have HO408 := n1_; have HO411 := n2_; have HO414 := n3_; have HO417 := n4_; have HO420 := n5_; have HB := n6_; clear n0_ n1_ n2_ n3_ n4_ n5_ n6_; clear hb ho21))
    repeat (go_quiet (first | (go_at_call 10; (with_reducible refine (billetlaw15_awake.calls k  t402 _ A4.out).mono ?_); rintro e w11 ⟨rfl, hb⟩; have n0_ := Aside0.mk (below_step (by repeat (first | (with_reducible first | exact HB.out | apply below_alloc | apply pw_below_drewN | apply below_drew1) | exact HB.out)) hb); clear HB; have HB := n0_; clear n0_; (try clear hb); (try clear hb2); (try clear hk); (try clear hi)) | (go_at_call 20; (with_reducible refine (billetlaw08_Binds.calls k _ _ l0 t403 _ ?side1 ?side2 A5.out).mono ?_); (case side1 => repeat (first | exact (Kd.C_below HR0.out HB.out) | (with_reducible refine Kd.C_alloc ?_ _) | (with_reducible refine Kd.C_drewN ?_ _) | (with_reducible refine Kd.C_drew ?_))); (case side2 => exact HC0.out); rintro e w12 ⟨v404, rfl, ho0, hb⟩; have n0_ := Aside0.mk (Kd.R_lower ho0 (below_size (by repeat (first | (with_reducible first | exact HB.out | apply below_alloc | apply pw_below_drewN | apply below_drew1) | exact HB.out)))); have n1_ := Aside0.mk (below_step (by repeat (first | (with_reducible first | exact HB.out | apply below_alloc | apply pw_below_drewN | apply below_drew1) | exact HB.out)) hb); clear HB; have HO405 := n0_; have HB := n1_; clear n0_ n1_; (try clear hb); (try clear hb2); (try clear hk); (try clear hi); (try clear ho0); obtain ⟨Ao13, co13, eo13⟩ := Kd.R_slice HO405.out; subst eo13) | (go_at_call 19; (with_reducible refine (billetlaw15_once.calls k _ _ t403 t406 _ ?side1 ?side2 A6.out).mono ?_); (case side1 => repeat (first | exact (Kd.R_reads' HO405.out).2.2 | (with_reducible refine Kd.C_alloc ?_ _) | (with_reducible refine Kd.C_drewN ?_ _) | (with_reducible refine Kd.C_drew ?_))); (case side2 => exact (Kd.R_reads' HO405.out).2.1); rintro e w14 ⟨v407, rfl, ho0, hb⟩; have n0_ := Aside0.mk (Kd.R_elder' (by (with_reducible repeat (first | apply Kd.R_alloc | apply Kd.R_drewN | apply Kd.R_drew)); exact HO405.out) (Kd.R_base ho0) hb); have n1_ := Aside0.mk (Kd.R_lower (Kd.R_new' ho0 (Kd.R_lt (by (with_reducible repeat (first | apply Kd.R_alloc | apply Kd.R_drewN | apply Kd.R_drew)); exact HO405.out))) (below_size (by repeat (first | (with_reducible first | exact HB.out | apply below_alloc | apply pw_below_drewN | apply below_drew1) | exact HB.out)))); have n2_ := Aside0.mk (below_step (by repeat (first | (with_reducible first | exact HB.out | apply below_alloc | apply pw_below_drewN | apply below_drew1) | exact HB.out)) hb); clear HO405; clear HB; have HO405 := n0_; have HO408 := n1_; have HB := n2_; clear n0_ n1_ n2_; (try clear hb); (try clear hb2); (try clear hk); (try clear hi); (try clear ho0)) | (go_at_call 20; (with_reducible refine (billetlaw08_Binds.calls k _ _ l1 t409 _ ?side1 ?side2 A7.out).mono ?_); (case side1 => repeat (first | exact (Kd.C_below HR1.out HB.out) | (with_reducible refine Kd.C_alloc ?_ _) | (with_reducible refine Kd.C_drewN ?_ _) | (with_reducible refine Kd.C_drew ?_))); (case side2 => exact HC1.out); rintro e w15 ⟨v410, rfl, ho0, hb⟩; have n0_ := Aside0.mk (Kd.R_elder' (by (with_reducible repeat (first | apply Kd.R_alloc | apply Kd.R_drewN | apply Kd.R_drew)); exact HO405.out) (Kd.R_base ho0) hb); have n1_ := Aside0.mk (Kd.R_elder' (by (with_reducible repeat (first | apply Kd.R_alloc | apply Kd.R_drewN | apply Kd.R_drew)); exact HO408.out) (Kd.R_base ho0) hb); have n2_ := Aside0.mk (Kd.R_lower (Kd.R_new' (Kd.R_new' ho0 (Kd.R_lt (by (with_reducible repeat (first | apply Kd.R_alloc | apply Kd.R_drewN | apply Kd.R_drew)); exact HO405.out))) (Kd.R_lt (by (with_reducible repeat (first | apply Kd.R_alloc | apply Kd.R_drewN | apply Kd.R_drew)); exact HO408.out))) (below_size (by repeat (first | (with_reducible first | exact HB.out | apply below_alloc | apply pw_below_drewN | apply below_drew1) | exact HB.out)))); have n3_ := Aside0.mk (below_step (by repeat (first | (with_reducible first | exact HB.out | apply below_alloc | apply pw_below_drewN | apply below_drew1) | exact HB.out)) hb); clear HO405; clear HO408; clear HB; have HO405 := n0_; have HO408 := n1_; have HO411 := n2_; have HB := n3_; clear n0_ n1_ n2_ n3_; (try clear hb); (try clear hb2); (try clear hk); (try clear hi); (try clear ho0); obtain ⟨Ao16, co16, eo16⟩ := Kd.R_slice HO411.out; subst eo16) | (go_at_call 19; (with_reducible refine (billetlaw15_once.calls k _ _ t409 t412 _ ?side1 ?side2 A8.out).mono ?_); (case side1 => repeat (first | exact (Kd.R_reads' HO411.out).2.2 | (with_reducible refine Kd.C_alloc ?_ _) | (with_reducible refine Kd.C_drewN ?_ _) | (with_reducible refine Kd.C_drew ?_))); (case side2 => exact (Kd.R_reads' HO411.out).2.1); rintro e w17 ⟨v413, rfl, ho0, hb⟩; have n0_ := Aside0.mk (Kd.R_elder' (by (with_reducible repeat (first | apply Kd.R_alloc | apply Kd.R_drewN | apply Kd.R_drew)); exact HO405.out) (Kd.R_base ho0) hb); have n1_ := Aside0.mk (Kd.R_elder' (by (with_reducible repeat (first | apply Kd.R_alloc | apply Kd.R_drewN | apply Kd.R_drew)); exact HO408.out) (Kd.R_base ho0) hb); have n2_ := Aside0.mk (Kd.R_elder' (by (with_reducible repeat (first | apply Kd.R_alloc | apply Kd.R_drewN | apply Kd.R_drew)); exact HO411.out) (Kd.R_base ho0) hb); have n3_ := Aside0.mk (Kd.R_lower (Kd.R_new' (Kd.R_new' (Kd.R_new' ho0 (Kd.R_lt (by (with_reducible repeat (first | apply Kd.R_alloc | apply Kd.R_drewN | apply Kd.R_drew)); exact HO405.out))) (Kd.R_lt (by (with_reducible repeat (first | apply Kd.R_alloc | apply Kd.R_drewN | apply Kd.R_drew)); exact HO408.out))) (Kd.R_lt (by (with_reducible repeat (first | apply Kd.R_alloc | apply Kd.R_drewN | apply Kd.R_drew)); exact HO411.out))) (below_size (by repeat (first | (with_reducible first | exact HB.out | apply below_alloc | apply pw_below_drewN | apply below_drew1) | exact HB.out)))); have n4_ := Aside0.mk (below_step (by repeat (first | (with_reducible first | exact HB.out | apply below_alloc | apply pw_below_drewN | apply below_drew1) | exact HB.out)) hb); clear HO405; clear HO408; clear HO411; clear HB; have HO405 := n0_; have HO408 := n1_; have HO411 := n2_; have HO414 := n3_; have HB := n4_; clear n0_ n1_ n2_ n3_ n4_; (try clear hb); (try clear hb2); (try clear hk); (try clear hi); (try clear ho0)) | ((with_reducible refine gate_dst (N := 30) rfl ?_); (try (refine gate_guard (by rfl) ?_; dsimp only)); refine Kd.R_lit Kd.string _ 9 ?hg (N := 30) ?hd (xs := ([(⟨#[119, 97]⟩ : ByteArray), (⟨#[119, 98]⟩ : ByteArray), (⟨#[119, 99]⟩ : ByteArray), (⟨#[119, 100]⟩ : ByteArray), (⟨#[119, 101]⟩ : ByteArray), (⟨#[119, 102]⟩ : ByteArray), (⟨#[119, 103]⟩ : ByteArray), (⟨#[119, 104]⟩ : ByteArray)] : List ByteArray)) (inner := [.string (⟨#[119, 97]⟩ : ByteArray), .string (⟨#[119, 98]⟩ : ByteArray), .string (⟨#[119, 99]⟩ : ByteArray), .string (⟨#[119, 100]⟩ : ByteArray), .string (⟨#[119, 101]⟩ : ByteArray), .string (⟨#[119, 102]⟩ : ByteArray), .string (⟨#[119, 103]⟩ : ByteArray), .string (⟨#[119, 104]⟩ : ByteArray)]) (ok := fun _ => True) (okp := fun _ => True) ?hr ?hp (fun _ hk => hk) trivial (Below.refl _ _) (Nat.le_refl _) (by simp) ?_; (case hd => rfl); (case hg => rfl); (case hr => first | (go_simp; done) | (go_simp; rfl)); (case hp => exact (Reps.one (show Kd.M Kd.string _ _ _ (⟨#[119, 97]⟩ : ByteArray) [.string (⟨#[119, 97]⟩ : ByteArray)] from rfl) (Reps.one (show Kd.M Kd.string _ _ _ (⟨#[119, 98]⟩ : ByteArray) [.string (⟨#[119, 98]⟩ : ByteArray)] from rfl) (Reps.one (show Kd.M Kd.string _ _ _ (⟨#[119, 99]⟩ : ByteArray) [.string (⟨#[119, 99]⟩ : ByteArray)] from rfl) (Reps.one (show Kd.M Kd.string _ _ _ (⟨#[119, 100]⟩ : ByteArray) [.string (⟨#[119, 100]⟩ : ByteArray)] from rfl) (Reps.one (show Kd.M Kd.string _ _ _ (⟨#[119, 101]⟩ : ByteArray) [.string (⟨#[119, 101]⟩ : ByteArray)] from rfl) (Reps.one (show Kd.M Kd.string _ _ _ (⟨#[119, 102]⟩ : ByteArray) [.string (⟨#[119, 102]⟩ : ByteArray)] from rfl) (Reps.one (show Kd.M Kd.string _ _ _ (⟨#[119, 103]⟩ : ByteArray) [.string (⟨#[119, 103]⟩ : ByteArray)] from rfl) (Reps.one (show Kd.M Kd.string _ _ _ (⟨#[119, 104]⟩ : ByteArray) [.string (⟨#[119, 104]⟩ : ByteArray)] from rfl) (Reps.none _ _)))))))))); intro v416 w18 ho19 hb hg_ hnew_; clear hg_ hnew_; (first | rw [← Ny415.out] at ho19 | (simp only [Int.reduceToNat] at ho19; rw [← Ny415.out] at ho19)); have n0_ := Aside0.mk (Kd.R_below (by (with_reducible repeat (first | apply Kd.R_alloc | apply Kd.R_drewN | apply Kd.R_drew)); exact HO405.out) hb); have n1_ := Aside0.mk (Kd.R_below (by (with_reducible repeat (first | apply Kd.R_alloc | apply Kd.R_drewN | apply Kd.R_drew)); exact HO408.out) hb); have n2_ := Aside0.mk (Kd.R_below (by (with_reducible repeat (first | apply Kd.R_alloc | apply Kd.R_drewN | apply Kd.R_drew)); exact HO411.out) hb); have n3_ := Aside0.mk (Kd.R_below (by (with_reducible repeat (first | apply Kd.R_alloc | apply Kd.R_drewN | apply Kd.R_drew)); exact HO414.out) hb); have n4_ := Aside0.mk (Kd.R_lower ho19 (below_size (by repeat (first | (with_reducible first | exact HB.out | apply below_alloc | apply pw_below_drewN | apply below_drew1) | exact HB.out)))); have n5_ := Aside0.mk (below_step (by repeat (first | (with_reducible first | exact HB.out | apply below_alloc | apply pw_below_drewN | apply below_drew1) | exact HB.out)) hb); clear HO405; clear HO408; clear HO411; clear HO414; clear HB; have HO405 := n0_; have HO408 := n1_; have HO411 := n2_; have HO414 := n3_; have HO417 := n4_; have HB := n5_; clear n0_ n1_ n2_ n3_ n4_ n5_; clear hb ho19) | ((with_reducible refine gate_dst (N := 31) rfl ?_); (try (refine gate_guard (by rfl) ?_; dsimp only)); refine Kd.R_make (Kd.int .i64) _ 3 rfl (N := 31) rfl 22 _ _ rfl 8 rfl rfl Try.underlying22 (.int .i64 0) 8 info3 rfl (by decide) (by omega) 0 (ok := fun _ => True) (okp := fun _ => True) rfl (fun _ hk => hk) trivial (by omega) (by omega) (Below.refl _ _) (Nat.le_refl _) ?_; intro v419 w20 ho21 hb hg_ hnew_; clear hg_ hnew_; (first | rw [← Ny418.out] at ho21 | (simp only [Int.reduceToNat] at ho21; rw [← Ny418.out] at ho21)); have n0_ := Aside0.mk (Kd.R_below (by (with_reducible repeat (first | apply Kd.R_alloc | apply Kd.R_drewN | apply Kd.R_drew)); exact HO405.out) hb); have n1_ := Aside0.mk (Kd.R_below (by (with_reducible repeat (first | apply Kd.R_alloc | apply Kd.R_drewN | apply Kd.R_drew)); exact HO408.out) hb); have n2_ := Aside0.mk (Kd.R_below (by (with_reducible repeat (first | apply Kd.R_alloc | apply Kd.R_drewN | apply Kd.R_drew)); exact HO411.out) hb); have n3_ := Aside0.mk (Kd.R_below (by (with_reducible repeat (first | apply Kd.R_alloc | apply Kd.R_drewN | apply Kd.R_drew)); exact HO414.out) hb); have n4_ := Aside0.mk (Kd.R_below (by (with_reducible repeat (first | apply Kd.R_alloc | apply Kd.R_drewN | apply Kd.R_drew)); exact HO417.out) hb); have n5_ := Aside0.mk (Kd.R_lower ho21 (below_size (by repeat (first | (with_reducible first | exact HB.out | apply below_alloc | apply pw_below_drewN | apply below_drew1) | exact HB.out)))); have n6_ := Aside0.mk (below_step (by repeat (first | (with_reducible first | exact HB.out | apply below_alloc | apply pw_below_drewN | apply below_drew1) | exact HB.out)) hb); clear HO405; clear HO408; clear HO411; clear HO414; clear HO417; clear HB; have HO405 := n0_; have HO408 := n1_; have HO411 := n2_; have HO414 := n3_; have HO417 := n4_; have HO420 := n5_; have HB := n6_; clear n0_ n1_ n2_ n3_ n4_ n5_ n6_; clear hb ho21)); go_upto_block 0 with (first | (go_at_call 10; (with_reducible refine (billetlaw15_awake.calls k  t402 _ A4.out).mono ?_); rintro e w11 ⟨rfl, hb⟩; have n0_ := Aside0.mk (below_step (by repeat (first | (with_reducible first | exact HB.out | apply below_alloc | apply pw_below_drewN | apply below_drew1) | exact HB.out)) hb); clear HB; have HB := n0_; clear n0_; (try clear hb); (try clear hb2); (try clear hk); (try clear hi)) | (go_at_call 20; (with_reducible refine (billetlaw08_Binds.calls k _ _ l0 t403 _ ?side1 ?side2 A5.out).mono ?_); (case side1 => repeat (first | exact (Kd.C_below HR0.out HB.out) | (with_reducible refine Kd.C_alloc ?_ _) | (with_reducible refine Kd.C_drewN ?_ _) | (with_reducible refine Kd.C_drew ?_))); (case side2 => exact HC0.out); rintro e w12 ⟨v404, rfl, ho0, hb⟩; have n0_ := Aside0.mk (Kd.R_lower ho0 (below_size (by repeat (first | (with_reducible first | exact HB.out | apply below_alloc | apply pw_below_drewN | apply below_drew1) | exact HB.out)))); have n1_ := Aside0.mk (below_step (by repeat (first | (with_reducible first | exact HB.out | apply below_alloc | apply pw_below_drewN | apply below_drew1) | exact HB.out)) hb); clear HB; have HO405 := n0_; have HB := n1_; clear n0_ n1_; (try clear hb); (try clear hb2); (try clear hk); (try clear hi); (try clear ho0); obtain ⟨Ao13, co13, eo13⟩ := Kd.R_slice HO405.out; subst eo13) | (go_at_call 19; (with_reducible refine (billetlaw15_once.calls k _ _ t403 t406 _ ?side1 ?side2 A6.out).mono ?_); (case side1 => repeat (first | exact (Kd.R_reads' HO405.out).2.2 | (with_reducible refine Kd.C_alloc ?_ _) | (with_reducible refine Kd.C_drewN ?_ _) | (with_reducible refine Kd.C_drew ?_))); (case side2 => exact (Kd.R_reads' HO405.out).2.1); rintro e w14 ⟨v407, rfl, ho0, hb⟩; have n0_ := Aside0.mk (Kd.R_elder' (by (with_reducible repeat (first | apply Kd.R_alloc | apply Kd.R_drewN | apply Kd.R_drew)); exact HO405.out) (Kd.R_base ho0) hb); have n1_ := Aside0.mk (Kd.R_lower (Kd.R_new' ho0 (Kd.R_lt (by (with_reducible repeat (first | apply Kd.R_alloc | apply Kd.R_drewN | apply Kd.R_drew)); exact HO405.out))) (below_size (by repeat (first | (with_reducible first | exact HB.out | apply below_alloc | apply pw_below_drewN | apply below_drew1) | exact HB.out)))); have n2_ := Aside0.mk (below_step (by repeat (first | (with_reducible first | exact HB.out | apply below_alloc | apply pw_below_drewN | apply below_drew1) | exact HB.out)) hb); clear HO405; clear HB; have HO405 := n0_; have HO408 := n1_; have HB := n2_; clear n0_ n1_ n2_; (try clear hb); (try clear hb2); (try clear hk); (try clear hi); (try clear ho0)) | (go_at_call 20; (with_reducible refine (billetlaw08_Binds.calls k _ _ l1 t409 _ ?side1 ?side2 A7.out).mono ?_); (case side1 => repeat (first | exact (Kd.C_below HR1.out HB.out) | (with_reducible refine Kd.C_alloc ?_ _) | (with_reducible refine Kd.C_drewN ?_ _) | (with_reducible refine Kd.C_drew ?_))); (case side2 => exact HC1.out); rintro e w15 ⟨v410, rfl, ho0, hb⟩; have n0_ := Aside0.mk (Kd.R_elder' (by (with_reducible repeat (first | apply Kd.R_alloc | apply Kd.R_drewN | apply Kd.R_drew)); exact HO405.out) (Kd.R_base ho0) hb); have n1_ := Aside0.mk (Kd.R_elder' (by (with_reducible repeat (first | apply Kd.R_alloc | apply Kd.R_drewN | apply Kd.R_drew)); exact HO408.out) (Kd.R_base ho0) hb); have n2_ := Aside0.mk (Kd.R_lower (Kd.R_new' (Kd.R_new' ho0 (Kd.R_lt (by (with_reducible repeat (first | apply Kd.R_alloc | apply Kd.R_drewN | apply Kd.R_drew)); exact HO405.out))) (Kd.R_lt (by (with_reducible repeat (first | apply Kd.R_alloc | apply Kd.R_drewN | apply Kd.R_drew)); exact HO408.out))) (below_size (by repeat (first | (with_reducible first | exact HB.out | apply below_alloc | apply pw_below_drewN | apply below_drew1) | exact HB.out)))); have n3_ := Aside0.mk (below_step (by repeat (first | (with_reducible first | exact HB.out | apply below_alloc | apply pw_below_drewN | apply below_drew1) | exact HB.out)) hb); clear HO405; clear HO408; clear HB; have HO405 := n0_; have HO408 := n1_; have HO411 := n2_; have HB := n3_; clear n0_ n1_ n2_ n3_; (try clear hb); (try clear hb2); (try clear hk); (try clear hi); (try clear ho0); obtain ⟨Ao16, co16, eo16⟩ := Kd.R_slice HO411.out; subst eo16) | (go_at_call 19; (with_reducible refine (billetlaw15_once.calls k _ _ t409 t412 _ ?side1 ?side2 A8.out).mono ?_); (case side1 => repeat (first | exact (Kd.R_reads' HO411.out).2.2 | (with_reducible refine Kd.C_alloc ?_ _) | (with_reducible refine Kd.C_drewN ?_ _) | (with_reducible refine Kd.C_drew ?_))); (case side2 => exact (Kd.R_reads' HO411.out).2.1); rintro e w17 ⟨v413, rfl, ho0, hb⟩; have n0_ := Aside0.mk (Kd.R_elder' (by (with_reducible repeat (first | apply Kd.R_alloc | apply Kd.R_drewN | apply Kd.R_drew)); exact HO405.out) (Kd.R_base ho0) hb); have n1_ := Aside0.mk (Kd.R_elder' (by (with_reducible repeat (first | apply Kd.R_alloc | apply Kd.R_drewN | apply Kd.R_drew)); exact HO408.out) (Kd.R_base ho0) hb); have n2_ := Aside0.mk (Kd.R_elder' (by (with_reducible repeat (first | apply Kd.R_alloc | apply Kd.R_drewN | apply Kd.R_drew)); exact HO411.out) (Kd.R_base ho0) hb); have n3_ := Aside0.mk (Kd.R_lower (Kd.R_new' (Kd.R_new' (Kd.R_new' ho0 (Kd.R_lt (by (with_reducible repeat (first | apply Kd.R_alloc | apply Kd.R_drewN | apply Kd.R_drew)); exact HO405.out))) (Kd.R_lt (by (with_reducible repeat (first | apply Kd.R_alloc | apply Kd.R_drewN | apply Kd.R_drew)); exact HO408.out))) (Kd.R_lt (by (with_reducible repeat (first | apply Kd.R_alloc | apply Kd.R_drewN | apply Kd.R_drew)); exact HO411.out))) (below_size (by repeat (first | (with_reducible first | exact HB.out | apply below_alloc | apply pw_below_drewN | apply below_drew1) | exact HB.out)))); have n4_ := Aside0.mk (below_step (by repeat (first | (with_reducible first | exact HB.out | apply below_alloc | apply pw_below_drewN | apply below_drew1) | exact HB.out)) hb); clear HO405; clear HO408; clear HO411; clear HB; have HO405 := n0_; have HO408 := n1_; have HO411 := n2_; have HO414 := n3_; have HB := n4_; clear n0_ n1_ n2_ n3_ n4_; (try clear hb); (try clear hb2); (try clear hk); (try clear hi); (try clear ho0)) | ((with_reducible refine gate_dst (N := 30) rfl ?_); (try (refine gate_guard (by rfl) ?_; dsimp only)); refine Kd.R_lit Kd.string _ 9 ?hg (N := 30) ?hd (xs := ([(⟨#[119, 97]⟩ : ByteArray), (⟨#[119, 98]⟩ : ByteArray), (⟨#[119, 99]⟩ : ByteArray), (⟨#[119, 100]⟩ : ByteArray), (⟨#[119, 101]⟩ : ByteArray), (⟨#[119, 102]⟩ : ByteArray), (⟨#[119, 103]⟩ : ByteArray), (⟨#[119, 104]⟩ : ByteArray)] : List ByteArray)) (inner := [.string (⟨#[119, 97]⟩ : ByteArray), .string (⟨#[119, 98]⟩ : ByteArray), .string (⟨#[119, 99]⟩ : ByteArray), .string (⟨#[119, 100]⟩ : ByteArray), .string (⟨#[119, 101]⟩ : ByteArray), .string (⟨#[119, 102]⟩ : ByteArray), .string (⟨#[119, 103]⟩ : ByteArray), .string (⟨#[119, 104]⟩ : ByteArray)]) (ok := fun _ => True) (okp := fun _ => True) ?hr ?hp (fun _ hk => hk) trivial (Below.refl _ _) (Nat.le_refl _) (by simp) ?_; (case hd => rfl); (case hg => rfl); (case hr => first | (go_simp; done) | (go_simp; rfl)); (case hp => exact (Reps.one (show Kd.M Kd.string _ _ _ (⟨#[119, 97]⟩ : ByteArray) [.string (⟨#[119, 97]⟩ : ByteArray)] from rfl) (Reps.one (show Kd.M Kd.string _ _ _ (⟨#[119, 98]⟩ : ByteArray) [.string (⟨#[119, 98]⟩ : ByteArray)] from rfl) (Reps.one (show Kd.M Kd.string _ _ _ (⟨#[119, 99]⟩ : ByteArray) [.string (⟨#[119, 99]⟩ : ByteArray)] from rfl) (Reps.one (show Kd.M Kd.string _ _ _ (⟨#[119, 100]⟩ : ByteArray) [.string (⟨#[119, 100]⟩ : ByteArray)] from rfl) (Reps.one (show Kd.M Kd.string _ _ _ (⟨#[119, 101]⟩ : ByteArray) [.string (⟨#[119, 101]⟩ : ByteArray)] from rfl) (Reps.one (show Kd.M Kd.string _ _ _ (⟨#[119, 102]⟩ : ByteArray) [.string (⟨#[119, 102]⟩ : ByteArray)] from rfl) (Reps.one (show Kd.M Kd.string _ _ _ (⟨#[119, 103]⟩ : ByteArray) [.string (⟨#[119, 103]⟩ : ByteArray)] from rfl) (Reps.one (show Kd.M Kd.string _ _ _ (⟨#[119, 104]⟩ : ByteArray) [.string (⟨#[119, 104]⟩ : ByteArray)] from rfl) (Reps.none _ _)))))))))); intro v416 w18 ho19 hb hg_ hnew_; clear hg_ hnew_; (first | rw [← Ny415.out] at ho19 | (simp only [Int.reduceToNat] at ho19; rw [← Ny415.out] at ho19)); have n0_ := Aside0.mk (Kd.R_below (by (with_reducible repeat (first | apply Kd.R_alloc | apply Kd.R_drewN | apply Kd.R_drew)); exact HO405.out) hb); have n1_ := Aside0.mk (Kd.R_below (by (with_reducible repeat (first | apply Kd.R_alloc | apply Kd.R_drewN | apply Kd.R_drew)); exact HO408.out) hb); have n2_ := Aside0.mk (Kd.R_below (by (with_reducible repeat (first | apply Kd.R_alloc | apply Kd.R_drewN | apply Kd.R_drew)); exact HO411.out) hb); have n3_ := Aside0.mk (Kd.R_below (by (with_reducible repeat (first | apply Kd.R_alloc | apply Kd.R_drewN | apply Kd.R_drew)); exact HO414.out) hb); have n4_ := Aside0.mk (Kd.R_lower ho19 (below_size (by repeat (first | (with_reducible first | exact HB.out | apply below_alloc | apply pw_below_drewN | apply below_drew1) | exact HB.out)))); have n5_ := Aside0.mk (below_step (by repeat (first | (with_reducible first | exact HB.out | apply below_alloc | apply pw_below_drewN | apply below_drew1) | exact HB.out)) hb); clear HO405; clear HO408; clear HO411; clear HO414; clear HB; have HO405 := n0_; have HO408 := n1_; have HO411 := n2_; have HO414 := n3_; have HO417 := n4_; have HB := n5_; clear n0_ n1_ n2_ n3_ n4_ n5_; clear hb ho19) | ((with_reducible refine gate_dst (N := 31) rfl ?_); (try (refine gate_guard (by rfl) ?_; dsimp only)); refine Kd.R_make (Kd.int .i64) _ 3 rfl (N := 31) rfl 22 _ _ rfl 8 rfl rfl Try.underlying22 (.int .i64 0) 8 info3 rfl (by decide) (by omega) 0 (ok := fun _ => True) (okp := fun _ => True) rfl (fun _ hk => hk) trivial (by omega) (by omega) (Below.refl _ _) (Nat.le_refl _) ?_; intro v419 w20 ho21 hb hg_ hnew_; clear hg_ hnew_; (first | rw [← Ny418.out] at ho21 | (simp only [Int.reduceToNat] at ho21; rw [← Ny418.out] at ho21)); have n0_ := Aside0.mk (Kd.R_below (by (with_reducible repeat (first | apply Kd.R_alloc | apply Kd.R_drewN | apply Kd.R_drew)); exact HO405.out) hb); have n1_ := Aside0.mk (Kd.R_below (by (with_reducible repeat (first | apply Kd.R_alloc | apply Kd.R_drewN | apply Kd.R_drew)); exact HO408.out) hb); have n2_ := Aside0.mk (Kd.R_below (by (with_reducible repeat (first | apply Kd.R_alloc | apply Kd.R_drewN | apply Kd.R_drew)); exact HO411.out) hb); have n3_ := Aside0.mk (Kd.R_below (by (with_reducible repeat (first | apply Kd.R_alloc | apply Kd.R_drewN | apply Kd.R_drew)); exact HO414.out) hb); have n4_ := Aside0.mk (Kd.R_below (by (with_reducible repeat (first | apply Kd.R_alloc | apply Kd.R_drewN | apply Kd.R_drew)); exact HO417.out) hb); have n5_ := Aside0.mk (Kd.R_lower ho21 (below_size (by repeat (first | (with_reducible first | exact HB.out | apply below_alloc | apply pw_below_drewN | apply below_drew1) | exact HB.out)))); have n6_ := Aside0.mk (below_step (by repeat (first | (with_reducible first | exact HB.out | apply below_alloc | apply pw_below_drewN | apply below_drew1) | exact HB.out)) hb); clear HO405; clear HO408; clear HO411; clear HO414; clear HO417; clear HB; have HO405 := n0_; have HO408 := n1_; have HO411 := n2_; have HO414 := n3_; have HO417 := n4_; have HO420 := n5_; have HB := n6_; clear n0_ n1_ n2_ n3_ n4_ n5_ n6_; clear hb ho21)))
    (try simp only [Act.put, List.setIfInBounds_toArray, List.set_cons_zero, List.set_cons_succ])
    go_cut [] (fun wc => ∃ (kq : Nat) (x11_9 : List Int), Aside0 (billetlaw15_ShareTrims.j1 kq t402 t406 t412 y415 x11_9 = some r) ∧ Aside0 (kq ≤ k) ∧ Aside0 (Kd.R k40 40 wc w.heap.size (fun k_ => some k_ ≠ (v413 : Value).ownBlock) v407 t406) ∧ Aside0 (Kd.R k40 40 wc w.heap.size (fun k_ => some k_ ≠ (v407 : Value).ownBlock) v413 t412) ∧ Aside0 (Kd.R Kd.string 9 wc w.heap.size (fun _ => True) v416 y415) ∧ Aside0 (Kd.R (Kd.int .i64) 3 wc w.heap.size (fun _ => True) v419 x11_9) ∧ Aside0 (Below w.heap.size w wc))
    case first =>
      have H := HC10.out
      clear HC10
      have H' := Aside0.mk H
      clear H
      go_wp2
      repeat (go_quiet (fail); try go_wp2)
      go_loopg [12] k (fun kq v12 w' => ∃ (x11_1 : List Int) (x12_1 : Int), v12 = .int .i64 x12_1 ∧ Aside0 (billetlaw15_ShareTrims.l0 kq l2 t402 t406 t412 y415 x11_1 x12_1 = some r) ∧ Aside0 (kq ≤ k) ∧ Aside0 (Kd.R k40 40 w' w.heap.size (fun k_ => some k_ ≠ (v413 : Value).ownBlock) v407 t406) ∧ Aside0 (Kd.R k40 40 w' w.heap.size (fun k_ => some k_ ≠ (v407 : Value).ownBlock) v413 t412) ∧ Aside0 (Kd.R Kd.string 9 w' w.heap.size (fun _ => True) v416 y415) ∧ Aside0 (Kd.R (Kd.int .i64) 3 w' w.heap.size (fun _ => True) v419 x11_1) ∧ Aside0 (Below w.heap.size w w'))
      case atStart => exact ⟨(y418), (0), (by first | rfl | (simp; done) | (simp [*]; done)), H', ⟨Nat.le_refl _⟩, ⟨by (with_reducible repeat (first | apply Kd.R_alloc | apply Kd.R_drewN | apply Kd.R_drew)); exact Kd.R_mono HO408.out (fun _ hk => hk.2)⟩, ⟨by (with_reducible repeat (first | apply Kd.R_alloc | apply Kd.R_drewN | apply Kd.R_drew)); exact Kd.R_mono HO414.out (fun _ hk => hk.1.2)⟩, ⟨by (with_reducible repeat (first | apply Kd.R_alloc | apply Kd.R_drewN | apply Kd.R_drew)); exact HO417.out⟩, ⟨by (with_reducible repeat (first | apply Kd.R_alloc | apply Kd.R_drewN | apply Kd.R_drew)); exact HO420.out⟩, ⟨by repeat (first | (with_reducible first | exact HB.out | apply below_alloc | apply pw_below_drewN | apply below_drew1) | exact HB.out)⟩⟩
      case round =>
        clear H'
        try clear c1
        try clear c2
        try clear p2
        try clear c6
        try clear c9
        try clear c9b0
        try clear c9b1
        obtain ⟨x11_1, x12_1, rfl, HA, HK1, HO_8, HO_9, HO_10, HO_11, HB⟩ := hrel
        cases gk with
        | zero => exact absurd HA.out (by simp [billetlaw15_ShareTrims.l0])
        | succ k1 =>
          have H := HA.out
          clear HA
          simp only [billetlaw15_ShareTrims.l0] at H
          by_cases c22 : x12_1 < 8
          · rw [if_pos c22] at H
            have c22b0 : decide (x12_1 < 8) = true := decide_eq_true c22
            clear c22
            (first | rw [c22b0] | (simp only [i64_w, i32_w]; rw [c22b0]) | skip)
            by_cases c23 : x12_1 < (l2.length : Int)
            · rw [if_pos c23] at H
              have c23b0 : decide (x12_1 < (l2.length : Int)) = true := decide_eq_true c23
              clear c23
              by_cases c24 : 0 ≤ x12_1
              · rw [if_pos c24] at H
                have c24b0 : decide (0 ≤ x12_1) = true := decide_eq_true c24
                clear c24
                replace H := Option.bind_eq_some_iff.mp H
                obtain ⟨t422, A250, H⟩ := H
                replace H : (if x12_1 < (x11_1.length : Int) then (billetlaw15_ShareTrims.l0 k1 l2 t402 t406 t412 y415 (x11_1.set (x12_1 : Int).toNat t422) (wrap64 (x12_1 + 1))) else (none)) = some r := H
                have A25 := Aside0.mk A250
                clear A250
                by_cases c26 : x12_1 < (x11_1.length : Int)
                · rw [if_pos c26] at H
                  have c26b0 : decide (x12_1 < (x11_1.length : Int)) = true := decide_eq_true c26
                  clear c26
                  obtain ⟨y423, hy423⟩ : ∃ y_ : List Int, y_ = (x11_1.set (x12_1 : Int).toNat t422) := ⟨_, rfl⟩
                  replace H : (billetlaw15_ShareTrims.l0 k1 l2 t402 t406 t412 y415 y423 (wrap64 (x12_1 + 1))) = some r := by first | (rw [hy423]; with_reducible exact H) | (have H2_ := (Option.bind_some _ _).symm.trans H; rw [hy423]; with_reducible exact H2_) | (have H2_ := (Option.bind_some _ _).symm.trans H; with_reducible exact H2_) | with_reducible exact H | (rw [hy423]; exact H) | exact H
                  have Ny423 := Aside0.mk hy423
                  clear hy423
                  have H' := Aside0.mk H
                  clear H
                  have p421 : 0 ≤ (x12_1 : Int) := of_decide_eq_true (by first | (with_reducible assumption) | assumption)
                  have q421 : x12_1 < (l2.length : Int) := of_decide_eq_true (by first | (with_reducible assumption) | assumption)
                  obtain ⟨ad421, e421, hx421_0⟩ := Kd.at_int HR2.out x12_1 p421 q421
                  cases e421
                  replace hx421_0 := (HB.out.cell (World.block_lt_of_cell? w _ hx421_0)).trans hx421_0
                  replace p421 := eq_true p421
                  replace q421 := eq_true q421
                  go_wp2_with (first | (go_at_call 18; (with_reducible refine (billetlaw15_pick.calls (rd l2 x12_1) 9 t422 _ A25.out).mono ?_); rintro e w' ⟨rfl, ⟨nd, rfl⟩⟩; (try first | exact ⟨rfl, _, World.drewN_drewN _ _ _⟩ | exact ⟨rfl, _, Eq.trans (World.drewN_drewN _ _ _) (congrArg (World.drewN _) (Nat.add_assoc _ _ _))⟩); have p27 : 0 ≤ (x12_1 : Int) := of_decide_eq_true (by first | (with_reducible assumption) | assumption); have q27 : (x12_1 : Int) < ((x11_1.length : Int) : Int) := of_decide_eq_true (by first | (with_reducible assumption) | assumption); obtain ⟨go27, co27, eo27, gb27, gl27, cl27, HG27⟩ := Kd.R_form HO_11.out (by omega); (first | cases eo27 | (injection eo27 with ea_ en_ ec_; (first | subst ea_ | (injection ea_ with ea_; subst ea_)); subst ec_; clear en_)); have GB27 := Aside0.mk gb27; have GG27 := Aside0.mk HG27; clear gb27 gl27 HG27; obtain ⟨hx27_0, hf27_0⟩ := Kd.R_celln 0 HO_11.out (x12_1 : Int) p27 q27; replace p27 := eq_true p27; replace q27 := eq_true q27; obtain ⟨hy28_, hz28_⟩ := Kd.R_celln 0 HO_11.out (x12_1 : Int) (of_decide_eq_true (by first | (with_reducible assumption) | assumption)) (of_decide_eq_true (by first | (with_reducible assumption) | assumption)); have HP28 := Kd.R_putg HO_11.out (x12_1 : Int) t422) | ((with_reducible refine gate_store (t := 3) (p := 49) rfl ?_); (try (rw [drewN_self wr]; generalize hq_ : World.drewN wr _ = wr; have n0_ := Aside0.mk (Kd.R_at hq_ HO_8.out); have n1_ := Aside0.mk (Kd.R_at hq_ HO_9.out); have n2_ := Aside0.mk (Kd.R_at hq_ HO_10.out); have n3_ := Aside0.mk (Kd.R_at hq_ HO_11.out); have n4_ := Aside0.mk (below_at hq_ HB.out); clear hq_ HO_8 HO_9 HO_10 HO_11 HB; have HO_8 := n0_; have HO_9 := n1_; have HO_10 := n2_; have HO_11 := n3_; have HB := n4_; clear n0_ n1_ n2_ n3_ n4_; (try (obtain ⟨hy28_, hz28_⟩ := Kd.R_celln 0 HO_11.out (x12_1 : Int) (of_decide_eq_true (by first | (with_reducible assumption) | assumption)) (of_decide_eq_true (by first | (with_reducible assumption) | assumption)))); (try (have HP28 := Kd.R_putg HO_11.out (x12_1 : Int) t422)))); refine store_event (t := 3) (p := 49) (v := ?vo_w29) (w1 := (wr.setCell ⟨go27, (x12_1 : Int).toNat, none⟩ (.int .i64 t422))) ?hg ?ho ?hn ?hr ?_; (case ho => rfl); (case hg => rfl); (case hn => rfl); (case hr => first | (go_simp; done) | (go_simp; rfl)); intro w29 hw; have hg : wr.grownBy w29 (some go27) := (by rw [hw]; exact HP28.2); have hp_ : Kd.R (Kd.int .i64) 3 w29 w.heap.size (fun _ => True) (.slice (some ⟨go27, 0, none⟩) x11_1.length co27) y423 := (by rw [hw, Ny423.out]; exact HP28.1); clear HP28; have n0_ := Aside0.mk (Kd.R_over' (v := (.slice (some ⟨go27, 0, none⟩) x11_1.length co27)) (by (with_reducible repeat (first | apply Kd.R_alloc | apply Kd.R_drewN | apply Kd.R_drew)); exact HO_8.out) (Kd.R_typed HO_11.out) (by decide) hg); have n1_ := Aside0.mk (Kd.R_over' (v := (.slice (some ⟨go27, 0, none⟩) x11_1.length co27)) (by (with_reducible repeat (first | apply Kd.R_alloc | apply Kd.R_drewN | apply Kd.R_drew)); exact HO_9.out) (Kd.R_typed HO_11.out) (by decide) hg); have n2_ := Aside0.mk (Kd.R_over' (v := (.slice (some ⟨go27, 0, none⟩) x11_1.length co27)) (by (with_reducible repeat (first | apply Kd.R_alloc | apply Kd.R_drewN | apply Kd.R_drew)); exact HO_10.out) (Kd.R_typed HO_11.out) (by decide) hg); have n3_ := Aside0.mk (hp_); have n4_ := Aside0.mk ((by rw [hw]; exact below_set (HB.out) GB27.out : Below w.heap.size w w29)); clear HO_8; clear HO_9; clear HO_10; clear HO_11; clear HB; have HO_8 := n0_; have HO_9 := n1_; have HO_10 := n2_; have HO_11 := n3_; have HB := n4_; clear n0_ n1_ n2_ n3_ n4_; clear hg hw hp_))
                  repeat (go_quiet (first | (go_at_call 18; (with_reducible refine (billetlaw15_pick.calls (rd l2 x12_1) 9 t422 _ A25.out).mono ?_); rintro e w' ⟨rfl, ⟨nd, rfl⟩⟩; (try first | exact ⟨rfl, _, World.drewN_drewN _ _ _⟩ | exact ⟨rfl, _, Eq.trans (World.drewN_drewN _ _ _) (congrArg (World.drewN _) (Nat.add_assoc _ _ _))⟩); have p27 : 0 ≤ (x12_1 : Int) := of_decide_eq_true (by first | (with_reducible assumption) | assumption); have q27 : (x12_1 : Int) < ((x11_1.length : Int) : Int) := of_decide_eq_true (by first | (with_reducible assumption) | assumption); obtain ⟨go27, co27, eo27, gb27, gl27, cl27, HG27⟩ := Kd.R_form HO_11.out (by omega); (first | cases eo27 | (injection eo27 with ea_ en_ ec_; (first | subst ea_ | (injection ea_ with ea_; subst ea_)); subst ec_; clear en_)); have GB27 := Aside0.mk gb27; have GG27 := Aside0.mk HG27; clear gb27 gl27 HG27; obtain ⟨hx27_0, hf27_0⟩ := Kd.R_celln 0 HO_11.out (x12_1 : Int) p27 q27; replace p27 := eq_true p27; replace q27 := eq_true q27; obtain ⟨hy28_, hz28_⟩ := Kd.R_celln 0 HO_11.out (x12_1 : Int) (of_decide_eq_true (by first | (with_reducible assumption) | assumption)) (of_decide_eq_true (by first | (with_reducible assumption) | assumption)); have HP28 := Kd.R_putg HO_11.out (x12_1 : Int) t422) | ((with_reducible refine gate_store (t := 3) (p := 49) rfl ?_); (try (rw [drewN_self wr]; generalize hq_ : World.drewN wr _ = wr; have n0_ := Aside0.mk (Kd.R_at hq_ HO_8.out); have n1_ := Aside0.mk (Kd.R_at hq_ HO_9.out); have n2_ := Aside0.mk (Kd.R_at hq_ HO_10.out); have n3_ := Aside0.mk (Kd.R_at hq_ HO_11.out); have n4_ := Aside0.mk (below_at hq_ HB.out); clear hq_ HO_8 HO_9 HO_10 HO_11 HB; have HO_8 := n0_; have HO_9 := n1_; have HO_10 := n2_; have HO_11 := n3_; have HB := n4_; clear n0_ n1_ n2_ n3_ n4_; (try (obtain ⟨hy28_, hz28_⟩ := Kd.R_celln 0 HO_11.out (x12_1 : Int) (of_decide_eq_true (by first | (with_reducible assumption) | assumption)) (of_decide_eq_true (by first | (with_reducible assumption) | assumption)))); (try (have HP28 := Kd.R_putg HO_11.out (x12_1 : Int) t422)))); refine store_event (t := 3) (p := 49) (v := ?vo_w29) (w1 := (wr.setCell ⟨go27, (x12_1 : Int).toNat, none⟩ (.int .i64 t422))) ?hg ?ho ?hn ?hr ?_; (case ho => rfl); (case hg => rfl); (case hn => rfl); (case hr => first | (go_simp; done) | (go_simp; rfl)); intro w29 hw; have hg : wr.grownBy w29 (some go27) := (by rw [hw]; exact HP28.2); have hp_ : Kd.R (Kd.int .i64) 3 w29 w.heap.size (fun _ => True) (.slice (some ⟨go27, 0, none⟩) x11_1.length co27) y423 := (by rw [hw, Ny423.out]; exact HP28.1); clear HP28; have n0_ := Aside0.mk (Kd.R_over' (v := (.slice (some ⟨go27, 0, none⟩) x11_1.length co27)) (by (with_reducible repeat (first | apply Kd.R_alloc | apply Kd.R_drewN | apply Kd.R_drew)); exact HO_8.out) (Kd.R_typed HO_11.out) (by decide) hg); have n1_ := Aside0.mk (Kd.R_over' (v := (.slice (some ⟨go27, 0, none⟩) x11_1.length co27)) (by (with_reducible repeat (first | apply Kd.R_alloc | apply Kd.R_drewN | apply Kd.R_drew)); exact HO_9.out) (Kd.R_typed HO_11.out) (by decide) hg); have n2_ := Aside0.mk (Kd.R_over' (v := (.slice (some ⟨go27, 0, none⟩) x11_1.length co27)) (by (with_reducible repeat (first | apply Kd.R_alloc | apply Kd.R_drewN | apply Kd.R_drew)); exact HO_10.out) (Kd.R_typed HO_11.out) (by decide) hg); have n3_ := Aside0.mk (hp_); have n4_ := Aside0.mk ((by rw [hw]; exact below_set (HB.out) GB27.out : Below w.heap.size w w29)); clear HO_8; clear HO_9; clear HO_10; clear HO_11; clear HB; have HO_8 := n0_; have HO_9 := n1_; have HO_10 := n2_; have HO_11 := n3_; have HB := n4_; clear n0_ n1_ n2_ n3_ n4_; clear hg hw hp_)); try go_wp2_with (first | (go_at_call 18; (with_reducible refine (billetlaw15_pick.calls (rd l2 x12_1) 9 t422 _ A25.out).mono ?_); rintro e w' ⟨rfl, ⟨nd, rfl⟩⟩; (try first | exact ⟨rfl, _, World.drewN_drewN _ _ _⟩ | exact ⟨rfl, _, Eq.trans (World.drewN_drewN _ _ _) (congrArg (World.drewN _) (Nat.add_assoc _ _ _))⟩); have p27 : 0 ≤ (x12_1 : Int) := of_decide_eq_true (by first | (with_reducible assumption) | assumption); have q27 : (x12_1 : Int) < ((x11_1.length : Int) : Int) := of_decide_eq_true (by first | (with_reducible assumption) | assumption); obtain ⟨go27, co27, eo27, gb27, gl27, cl27, HG27⟩ := Kd.R_form HO_11.out (by omega); (first | cases eo27 | (injection eo27 with ea_ en_ ec_; (first | subst ea_ | (injection ea_ with ea_; subst ea_)); subst ec_; clear en_)); have GB27 := Aside0.mk gb27; have GG27 := Aside0.mk HG27; clear gb27 gl27 HG27; obtain ⟨hx27_0, hf27_0⟩ := Kd.R_celln 0 HO_11.out (x12_1 : Int) p27 q27; replace p27 := eq_true p27; replace q27 := eq_true q27; obtain ⟨hy28_, hz28_⟩ := Kd.R_celln 0 HO_11.out (x12_1 : Int) (of_decide_eq_true (by first | (with_reducible assumption) | assumption)) (of_decide_eq_true (by first | (with_reducible assumption) | assumption)); have HP28 := Kd.R_putg HO_11.out (x12_1 : Int) t422) | ((with_reducible refine gate_store (t := 3) (p := 49) rfl ?_); (try (rw [drewN_self wr]; generalize hq_ : World.drewN wr _ = wr; have n0_ := Aside0.mk (Kd.R_at hq_ HO_8.out); have n1_ := Aside0.mk (Kd.R_at hq_ HO_9.out); have n2_ := Aside0.mk (Kd.R_at hq_ HO_10.out); have n3_ := Aside0.mk (Kd.R_at hq_ HO_11.out); have n4_ := Aside0.mk (below_at hq_ HB.out); clear hq_ HO_8 HO_9 HO_10 HO_11 HB; have HO_8 := n0_; have HO_9 := n1_; have HO_10 := n2_; have HO_11 := n3_; have HB := n4_; clear n0_ n1_ n2_ n3_ n4_; (try (obtain ⟨hy28_, hz28_⟩ := Kd.R_celln 0 HO_11.out (x12_1 : Int) (of_decide_eq_true (by first | (with_reducible assumption) | assumption)) (of_decide_eq_true (by first | (with_reducible assumption) | assumption)))); (try (have HP28 := Kd.R_putg HO_11.out (x12_1 : Int) t422)))); refine store_event (t := 3) (p := 49) (v := ?vo_w29) (w1 := (wr.setCell ⟨go27, (x12_1 : Int).toNat, none⟩ (.int .i64 t422))) ?hg ?ho ?hn ?hr ?_; (case ho => rfl); (case hg => rfl); (case hn => rfl); (case hr => first | (go_simp; done) | (go_simp; rfl)); intro w29 hw; have hg : wr.grownBy w29 (some go27) := (by rw [hw]; exact HP28.2); have hp_ : Kd.R (Kd.int .i64) 3 w29 w.heap.size (fun _ => True) (.slice (some ⟨go27, 0, none⟩) x11_1.length co27) y423 := (by rw [hw, Ny423.out]; exact HP28.1); clear HP28; have n0_ := Aside0.mk (Kd.R_over' (v := (.slice (some ⟨go27, 0, none⟩) x11_1.length co27)) (by (with_reducible repeat (first | apply Kd.R_alloc | apply Kd.R_drewN | apply Kd.R_drew)); exact HO_8.out) (Kd.R_typed HO_11.out) (by decide) hg); have n1_ := Aside0.mk (Kd.R_over' (v := (.slice (some ⟨go27, 0, none⟩) x11_1.length co27)) (by (with_reducible repeat (first | apply Kd.R_alloc | apply Kd.R_drewN | apply Kd.R_drew)); exact HO_9.out) (Kd.R_typed HO_11.out) (by decide) hg); have n2_ := Aside0.mk (Kd.R_over' (v := (.slice (some ⟨go27, 0, none⟩) x11_1.length co27)) (by (with_reducible repeat (first | apply Kd.R_alloc | apply Kd.R_drewN | apply Kd.R_drew)); exact HO_10.out) (Kd.R_typed HO_11.out) (by decide) hg); have n3_ := Aside0.mk (hp_); have n4_ := Aside0.mk ((by rw [hw]; exact below_set (HB.out) GB27.out : Below w.heap.size w w29)); clear HO_8; clear HO_9; clear HO_10; clear HO_11; clear HB; have HO_8 := n0_; have HO_9 := n1_; have HO_10 := n2_; have HO_11 := n3_; have HB := n4_; clear n0_ n1_ n2_ n3_ n4_; clear hg hw hp_)))
                  go_roundg k1
                  case measure => have := HK1.out; omega
                  case rel => exact ⟨(y423), (wrap64 (x12_1 + 1)), (by first | rfl | (simp; done) | (simp [*]; done)), H', ⟨by have := HK1.out; omega⟩, ⟨by (with_reducible repeat (first | apply Kd.R_alloc | apply Kd.R_drewN | apply Kd.R_drew)); exact HO_8.out⟩, ⟨by (with_reducible repeat (first | apply Kd.R_alloc | apply Kd.R_drewN | apply Kd.R_drew)); exact HO_9.out⟩, ⟨by (with_reducible repeat (first | apply Kd.R_alloc | apply Kd.R_drewN | apply Kd.R_drew)); exact HO_10.out⟩, ⟨by (with_reducible repeat (first | apply Kd.R_alloc | apply Kd.R_drewN | apply Kd.R_drew)); exact HO_11.out⟩, ⟨by repeat (first | (with_reducible first | exact HB.out | apply below_alloc | apply pw_below_drewN | apply below_drew1) | exact HB.out)⟩⟩
                · rw [if_neg c26] at H
                  exact absurd H (by simp)
              · rw [if_neg c24] at H
                exact absurd H (by simp)
            · rw [if_neg c23] at H
              have c23b0 : decide (x12_1 < (l2.length : Int)) = false := decide_eq_false c23
              clear c23
              have H' := Aside0.mk H
              clear H
              go_wp2
              repeat (go_quiet (fail); try go_wp2)
              go_meet
              case rel => exact ⟨_, (x11_1), H', ⟨by have := HK1.out; first | omega | exact Nat.le_refl _⟩, ⟨by (with_reducible repeat (first | apply Kd.R_alloc | apply Kd.R_drewN | apply Kd.R_drew)); exact HO_8.out⟩, ⟨by (with_reducible repeat (first | apply Kd.R_alloc | apply Kd.R_drewN | apply Kd.R_drew)); exact HO_9.out⟩, ⟨by (with_reducible repeat (first | apply Kd.R_alloc | apply Kd.R_drewN | apply Kd.R_drew)); exact HO_10.out⟩, ⟨by (with_reducible repeat (first | apply Kd.R_alloc | apply Kd.R_drewN | apply Kd.R_drew)); exact HO_11.out⟩, ⟨by repeat (first | (with_reducible first | exact HB.out | apply below_alloc | apply pw_below_drewN | apply below_drew1) | exact HB.out)⟩⟩
          · rw [if_neg c22] at H
            have c22b0 : decide (x12_1 < 8) = false := decide_eq_false c22
            clear c22
            (first | rw [c22b0] | (simp only [i64_w, i32_w]; rw [c22b0]) | skip)
            have H' := Aside0.mk H
            clear H
            go_wp2
            repeat (go_quiet (fail); try go_wp2)
            go_meet
            case rel => exact ⟨_, (x11_1), H', ⟨by have := HK1.out; first | omega | exact Nat.le_refl _⟩, ⟨by (with_reducible repeat (first | apply Kd.R_alloc | apply Kd.R_drewN | apply Kd.R_drew)); exact HO_8.out⟩, ⟨by (with_reducible repeat (first | apply Kd.R_alloc | apply Kd.R_drewN | apply Kd.R_drew)); exact HO_9.out⟩, ⟨by (with_reducible repeat (first | apply Kd.R_alloc | apply Kd.R_drewN | apply Kd.R_drew)); exact HO_10.out⟩, ⟨by (with_reducible repeat (first | apply Kd.R_alloc | apply Kd.R_drewN | apply Kd.R_drew)); exact HO_11.out⟩, ⟨by repeat (first | (with_reducible first | exact HB.out | apply below_alloc | apply pw_below_drewN | apply below_drew1) | exact HB.out)⟩⟩
    case rest =>
      clear HC10
      try clear c1
      try clear c2
      try clear p2
      try clear q2
      try clear hx2
      try clear p4
      try clear q4
      try clear hx4
      try clear c6
      try clear p6
      try clear c9
      try clear c9b0
      try clear c9b1
      try clear c22
      try clear c22b0
      try clear c23
      try clear c23b0
      try clear c24
      try clear c24b0
      try clear c26
      try clear c26b0
      try clear p27
      try clear q27
      try clear hx27
      try clear hf27
      try clear hx27_0
      try clear hx421_0
      try clear p2
      try clear p27
      try clear p421
      try clear q27
      try clear q421
      obtain ⟨kq, x11_9, HA, HJ9, HO_8, HO_9, HO_10, HO_11, HB⟩ := hcut
      cases kq with
      | zero => exact absurd HA.out (by simp [billetlaw15_ShareTrims.j1])
      | succ kj9 =>
        have H := HA.out
        clear HA
        simp only [billetlaw15_ShareTrims.j1] at H
        replace H := Option.bind_eq_some_iff.mp H
        obtain ⟨t424, A300, H⟩ := H
        replace H : (billetlaw15_ShareTrims.l1 kj9 t402 t406 t412 y415 x11_9 t424 0) = some r := H
        have A30 := Aside0.mk A300
        clear A300
        have H' := Aside0.mk H
        clear H
        obtain ⟨Ao31, co31, eo31⟩ := Kd.R_slice HO_8.out
        subst eo31
        obtain ⟨Ao32, co32, eo32⟩ := Kd.R_slice HO_9.out
        subst eo32
        obtain ⟨Ao33, co33, eo33⟩ := Kd.R_slice HO_10.out
        subst eo33
        obtain ⟨Ao34, co34, eo34⟩ := Kd.R_slice HO_11.out
        subst eo34
        go_wp2_with (first | (go_at_call 13; (with_reducible refine (share_Trim.calls kj9 _ _ t406 _ _ t412 _ _ y415 _ _ x11_9 t424 _ ?side1 ?side2 ?side3 ?side4 ?side5 ?side6 ?side7 ?side8 A30.out).mono ?_); (case side1 => repeat (first | exact (Kd.R_reads' HO_8.out).2.2 | (with_reducible refine Kd.C_alloc ?_ _) | (with_reducible refine Kd.C_drewN ?_ _) | (with_reducible refine Kd.C_drew ?_))); (case side2 => exact (Kd.R_reads' HO_8.out).2.1); (case side3 => repeat (first | exact (Kd.R_reads' HO_9.out).2.2 | (with_reducible refine Kd.C_alloc ?_ _) | (with_reducible refine Kd.C_drewN ?_ _) | (with_reducible refine Kd.C_drew ?_))); (case side4 => exact (Kd.R_reads' HO_9.out).2.1); (case side5 => repeat (first | exact (Kd.R_reads' HO_10.out).2.2 | (with_reducible refine Kd.C_alloc ?_ _) | (with_reducible refine Kd.C_drewN ?_ _) | (with_reducible refine Kd.C_drew ?_))); (case side6 => exact (Kd.R_reads' HO_10.out).2.1); (case side7 => repeat (first | exact (Kd.R_reads' HO_11.out).2.2 | (with_reducible refine Kd.C_alloc ?_ _) | (with_reducible refine Kd.C_drewN ?_ _) | (with_reducible refine Kd.C_drew ?_))); (case side8 => exact (Kd.R_reads' HO_11.out).2.1); rintro e w35 ⟨v425, rfl, ho0, hb⟩; have n0_ := Aside0.mk (Kd.R_elder' (by (with_reducible repeat (first | apply Kd.R_alloc | apply Kd.R_drewN | apply Kd.R_drew)); exact HO_8.out) (Kd.R_base ho0) hb); have n1_ := Aside0.mk (Kd.R_elder' (by (with_reducible repeat (first | apply Kd.R_alloc | apply Kd.R_drewN | apply Kd.R_drew)); exact HO_9.out) (Kd.R_base ho0) hb); have n2_ := Aside0.mk (Kd.R_below (by (with_reducible repeat (first | apply Kd.R_alloc | apply Kd.R_drewN | apply Kd.R_drew)); exact HO_10.out) hb); have n3_ := Aside0.mk (Kd.R_below (by (with_reducible repeat (first | apply Kd.R_alloc | apply Kd.R_drewN | apply Kd.R_drew)); exact HO_11.out) hb); have n4_ := Aside0.mk (Kd.R_lower (Kd.R_new' (Kd.R_new' ho0 (Kd.R_lt (by (with_reducible repeat (first | apply Kd.R_alloc | apply Kd.R_drewN | apply Kd.R_drew)); exact HO_8.out))) (Kd.R_lt (by (with_reducible repeat (first | apply Kd.R_alloc | apply Kd.R_drewN | apply Kd.R_drew)); exact HO_9.out))) (below_size (by repeat (first | (with_reducible first | exact HB.out | apply below_alloc | apply pw_below_drewN | apply below_drew1) | exact HB.out)))); have n5_ := Aside0.mk (below_step (by repeat (first | (with_reducible first | exact HB.out | apply below_alloc | apply pw_below_drewN | apply below_drew1) | exact HB.out)) hb); clear HO_8; clear HO_9; clear HO_10; clear HO_11; clear HB; have HO_8 := n0_; have HO_9 := n1_; have HO_10 := n2_; have HO_11 := n3_; have HO426 := n4_; have HB := n5_; clear n0_ n1_ n2_ n3_ n4_ n5_; (try clear hb); (try clear hb2); (try clear hk); (try clear hi); (try clear ho0)))
        repeat (go_quiet (first | (go_at_call 13; (with_reducible refine (share_Trim.calls kj9 _ _ t406 _ _ t412 _ _ y415 _ _ x11_9 t424 _ ?side1 ?side2 ?side3 ?side4 ?side5 ?side6 ?side7 ?side8 A30.out).mono ?_); (case side1 => repeat (first | exact (Kd.R_reads' HO_8.out).2.2 | (with_reducible refine Kd.C_alloc ?_ _) | (with_reducible refine Kd.C_drewN ?_ _) | (with_reducible refine Kd.C_drew ?_))); (case side2 => exact (Kd.R_reads' HO_8.out).2.1); (case side3 => repeat (first | exact (Kd.R_reads' HO_9.out).2.2 | (with_reducible refine Kd.C_alloc ?_ _) | (with_reducible refine Kd.C_drewN ?_ _) | (with_reducible refine Kd.C_drew ?_))); (case side4 => exact (Kd.R_reads' HO_9.out).2.1); (case side5 => repeat (first | exact (Kd.R_reads' HO_10.out).2.2 | (with_reducible refine Kd.C_alloc ?_ _) | (with_reducible refine Kd.C_drewN ?_ _) | (with_reducible refine Kd.C_drew ?_))); (case side6 => exact (Kd.R_reads' HO_10.out).2.1); (case side7 => repeat (first | exact (Kd.R_reads' HO_11.out).2.2 | (with_reducible refine Kd.C_alloc ?_ _) | (with_reducible refine Kd.C_drewN ?_ _) | (with_reducible refine Kd.C_drew ?_))); (case side8 => exact (Kd.R_reads' HO_11.out).2.1); rintro e w35 ⟨v425, rfl, ho0, hb⟩; have n0_ := Aside0.mk (Kd.R_elder' (by (with_reducible repeat (first | apply Kd.R_alloc | apply Kd.R_drewN | apply Kd.R_drew)); exact HO_8.out) (Kd.R_base ho0) hb); have n1_ := Aside0.mk (Kd.R_elder' (by (with_reducible repeat (first | apply Kd.R_alloc | apply Kd.R_drewN | apply Kd.R_drew)); exact HO_9.out) (Kd.R_base ho0) hb); have n2_ := Aside0.mk (Kd.R_below (by (with_reducible repeat (first | apply Kd.R_alloc | apply Kd.R_drewN | apply Kd.R_drew)); exact HO_10.out) hb); have n3_ := Aside0.mk (Kd.R_below (by (with_reducible repeat (first | apply Kd.R_alloc | apply Kd.R_drewN | apply Kd.R_drew)); exact HO_11.out) hb); have n4_ := Aside0.mk (Kd.R_lower (Kd.R_new' (Kd.R_new' ho0 (Kd.R_lt (by (with_reducible repeat (first | apply Kd.R_alloc | apply Kd.R_drewN | apply Kd.R_drew)); exact HO_8.out))) (Kd.R_lt (by (with_reducible repeat (first | apply Kd.R_alloc | apply Kd.R_drewN | apply Kd.R_drew)); exact HO_9.out))) (below_size (by repeat (first | (with_reducible first | exact HB.out | apply below_alloc | apply pw_below_drewN | apply below_drew1) | exact HB.out)))); have n5_ := Aside0.mk (below_step (by repeat (first | (with_reducible first | exact HB.out | apply below_alloc | apply pw_below_drewN | apply below_drew1) | exact HB.out)) hb); clear HO_8; clear HO_9; clear HO_10; clear HO_11; clear HB; have HO_8 := n0_; have HO_9 := n1_; have HO_10 := n2_; have HO_11 := n3_; have HO426 := n4_; have HB := n5_; clear n0_ n1_ n2_ n3_ n4_ n5_; (try clear hb); (try clear hb2); (try clear hk); (try clear hi); (try clear ho0))); try go_wp2_with (first | (go_at_call 13; (with_reducible refine (share_Trim.calls kj9 _ _ t406 _ _ t412 _ _ y415 _ _ x11_9 t424 _ ?side1 ?side2 ?side3 ?side4 ?side5 ?side6 ?side7 ?side8 A30.out).mono ?_); (case side1 => repeat (first | exact (Kd.R_reads' HO_8.out).2.2 | (with_reducible refine Kd.C_alloc ?_ _) | (with_reducible refine Kd.C_drewN ?_ _) | (with_reducible refine Kd.C_drew ?_))); (case side2 => exact (Kd.R_reads' HO_8.out).2.1); (case side3 => repeat (first | exact (Kd.R_reads' HO_9.out).2.2 | (with_reducible refine Kd.C_alloc ?_ _) | (with_reducible refine Kd.C_drewN ?_ _) | (with_reducible refine Kd.C_drew ?_))); (case side4 => exact (Kd.R_reads' HO_9.out).2.1); (case side5 => repeat (first | exact (Kd.R_reads' HO_10.out).2.2 | (with_reducible refine Kd.C_alloc ?_ _) | (with_reducible refine Kd.C_drewN ?_ _) | (with_reducible refine Kd.C_drew ?_))); (case side6 => exact (Kd.R_reads' HO_10.out).2.1); (case side7 => repeat (first | exact (Kd.R_reads' HO_11.out).2.2 | (with_reducible refine Kd.C_alloc ?_ _) | (with_reducible refine Kd.C_drewN ?_ _) | (with_reducible refine Kd.C_drew ?_))); (case side8 => exact (Kd.R_reads' HO_11.out).2.1); rintro e w35 ⟨v425, rfl, ho0, hb⟩; have n0_ := Aside0.mk (Kd.R_elder' (by (with_reducible repeat (first | apply Kd.R_alloc | apply Kd.R_drewN | apply Kd.R_drew)); exact HO_8.out) (Kd.R_base ho0) hb); have n1_ := Aside0.mk (Kd.R_elder' (by (with_reducible repeat (first | apply Kd.R_alloc | apply Kd.R_drewN | apply Kd.R_drew)); exact HO_9.out) (Kd.R_base ho0) hb); have n2_ := Aside0.mk (Kd.R_below (by (with_reducible repeat (first | apply Kd.R_alloc | apply Kd.R_drewN | apply Kd.R_drew)); exact HO_10.out) hb); have n3_ := Aside0.mk (Kd.R_below (by (with_reducible repeat (first | apply Kd.R_alloc | apply Kd.R_drewN | apply Kd.R_drew)); exact HO_11.out) hb); have n4_ := Aside0.mk (Kd.R_lower (Kd.R_new' (Kd.R_new' ho0 (Kd.R_lt (by (with_reducible repeat (first | apply Kd.R_alloc | apply Kd.R_drewN | apply Kd.R_drew)); exact HO_8.out))) (Kd.R_lt (by (with_reducible repeat (first | apply Kd.R_alloc | apply Kd.R_drewN | apply Kd.R_drew)); exact HO_9.out))) (below_size (by repeat (first | (with_reducible first | exact HB.out | apply below_alloc | apply pw_below_drewN | apply below_drew1) | exact HB.out)))); have n5_ := Aside0.mk (below_step (by repeat (first | (with_reducible first | exact HB.out | apply below_alloc | apply pw_below_drewN | apply below_drew1) | exact HB.out)) hb); clear HO_8; clear HO_9; clear HO_10; clear HO_11; clear HB; have HO_8 := n0_; have HO_9 := n1_; have HO_10 := n2_; have HO_11 := n3_; have HO426 := n4_; have HB := n5_; clear n0_ n1_ n2_ n3_ n4_ n5_; (try clear hb); (try clear hb2); (try clear hk); (try clear hi); (try clear ho0))))
        go_loopg [14] kj9 (fun kq v14 w' => ∃ (x14_2 : Int), v14 = .int .i64 x14_2 ∧ Aside0 (billetlaw15_ShareTrims.l1 kq t402 t406 t412 y415 x11_9 t424 x14_2 = some r) ∧ Aside0 (kq ≤ kj9) ∧ Aside0 (Kd.R k40 40 w' w.heap.size (fun k_ => some k_ ≠ ((.slice Ao32 t412.length co32) : Value).ownBlock ∧ some k_ ≠ (v425 : Value).ownBlock) (.slice Ao31 t406.length co31) t406) ∧ Aside0 (Kd.R k40 40 w' w.heap.size (fun k_ => some k_ ≠ ((.slice Ao31 t406.length co31) : Value).ownBlock ∧ some k_ ≠ (v425 : Value).ownBlock) (.slice Ao32 t412.length co32) t412) ∧ Aside0 (Kd.R Kd.string 9 w' w.heap.size (fun _ => True) (.slice Ao33 y415.length co33) y415) ∧ Aside0 (Kd.R (Kd.int .i64) 3 w' w.heap.size (fun _ => True) (.slice Ao34 x11_9.length co34) x11_9) ∧ Aside0 (Kd.R k40 40 w' w.heap.size (fun k_ => some k_ ≠ ((.slice Ao31 t406.length co31) : Value).ownBlock ∧ some k_ ≠ ((.slice Ao32 t412.length co32) : Value).ownBlock) v425 t424) ∧ Aside0 (Below w.heap.size w w'))
        case atStart => exact ⟨(0), (by first | rfl | (simp; done) | (simp [*]; done)), H', ⟨Nat.le_refl _⟩, ⟨by (with_reducible repeat (first | apply Kd.R_alloc | apply Kd.R_drewN | apply Kd.R_drew)); exact HO_8.out⟩, ⟨by (with_reducible repeat (first | apply Kd.R_alloc | apply Kd.R_drewN | apply Kd.R_drew)); exact HO_9.out⟩, ⟨by (with_reducible repeat (first | apply Kd.R_alloc | apply Kd.R_drewN | apply Kd.R_drew)); exact HO_10.out⟩, ⟨by (with_reducible repeat (first | apply Kd.R_alloc | apply Kd.R_drewN | apply Kd.R_drew)); exact HO_11.out⟩, ⟨by (with_reducible repeat (first | apply Kd.R_alloc | apply Kd.R_drewN | apply Kd.R_drew)); exact Kd.R_mono HO426.out (fun _ hk => ⟨hk.1.2, hk.2⟩)⟩, ⟨by repeat (first | (with_reducible first | exact HB.out | apply below_alloc | apply pw_below_drewN | apply below_drew1) | exact HB.out)⟩⟩
        case round =>
          clear H'
          try clear c1
          try clear c2
          try clear p2
          try clear q2
          try clear hx2
          try clear p4
          try clear q4
          try clear hx4
          try clear c6
          try clear p6
          try clear c9
          try clear c9b0
          try clear c9b1
          try clear c22
          try clear c22b0
          try clear c23
          try clear c23b0
          try clear c24
          try clear c24b0
          try clear c26
          try clear c26b0
          try clear p27
          try clear q27
          try clear hx27
          try clear hf27
          try clear hx27_0
          try clear hx421_0
          try clear p2
          try clear p27
          try clear p4
          try clear p421
          try clear p6
          try clear q2
          try clear q27
          try clear q4
          try clear q421
          obtain ⟨x14_2, rfl, HA, HK2, HO_8, HO_9, HO_10, HO_11, HO_13, HB⟩ := hrel
          cases gk with
          | zero => exact absurd HA.out (by simp [billetlaw15_ShareTrims.l1])
          | succ k2 =>
            have H := HA.out
            clear HA
            simp only [billetlaw15_ShareTrims.l1] at H
            by_cases c36 : x14_2 < 8
            · rw [if_pos c36] at H
              have c36b0 : decide (x14_2 < 8) = true := decide_eq_true c36
              clear c36
              by_cases c37 : 0 ≤ x14_2
              · rw [if_pos c37] at H
                have c37b0 : decide (0 ≤ x14_2) = true := decide_eq_true c37
                clear c37
                by_cases c38 : x14_2 < (y415.length : Int)
                · rw [if_pos c38] at H
                  have c38b0 : decide (x14_2 < (y415.length : Int)) = true := decide_eq_true c38
                  clear c38
                  replace H := Option.bind_eq_some_iff.mp H
                  obtain ⟨t428, A390, H⟩ := H
                  replace H : (if x14_2 < (x11_9.length : Int) then ((billetlaw15_count.f k2 t406 (rdOf ByteArray.empty y415 x14_2) (⟨#[]⟩ : ByteArray)).bind fun t431 => (if t428 = (mn (rd x11_9 x14_2) t431) then (billetlaw15_ShareTrims.l2 k2 t402 t406 t412 y415 x11_9 t424 x14_2 0 0 0) else (some false))) else (none)) = some r := H
                  have A39 := Aside0.mk A390
                  clear A390
                  by_cases c40 : x14_2 < (x11_9.length : Int)
                  · rw [if_pos c40] at H
                    have c40b0 : decide (x14_2 < (x11_9.length : Int)) = true := decide_eq_true c40
                    clear c40
                    replace H := Option.bind_eq_some_iff.mp H
                    obtain ⟨t431, A410, H⟩ := H
                    replace H : (if t428 = (mn (rd x11_9 x14_2) t431) then (billetlaw15_ShareTrims.l2 k2 t402 t406 t412 y415 x11_9 t424 x14_2 0 0 0) else (some false)) = some r := H
                    have A41 := Aside0.mk A410
                    clear A410
                    obtain ⟨ji42, hji42⟩ : ∃ j_ : Int, (mn (rd x11_9 x14_2) t431) = j_ := ⟨_, rfl⟩
                    replace H : (if t428 = (ji42) then (billetlaw15_ShareTrims.l2 k2 t402 t406 t412 y415 x11_9 t424 x14_2 0 0 0) else (some false)) = some r := by first | (rw [hji42] at H; exact H) | (simp only [hji42] at H ⊢; exact H)
                    (try rw [hji42] at A39)
                    (try rw [hji42] at A41)
                    have hji42_ : (if t431 < (rd x11_9 x14_2) then t431 else (rd x11_9 x14_2)) = ji42 := hji42
                    by_cases c43 : t428 = (ji42)
                    · rw [if_pos c43] at H
                      have c43b0 : (t428 == (ji42)) = true := beq_iff_eq.mpr c43
                      have c43b1 : (t428 != (ji42)) = false := bne_eq_false_iff_eq.mpr c43
                      clear c43
                      have H' := Aside0.mk H
                      clear H
                      have p427 : 0 ≤ (x14_2 : Int) := of_decide_eq_true (by first | (with_reducible assumption) | assumption)
                      have q427 : x14_2 < (y415.length : Int) := of_decide_eq_true (by first | (with_reducible assumption) | assumption)
                      obtain ⟨ad427, e427, hx427_0⟩ := Kd.at_string (Kd.R_reads' HO_10.out).2.2 x14_2 p427 q427
                      cases e427
                      replace p427 := eq_true p427
                      replace q427 := eq_true q427
                      obtain ⟨Ao44, co44, eo44⟩ := Kd.R_slice HO_13.out
                      subst eo44
                      go_wp2_with (first | (go_at_call 21; (with_reducible refine (billetlaw15_count.calls k2 _ _ t424 (rdOf ByteArray.empty y415 x14_2) (⟨#[]⟩ : ByteArray) t428 _ ?side1 ?side2 A39.out).mono ?_); (case side1 => repeat (first | exact (Kd.R_reads' HO_13.out).2.2 | (with_reducible refine Kd.C_alloc ?_ _) | (with_reducible refine Kd.C_drewN ?_ _) | (with_reducible refine Kd.C_drew ?_))); (case side2 => exact (Kd.R_reads' HO_13.out).2.1); rintro e w' ⟨rfl, ⟨nd, rfl⟩⟩; (try first | exact ⟨rfl, _, World.drewN_drewN _ _ _⟩ | exact ⟨rfl, _, Eq.trans (World.drewN_drewN _ _ _) (congrArg (World.drewN _) (Nat.add_assoc _ _ _))⟩); have p429 : 0 ≤ (x14_2 : Int) := of_decide_eq_true (by first | (with_reducible assumption) | assumption); have q429 : x14_2 < (x11_9.length : Int) := of_decide_eq_true (by first | (with_reducible assumption) | assumption); obtain ⟨ad429, e429, hx429_0⟩ := Kd.at_int (Kd.R_reads' HO_11.out).2.2 x14_2 p429 q429; cases e429; replace p429 := eq_true p429; replace q429 := eq_true q429; have p430 : 0 ≤ (x14_2 : Int) := of_decide_eq_true (by first | (with_reducible assumption) | assumption); have q430 : x14_2 < (y415.length : Int) := of_decide_eq_true (by first | (with_reducible assumption) | assumption); obtain ⟨ad430, e430, hx430_0⟩ := Kd.at_string (Kd.R_reads' HO_10.out).2.2 x14_2 p430 q430; obtain rfl : ad427 = ad430 := (by injection e430); replace p430 := eq_true p430; replace q430 := eq_true q430) | (go_at_call 21; (with_reducible refine (billetlaw15_count.calls k2 _ _ t406 (rdOf ByteArray.empty y415 x14_2) (⟨#[]⟩ : ByteArray) t431 _ ?side1 ?side2 A41.out).mono ?_); (case side1 => repeat (first | exact (Kd.R_reads' HO_8.out).2.2 | (with_reducible refine Kd.C_alloc ?_ _) | (with_reducible refine Kd.C_drewN ?_ _) | (with_reducible refine Kd.C_drew ?_))); (case side2 => exact (Kd.R_reads' HO_8.out).2.1); rintro e w' ⟨rfl, ⟨nd, rfl⟩⟩; (try first | exact ⟨rfl, _, World.drewN_drewN _ _ _⟩ | exact ⟨rfl, _, Eq.trans (World.drewN_drewN _ _ _) (congrArg (World.drewN _) (Nat.add_assoc _ _ _))⟩)))
                      repeat (go_quiet (first | (go_at_call 21; (with_reducible refine (billetlaw15_count.calls k2 _ _ t424 (rdOf ByteArray.empty y415 x14_2) (⟨#[]⟩ : ByteArray) t428 _ ?side1 ?side2 A39.out).mono ?_); (case side1 => repeat (first | exact (Kd.R_reads' HO_13.out).2.2 | (with_reducible refine Kd.C_alloc ?_ _) | (with_reducible refine Kd.C_drewN ?_ _) | (with_reducible refine Kd.C_drew ?_))); (case side2 => exact (Kd.R_reads' HO_13.out).2.1); rintro e w' ⟨rfl, ⟨nd, rfl⟩⟩; (try first | exact ⟨rfl, _, World.drewN_drewN _ _ _⟩ | exact ⟨rfl, _, Eq.trans (World.drewN_drewN _ _ _) (congrArg (World.drewN _) (Nat.add_assoc _ _ _))⟩); have p429 : 0 ≤ (x14_2 : Int) := of_decide_eq_true (by first | (with_reducible assumption) | assumption); have q429 : x14_2 < (x11_9.length : Int) := of_decide_eq_true (by first | (with_reducible assumption) | assumption); obtain ⟨ad429, e429, hx429_0⟩ := Kd.at_int (Kd.R_reads' HO_11.out).2.2 x14_2 p429 q429; cases e429; replace p429 := eq_true p429; replace q429 := eq_true q429; have p430 : 0 ≤ (x14_2 : Int) := of_decide_eq_true (by first | (with_reducible assumption) | assumption); have q430 : x14_2 < (y415.length : Int) := of_decide_eq_true (by first | (with_reducible assumption) | assumption); obtain ⟨ad430, e430, hx430_0⟩ := Kd.at_string (Kd.R_reads' HO_10.out).2.2 x14_2 p430 q430; obtain rfl : ad427 = ad430 := (by injection e430); replace p430 := eq_true p430; replace q430 := eq_true q430) | (go_at_call 21; (with_reducible refine (billetlaw15_count.calls k2 _ _ t406 (rdOf ByteArray.empty y415 x14_2) (⟨#[]⟩ : ByteArray) t431 _ ?side1 ?side2 A41.out).mono ?_); (case side1 => repeat (first | exact (Kd.R_reads' HO_8.out).2.2 | (with_reducible refine Kd.C_alloc ?_ _) | (with_reducible refine Kd.C_drewN ?_ _) | (with_reducible refine Kd.C_drew ?_))); (case side2 => exact (Kd.R_reads' HO_8.out).2.1); rintro e w' ⟨rfl, ⟨nd, rfl⟩⟩; (try first | exact ⟨rfl, _, World.drewN_drewN _ _ _⟩ | exact ⟨rfl, _, Eq.trans (World.drewN_drewN _ _ _) (congrArg (World.drewN _) (Nat.add_assoc _ _ _))⟩))); try go_wp2_with (first | (go_at_call 21; (with_reducible refine (billetlaw15_count.calls k2 _ _ t424 (rdOf ByteArray.empty y415 x14_2) (⟨#[]⟩ : ByteArray) t428 _ ?side1 ?side2 A39.out).mono ?_); (case side1 => repeat (first | exact (Kd.R_reads' HO_13.out).2.2 | (with_reducible refine Kd.C_alloc ?_ _) | (with_reducible refine Kd.C_drewN ?_ _) | (with_reducible refine Kd.C_drew ?_))); (case side2 => exact (Kd.R_reads' HO_13.out).2.1); rintro e w' ⟨rfl, ⟨nd, rfl⟩⟩; (try first | exact ⟨rfl, _, World.drewN_drewN _ _ _⟩ | exact ⟨rfl, _, Eq.trans (World.drewN_drewN _ _ _) (congrArg (World.drewN _) (Nat.add_assoc _ _ _))⟩); have p429 : 0 ≤ (x14_2 : Int) := of_decide_eq_true (by first | (with_reducible assumption) | assumption); have q429 : x14_2 < (x11_9.length : Int) := of_decide_eq_true (by first | (with_reducible assumption) | assumption); obtain ⟨ad429, e429, hx429_0⟩ := Kd.at_int (Kd.R_reads' HO_11.out).2.2 x14_2 p429 q429; cases e429; replace p429 := eq_true p429; replace q429 := eq_true q429; have p430 : 0 ≤ (x14_2 : Int) := of_decide_eq_true (by first | (with_reducible assumption) | assumption); have q430 : x14_2 < (y415.length : Int) := of_decide_eq_true (by first | (with_reducible assumption) | assumption); obtain ⟨ad430, e430, hx430_0⟩ := Kd.at_string (Kd.R_reads' HO_10.out).2.2 x14_2 p430 q430; obtain rfl : ad427 = ad430 := (by injection e430); replace p430 := eq_true p430; replace q430 := eq_true q430) | (go_at_call 21; (with_reducible refine (billetlaw15_count.calls k2 _ _ t406 (rdOf ByteArray.empty y415 x14_2) (⟨#[]⟩ : ByteArray) t431 _ ?side1 ?side2 A41.out).mono ?_); (case side1 => repeat (first | exact (Kd.R_reads' HO_8.out).2.2 | (with_reducible refine Kd.C_alloc ?_ _) | (with_reducible refine Kd.C_drewN ?_ _) | (with_reducible refine Kd.C_drew ?_))); (case side2 => exact (Kd.R_reads' HO_8.out).2.1); rintro e w' ⟨rfl, ⟨nd, rfl⟩⟩; (try first | exact ⟨rfl, _, World.drewN_drewN _ _ _⟩ | exact ⟨rfl, _, Eq.trans (World.drewN_drewN _ _ _) (congrArg (World.drewN _) (Nat.add_assoc _ _ _))⟩))))
                      go_loopg [15, 16, 17] k2 (fun kq v15 v16 v17 w' => ∃ (x15_3 : Int) (x16_3 : Int) (x17_3 : Int), v15 = .int .i64 x15_3 ∧ v16 = .int .i64 x16_3 ∧ v17 = .int .i64 x17_3 ∧ Aside0 (billetlaw15_ShareTrims.l2 kq t402 t406 t412 y415 x11_9 t424 x14_2 x15_3 x16_3 x17_3 = some r) ∧ Aside0 (kq ≤ k2) ∧ Aside0 (Kd.R k40 40 w' w.heap.size (fun k_ => some k_ ≠ ((.slice Ao32 t412.length co32) : Value).ownBlock ∧ some k_ ≠ ((.slice Ao44 t424.length co44) : Value).ownBlock) (.slice Ao31 t406.length co31) t406) ∧ Aside0 (Kd.R k40 40 w' w.heap.size (fun k_ => some k_ ≠ ((.slice Ao31 t406.length co31) : Value).ownBlock ∧ some k_ ≠ ((.slice Ao44 t424.length co44) : Value).ownBlock) (.slice Ao32 t412.length co32) t412) ∧ Aside0 (Kd.R Kd.string 9 w' w.heap.size (fun _ => True) (.slice (some ad427) y415.length co33) y415) ∧ Aside0 (Kd.R (Kd.int .i64) 3 w' w.heap.size (fun _ => True) (.slice (some ad429) x11_9.length co34) x11_9) ∧ Aside0 (Kd.R k40 40 w' w.heap.size (fun k_ => some k_ ≠ ((.slice Ao31 t406.length co31) : Value).ownBlock ∧ some k_ ≠ ((.slice Ao32 t412.length co32) : Value).ownBlock) (.slice Ao44 t424.length co44) t424) ∧ Aside0 (Below w.heap.size w w'))
                      case atStart => exact ⟨(0), (0), (0), (by first | rfl | (simp; done) | (simp [*]; done)), (by first | rfl | (simp; done) | (simp [*]; done)), (by first | rfl | (simp; done) | (simp [*]; done)), H', ⟨Nat.le_refl _⟩, ⟨by (with_reducible repeat (first | apply Kd.R_alloc | apply Kd.R_drewN | apply Kd.R_drew)); exact HO_8.out⟩, ⟨by (with_reducible repeat (first | apply Kd.R_alloc | apply Kd.R_drewN | apply Kd.R_drew)); exact HO_9.out⟩, ⟨by (with_reducible repeat (first | apply Kd.R_alloc | apply Kd.R_drewN | apply Kd.R_drew)); exact HO_10.out⟩, ⟨by (with_reducible repeat (first | apply Kd.R_alloc | apply Kd.R_drewN | apply Kd.R_drew)); exact HO_11.out⟩, ⟨by (with_reducible repeat (first | apply Kd.R_alloc | apply Kd.R_drewN | apply Kd.R_drew)); exact HO_13.out⟩, ⟨by repeat (first | (with_reducible first | exact HB.out | apply below_alloc | apply pw_below_drewN | apply below_drew1) | exact HB.out)⟩⟩
                      case round =>
                        clear H'
                        try clear c1
                        try clear c2
                        try clear p2
                        try clear q2
                        try clear hx2
                        try clear c3
                        try clear c4
                        try clear p4
                        try clear q4
                        try clear hx4
                        try clear c6
                        try clear p6
                        try clear c9
                        try clear c9b0
                        try clear c9b1
                        try clear c22
                        try clear c22b0
                        try clear c23
                        try clear c23b0
                        try clear c24
                        try clear c24b0
                        try clear c26
                        try clear c26b0
                        try clear p27
                        try clear q27
                        try clear hx27
                        try clear hf27
                        try clear c36
                        try clear c36b0
                        try clear c37
                        try clear c37b0
                        try clear c38
                        try clear c38b0
                        try clear c40
                        try clear c40b0
                        try clear p42
                        try clear q42
                        try clear hx42
                        try clear c43
                        try clear c43b0
                        try clear c43b1
                        try clear p43
                        try clear q43
                        try clear hx43
                        try clear hx27_0
                        try clear hx421_0
                        try clear hx427_0
                        try clear hx429_0
                        try clear hx430_0
                        try clear p2
                        try clear p27
                        try clear p4
                        try clear p421
                        try clear p427
                        try clear p429
                        try clear p430
                        try clear p6
                        try clear q2
                        try clear q27
                        try clear q4
                        try clear q421
                        try clear q427
                        try clear q429
                        try clear q430
                        obtain ⟨x15_3, x16_3, x17_3, rfl, rfl, rfl, HA, HK3, HO_8, HO_9, HO_10, HO_11, HO_13, HB⟩ := hrel
                        cases gk with
                        | zero => exact absurd HA.out (by simp [billetlaw15_ShareTrims.l2])
                        | succ k3 =>
                          have H := HA.out
                          clear HA
                          simp only [billetlaw15_ShareTrims.l2] at H
                          by_cases c45 : x17_3 < (t406.length : Int)
                          · rw [if_pos c45] at H
                            have c45b0 : decide (x17_3 < (t406.length : Int)) = true := decide_eq_true c45
                            clear c45
                            by_cases c46 : 0 ≤ x17_3
                            · rw [if_pos c46] at H
                              have c46b0 : decide (0 ≤ x17_3) = true := decide_eq_true c46
                              clear c46
                              by_cases c47 : 0 ≤ x14_2
                              · rw [if_pos c47] at H
                                have c47b0 : decide (0 ≤ x14_2) = true := decide_eq_true c47
                                clear c47
                                by_cases c48 : x14_2 < (y415.length : Int)
                                · rw [if_pos c48] at H
                                  have c48b0 : decide (x14_2 < (y415.length : Int)) = true := decide_eq_true c48
                                  clear c48
                                  by_cases c49 : ((rd_T40 t406 x17_3).f0).toList = (rdOf ByteArray.empty y415 x14_2).toList
                                  · rw [if_pos c49] at H
                                    have c49b0 : (((rd_T40 t406 x17_3).f0).toList == (rdOf ByteArray.empty y415 x14_2).toList) = true := beq_iff_eq.mpr c49
                                    have c49b1 : (((rd_T40 t406 x17_3).f0).toList != (rdOf ByteArray.empty y415 x14_2).toList) = false := bne_eq_false_iff_eq.mpr c49
                                    clear c49
                                    replace H := Option.bind_eq_some_iff.mp H
                                    obtain ⟨t437, A500, H⟩ := H
                                    replace H : (if t437 > ((rd_T40 t406 x17_3).f2) then (some false) else ((billetlaw15_count.f k3 t412 (rdOf ByteArray.empty y415 x14_2) ((rd_T40 t406 x17_3).f1)).bind fun t441 => ((billetlaw15_count.f k3 t412 (rdOf ByteArray.empty y415 x14_2) ((rd_T40 t406 x17_3).f1)).bind fun t445 => (billetlaw15_ShareTrims.l2 k3 t402 t406 t412 y415 x11_9 t424 x14_2 (wrap64 (x15_3 + (mn t437 t441))) (wrap64 (x16_3 + (mn ((rd_T40 t406 x17_3).f2) t445))) (wrap64 (x17_3 + 1)))))) = some r := H
                                    have A50 := Aside0.mk A500
                                    clear A500
                                    by_cases c51 : t437 > ((rd_T40 t406 x17_3).f2)
                                    · rw [if_pos c51] at H
                                      have c51b0 : decide (((rd_T40 t406 x17_3).f2) < t437) = true := decide_eq_true c51
                                      clear c51
                                      obtain rfl := Option.some.inj H
                                      have p433 : 0 ≤ (x17_3 : Int) := of_decide_eq_true (by first | (with_reducible assumption) | assumption)
                                      have q433 : x17_3 < (t406.length : Int) := of_decide_eq_true (by first | (with_reducible assumption) | assumption)
                                      obtain ⟨ad433, e433, hx433_0, hx433_1, hx433_2⟩ := at_T40 (Kd.R_reads' HO_8.out).2.2 x17_3 p433 q433
                                      cases e433
                                      replace p433 := eq_true p433
                                      replace q433 := eq_true q433
                                      have p434 : 0 ≤ (x14_2 : Int) := of_decide_eq_true (by first | (with_reducible assumption) | assumption)
                                      have q434 : x14_2 < (y415.length : Int) := of_decide_eq_true (by first | (with_reducible assumption) | assumption)
                                      obtain ⟨ad434, e434, hx434_0⟩ := Kd.at_string (Kd.R_reads' HO_10.out).2.2 x14_2 p434 q434
                                      obtain rfl : ad427 = ad434 := (by injection e434)
                                      replace p434 := eq_true p434
                                      replace q434 := eq_true q434
                                      have p435 : 0 ≤ (x14_2 : Int) := of_decide_eq_true (by first | (with_reducible assumption) | assumption)
                                      have q435 : x14_2 < (y415.length : Int) := of_decide_eq_true (by first | (with_reducible assumption) | assumption)
                                      obtain ⟨ad435, e435, hx435_0⟩ := Kd.at_string (Kd.R_reads' HO_10.out).2.2 x14_2 p435 q435
                                      obtain rfl : ad427 = ad435 := (by injection e435)
                                      replace p435 := eq_true p435
                                      replace q435 := eq_true q435
                                      have p436 : 0 ≤ (x17_3 : Int) := of_decide_eq_true (by first | (with_reducible assumption) | assumption)
                                      have q436 : x17_3 < (t406.length : Int) := of_decide_eq_true (by first | (with_reducible assumption) | assumption)
                                      obtain ⟨ad436, e436, hx436_0, hx436_1, hx436_2⟩ := at_T40 (Kd.R_reads' HO_8.out).2.2 x17_3 p436 q436
                                      obtain rfl : ad433 = ad436 := (by injection e436)
                                      replace p436 := eq_true p436
                                      replace q436 := eq_true q436
                                      go_wp2_with (first | (go_at_call 21; (with_reducible refine (billetlaw15_count.calls k3 _ _ t424 (rdOf ByteArray.empty y415 x14_2) ((rd_T40 t406 x17_3).f1) t437 _ ?side1 ?side2 A50.out).mono ?_); (case side1 => repeat (first | exact (Kd.R_reads' HO_13.out).2.2 | (with_reducible refine Kd.C_alloc ?_ _) | (with_reducible refine Kd.C_drewN ?_ _) | (with_reducible refine Kd.C_drew ?_))); (case side2 => exact (Kd.R_reads' HO_13.out).2.1); rintro e w' ⟨rfl, ⟨nd, rfl⟩⟩; (try first | exact ⟨rfl, _, World.drewN_drewN _ _ _⟩ | exact ⟨rfl, _, Eq.trans (World.drewN_drewN _ _ _) (congrArg (World.drewN _) (Nat.add_assoc _ _ _))⟩); have p438 : 0 ≤ (x17_3 : Int) := of_decide_eq_true (by first | (with_reducible assumption) | assumption); have q438 : x17_3 < (t406.length : Int) := of_decide_eq_true (by first | (with_reducible assumption) | assumption); obtain ⟨ad438, e438, hx438_0, hx438_1, hx438_2⟩ := at_T40 (Kd.R_reads' HO_8.out).2.2 x17_3 p438 q438; obtain rfl : ad433 = ad438 := (by injection e438); replace p438 := eq_true p438; replace q438 := eq_true q438))
                                      repeat (go_quiet (first | (go_at_call 21; (with_reducible refine (billetlaw15_count.calls k3 _ _ t424 (rdOf ByteArray.empty y415 x14_2) ((rd_T40 t406 x17_3).f1) t437 _ ?side1 ?side2 A50.out).mono ?_); (case side1 => repeat (first | exact (Kd.R_reads' HO_13.out).2.2 | (with_reducible refine Kd.C_alloc ?_ _) | (with_reducible refine Kd.C_drewN ?_ _) | (with_reducible refine Kd.C_drew ?_))); (case side2 => exact (Kd.R_reads' HO_13.out).2.1); rintro e w' ⟨rfl, ⟨nd, rfl⟩⟩; (try first | exact ⟨rfl, _, World.drewN_drewN _ _ _⟩ | exact ⟨rfl, _, Eq.trans (World.drewN_drewN _ _ _) (congrArg (World.drewN _) (Nat.add_assoc _ _ _))⟩); have p438 : 0 ≤ (x17_3 : Int) := of_decide_eq_true (by first | (with_reducible assumption) | assumption); have q438 : x17_3 < (t406.length : Int) := of_decide_eq_true (by first | (with_reducible assumption) | assumption); obtain ⟨ad438, e438, hx438_0, hx438_1, hx438_2⟩ := at_T40 (Kd.R_reads' HO_8.out).2.2 x17_3 p438 q438; obtain rfl : ad433 = ad438 := (by injection e438); replace p438 := eq_true p438; replace q438 := eq_true q438)); try go_wp2_with (first | (go_at_call 21; (with_reducible refine (billetlaw15_count.calls k3 _ _ t424 (rdOf ByteArray.empty y415 x14_2) ((rd_T40 t406 x17_3).f1) t437 _ ?side1 ?side2 A50.out).mono ?_); (case side1 => repeat (first | exact (Kd.R_reads' HO_13.out).2.2 | (with_reducible refine Kd.C_alloc ?_ _) | (with_reducible refine Kd.C_drewN ?_ _) | (with_reducible refine Kd.C_drew ?_))); (case side2 => exact (Kd.R_reads' HO_13.out).2.1); rintro e w' ⟨rfl, ⟨nd, rfl⟩⟩; (try first | exact ⟨rfl, _, World.drewN_drewN _ _ _⟩ | exact ⟨rfl, _, Eq.trans (World.drewN_drewN _ _ _) (congrArg (World.drewN _) (Nat.add_assoc _ _ _))⟩); have p438 : 0 ≤ (x17_3 : Int) := of_decide_eq_true (by first | (with_reducible assumption) | assumption); have q438 : x17_3 < (t406.length : Int) := of_decide_eq_true (by first | (with_reducible assumption) | assumption); obtain ⟨ad438, e438, hx438_0, hx438_1, hx438_2⟩ := at_T40 (Kd.R_reads' HO_8.out).2.2 x17_3 p438 q438; obtain rfl : ad433 = ad438 := (by injection e438); replace p438 := eq_true p438; replace q438 := eq_true q438)))
                                      go_ret
                                      exact ⟨by first | rfl | (simp [errW_none, errW_some] <;> rfl) | (simp only [← hji42]; first | rfl | (simp [errW_none, errW_some] <;> rfl)) | (simp [*, errW_none, errW_some] <;> rfl), by repeat (first | (with_reducible first | exact HB.out | apply below_alloc | apply pw_below_drewN | apply below_drew1) | exact HB.out)⟩
                                    · rw [if_neg c51] at H
                                      have c51b0 : decide (((rd_T40 t406 x17_3).f2) < t437) = false := decide_eq_false c51
                                      clear c51
                                      replace H := Option.bind_eq_some_iff.mp H
                                      obtain ⟨t441, A520, H⟩ := H
                                      replace H : ((billetlaw15_count.f k3 t412 (rdOf ByteArray.empty y415 x14_2) ((rd_T40 t406 x17_3).f1)).bind fun t445 => (billetlaw15_ShareTrims.l2 k3 t402 t406 t412 y415 x11_9 t424 x14_2 (wrap64 (x15_3 + (mn t437 t441))) (wrap64 (x16_3 + (mn ((rd_T40 t406 x17_3).f2) t445))) (wrap64 (x17_3 + 1)))) = some r := H
                                      have A52 := Aside0.mk A520
                                      clear A520
                                      obtain ⟨ji53, hji53⟩ : ∃ j_ : Int, (mn t437 t441) = j_ := ⟨_, rfl⟩
                                      replace H : ((billetlaw15_count.f k3 t412 (rdOf ByteArray.empty y415 x14_2) ((rd_T40 t406 x17_3).f1)).bind fun t445 => (billetlaw15_ShareTrims.l2 k3 t402 t406 t412 y415 x11_9 t424 x14_2 (wrap64 (x15_3 + (ji53))) (wrap64 (x16_3 + (mn ((rd_T40 t406 x17_3).f2) t445))) (wrap64 (x17_3 + 1)))) = some r := by first | (rw [hji53] at H; exact H) | (simp only [hji53] at H ⊢; exact H)
                                      (try rw [hji53] at A50)
                                      (try rw [hji53] at A52)
                                      have hji53_ : (if t441 < t437 then t441 else t437) = ji53 := hji53
                                      replace H := Option.bind_eq_some_iff.mp H
                                      obtain ⟨t445, A540, H⟩ := H
                                      replace H : (billetlaw15_ShareTrims.l2 k3 t402 t406 t412 y415 x11_9 t424 x14_2 (wrap64 (x15_3 + (ji53))) (wrap64 (x16_3 + (mn ((rd_T40 t406 x17_3).f2) t445))) (wrap64 (x17_3 + 1))) = some r := H
                                      have A54 := Aside0.mk A540
                                      clear A540
                                      obtain rfl : t441 = t445 := Option.some.inj (A52.out.symm.trans A54.out)
                                      obtain ⟨ji55, hji55⟩ : ∃ j_ : Int, (mn ((rd_T40 t406 x17_3).f2) t441) = j_ := ⟨_, rfl⟩
                                      replace H : (billetlaw15_ShareTrims.l2 k3 t402 t406 t412 y415 x11_9 t424 x14_2 (wrap64 (x15_3 + (ji53))) (wrap64 (x16_3 + (ji55))) (wrap64 (x17_3 + 1))) = some r := by first | (rw [hji55] at H; exact H) | (simp only [hji55] at H ⊢; exact H)
                                      (try rw [hji55] at A50)
                                      (try rw [hji55] at A52)
                                      (try rw [hji55] at A54)
                                      have hji55_ : (if t441 < ((rd_T40 t406 x17_3).f2) then t441 else ((rd_T40 t406 x17_3).f2)) = ji55 := hji55
                                      have H' := Aside0.mk H
                                      clear H
                                      have p433 : 0 ≤ (x17_3 : Int) := of_decide_eq_true (by first | (with_reducible assumption) | assumption)
                                      have q433 : x17_3 < (t406.length : Int) := of_decide_eq_true (by first | (with_reducible assumption) | assumption)
                                      obtain ⟨ad433, e433, hx433_0, hx433_1, hx433_2⟩ := at_T40 (Kd.R_reads' HO_8.out).2.2 x17_3 p433 q433
                                      cases e433
                                      replace p433 := eq_true p433
                                      replace q433 := eq_true q433
                                      have p434 : 0 ≤ (x14_2 : Int) := of_decide_eq_true (by first | (with_reducible assumption) | assumption)
                                      have q434 : x14_2 < (y415.length : Int) := of_decide_eq_true (by first | (with_reducible assumption) | assumption)
                                      obtain ⟨ad434, e434, hx434_0⟩ := Kd.at_string (Kd.R_reads' HO_10.out).2.2 x14_2 p434 q434
                                      obtain rfl : ad427 = ad434 := (by injection e434)
                                      replace p434 := eq_true p434
                                      replace q434 := eq_true q434
                                      have p435 : 0 ≤ (x14_2 : Int) := of_decide_eq_true (by first | (with_reducible assumption) | assumption)
                                      have q435 : x14_2 < (y415.length : Int) := of_decide_eq_true (by first | (with_reducible assumption) | assumption)
                                      obtain ⟨ad435, e435, hx435_0⟩ := Kd.at_string (Kd.R_reads' HO_10.out).2.2 x14_2 p435 q435
                                      obtain rfl : ad427 = ad435 := (by injection e435)
                                      replace p435 := eq_true p435
                                      replace q435 := eq_true q435
                                      have p436 : 0 ≤ (x17_3 : Int) := of_decide_eq_true (by first | (with_reducible assumption) | assumption)
                                      have q436 : x17_3 < (t406.length : Int) := of_decide_eq_true (by first | (with_reducible assumption) | assumption)
                                      obtain ⟨ad436, e436, hx436_0, hx436_1, hx436_2⟩ := at_T40 (Kd.R_reads' HO_8.out).2.2 x17_3 p436 q436
                                      obtain rfl : ad433 = ad436 := (by injection e436)
                                      replace p436 := eq_true p436
                                      replace q436 := eq_true q436
                                      go_wp2_with (first | (go_at_call 21; (with_reducible refine (billetlaw15_count.calls k3 _ _ t424 (rdOf ByteArray.empty y415 x14_2) ((rd_T40 t406 x17_3).f1) t437 _ ?side1 ?side2 A50.out).mono ?_); (case side1 => repeat (first | exact (Kd.R_reads' HO_13.out).2.2 | (with_reducible refine Kd.C_alloc ?_ _) | (with_reducible refine Kd.C_drewN ?_ _) | (with_reducible refine Kd.C_drew ?_))); (case side2 => exact (Kd.R_reads' HO_13.out).2.1); rintro e w' ⟨rfl, ⟨nd, rfl⟩⟩; (try first | exact ⟨rfl, _, World.drewN_drewN _ _ _⟩ | exact ⟨rfl, _, Eq.trans (World.drewN_drewN _ _ _) (congrArg (World.drewN _) (Nat.add_assoc _ _ _))⟩); have p438 : 0 ≤ (x17_3 : Int) := of_decide_eq_true (by first | (with_reducible assumption) | assumption); have q438 : x17_3 < (t406.length : Int) := of_decide_eq_true (by first | (with_reducible assumption) | assumption); obtain ⟨ad438, e438, hx438_0, hx438_1, hx438_2⟩ := at_T40 (Kd.R_reads' HO_8.out).2.2 x17_3 p438 q438; obtain rfl : ad433 = ad438 := (by injection e438); replace p438 := eq_true p438; replace q438 := eq_true q438; have p439 : 0 ≤ (x14_2 : Int) := of_decide_eq_true (by first | (with_reducible assumption) | assumption); have q439 : x14_2 < (y415.length : Int) := of_decide_eq_true (by first | (with_reducible assumption) | assumption); obtain ⟨ad439, e439, hx439_0⟩ := Kd.at_string (Kd.R_reads' HO_10.out).2.2 x14_2 p439 q439; obtain rfl : ad427 = ad439 := (by injection e439); replace p439 := eq_true p439; replace q439 := eq_true q439; have p440 : 0 ≤ (x17_3 : Int) := of_decide_eq_true (by first | (with_reducible assumption) | assumption); have q440 : x17_3 < (t406.length : Int) := of_decide_eq_true (by first | (with_reducible assumption) | assumption); obtain ⟨ad440, e440, hx440_0, hx440_1, hx440_2⟩ := at_T40 (Kd.R_reads' HO_8.out).2.2 x17_3 p440 q440; obtain rfl : ad433 = ad440 := (by injection e440); replace p440 := eq_true p440; replace q440 := eq_true q440) | (go_at_call 21; (with_reducible refine (billetlaw15_count.calls k3 _ _ t412 (rdOf ByteArray.empty y415 x14_2) ((rd_T40 t406 x17_3).f1) t441 _ ?side1 ?side2 A52.out).mono ?_); (case side1 => repeat (first | exact (Kd.R_reads' HO_9.out).2.2 | (with_reducible refine Kd.C_alloc ?_ _) | (with_reducible refine Kd.C_drewN ?_ _) | (with_reducible refine Kd.C_drew ?_))); (case side2 => exact (Kd.R_reads' HO_9.out).2.1); rintro e w' ⟨rfl, ⟨nd, rfl⟩⟩; (try first | exact ⟨rfl, _, World.drewN_drewN _ _ _⟩ | exact ⟨rfl, _, Eq.trans (World.drewN_drewN _ _ _) (congrArg (World.drewN _) (Nat.add_assoc _ _ _))⟩); have p442 : 0 ≤ (x17_3 : Int) := of_decide_eq_true (by first | (with_reducible assumption) | assumption); have q442 : x17_3 < (t406.length : Int) := of_decide_eq_true (by first | (with_reducible assumption) | assumption); obtain ⟨ad442, e442, hx442_0, hx442_1, hx442_2⟩ := at_T40 (Kd.R_reads' HO_8.out).2.2 x17_3 p442 q442; obtain rfl : ad433 = ad442 := (by injection e442); replace p442 := eq_true p442; replace q442 := eq_true q442; have p443 : 0 ≤ (x14_2 : Int) := of_decide_eq_true (by first | (with_reducible assumption) | assumption); have q443 : x14_2 < (y415.length : Int) := of_decide_eq_true (by first | (with_reducible assumption) | assumption); obtain ⟨ad443, e443, hx443_0⟩ := Kd.at_string (Kd.R_reads' HO_10.out).2.2 x14_2 p443 q443; obtain rfl : ad427 = ad443 := (by injection e443); replace p443 := eq_true p443; replace q443 := eq_true q443; have p444 : 0 ≤ (x17_3 : Int) := of_decide_eq_true (by first | (with_reducible assumption) | assumption); have q444 : x17_3 < (t406.length : Int) := of_decide_eq_true (by first | (with_reducible assumption) | assumption); obtain ⟨ad444, e444, hx444_0, hx444_1, hx444_2⟩ := at_T40 (Kd.R_reads' HO_8.out).2.2 x17_3 p444 q444; obtain rfl : ad433 = ad444 := (by injection e444); replace p444 := eq_true p444; replace q444 := eq_true q444) | (go_at_call 21; (with_reducible refine (billetlaw15_count.calls k3 _ _ t412 (rdOf ByteArray.empty y415 x14_2) ((rd_T40 t406 x17_3).f1) t441 _ ?side1 ?side2 A54.out).mono ?_); (case side1 => repeat (first | exact (Kd.R_reads' HO_9.out).2.2 | (with_reducible refine Kd.C_alloc ?_ _) | (with_reducible refine Kd.C_drewN ?_ _) | (with_reducible refine Kd.C_drew ?_))); (case side2 => exact (Kd.R_reads' HO_9.out).2.1); rintro e w' ⟨rfl, ⟨nd, rfl⟩⟩; (try first | exact ⟨rfl, _, World.drewN_drewN _ _ _⟩ | exact ⟨rfl, _, Eq.trans (World.drewN_drewN _ _ _) (congrArg (World.drewN _) (Nat.add_assoc _ _ _))⟩)))
                                      repeat (go_quiet (first | (go_at_call 21; (with_reducible refine (billetlaw15_count.calls k3 _ _ t424 (rdOf ByteArray.empty y415 x14_2) ((rd_T40 t406 x17_3).f1) t437 _ ?side1 ?side2 A50.out).mono ?_); (case side1 => repeat (first | exact (Kd.R_reads' HO_13.out).2.2 | (with_reducible refine Kd.C_alloc ?_ _) | (with_reducible refine Kd.C_drewN ?_ _) | (with_reducible refine Kd.C_drew ?_))); (case side2 => exact (Kd.R_reads' HO_13.out).2.1); rintro e w' ⟨rfl, ⟨nd, rfl⟩⟩; (try first | exact ⟨rfl, _, World.drewN_drewN _ _ _⟩ | exact ⟨rfl, _, Eq.trans (World.drewN_drewN _ _ _) (congrArg (World.drewN _) (Nat.add_assoc _ _ _))⟩); have p438 : 0 ≤ (x17_3 : Int) := of_decide_eq_true (by first | (with_reducible assumption) | assumption); have q438 : x17_3 < (t406.length : Int) := of_decide_eq_true (by first | (with_reducible assumption) | assumption); obtain ⟨ad438, e438, hx438_0, hx438_1, hx438_2⟩ := at_T40 (Kd.R_reads' HO_8.out).2.2 x17_3 p438 q438; obtain rfl : ad433 = ad438 := (by injection e438); replace p438 := eq_true p438; replace q438 := eq_true q438; have p439 : 0 ≤ (x14_2 : Int) := of_decide_eq_true (by first | (with_reducible assumption) | assumption); have q439 : x14_2 < (y415.length : Int) := of_decide_eq_true (by first | (with_reducible assumption) | assumption); obtain ⟨ad439, e439, hx439_0⟩ := Kd.at_string (Kd.R_reads' HO_10.out).2.2 x14_2 p439 q439; obtain rfl : ad427 = ad439 := (by injection e439); replace p439 := eq_true p439; replace q439 := eq_true q439; have p440 : 0 ≤ (x17_3 : Int) := of_decide_eq_true (by first | (with_reducible assumption) | assumption); have q440 : x17_3 < (t406.length : Int) := of_decide_eq_true (by first | (with_reducible assumption) | assumption); obtain ⟨ad440, e440, hx440_0, hx440_1, hx440_2⟩ := at_T40 (Kd.R_reads' HO_8.out).2.2 x17_3 p440 q440; obtain rfl : ad433 = ad440 := (by injection e440); replace p440 := eq_true p440; replace q440 := eq_true q440) | (go_at_call 21; (with_reducible refine (billetlaw15_count.calls k3 _ _ t412 (rdOf ByteArray.empty y415 x14_2) ((rd_T40 t406 x17_3).f1) t441 _ ?side1 ?side2 A52.out).mono ?_); (case side1 => repeat (first | exact (Kd.R_reads' HO_9.out).2.2 | (with_reducible refine Kd.C_alloc ?_ _) | (with_reducible refine Kd.C_drewN ?_ _) | (with_reducible refine Kd.C_drew ?_))); (case side2 => exact (Kd.R_reads' HO_9.out).2.1); rintro e w' ⟨rfl, ⟨nd, rfl⟩⟩; (try first | exact ⟨rfl, _, World.drewN_drewN _ _ _⟩ | exact ⟨rfl, _, Eq.trans (World.drewN_drewN _ _ _) (congrArg (World.drewN _) (Nat.add_assoc _ _ _))⟩); have p442 : 0 ≤ (x17_3 : Int) := of_decide_eq_true (by first | (with_reducible assumption) | assumption); have q442 : x17_3 < (t406.length : Int) := of_decide_eq_true (by first | (with_reducible assumption) | assumption); obtain ⟨ad442, e442, hx442_0, hx442_1, hx442_2⟩ := at_T40 (Kd.R_reads' HO_8.out).2.2 x17_3 p442 q442; obtain rfl : ad433 = ad442 := (by injection e442); replace p442 := eq_true p442; replace q442 := eq_true q442; have p443 : 0 ≤ (x14_2 : Int) := of_decide_eq_true (by first | (with_reducible assumption) | assumption); have q443 : x14_2 < (y415.length : Int) := of_decide_eq_true (by first | (with_reducible assumption) | assumption); obtain ⟨ad443, e443, hx443_0⟩ := Kd.at_string (Kd.R_reads' HO_10.out).2.2 x14_2 p443 q443; obtain rfl : ad427 = ad443 := (by injection e443); replace p443 := eq_true p443; replace q443 := eq_true q443; have p444 : 0 ≤ (x17_3 : Int) := of_decide_eq_true (by first | (with_reducible assumption) | assumption); have q444 : x17_3 < (t406.length : Int) := of_decide_eq_true (by first | (with_reducible assumption) | assumption); obtain ⟨ad444, e444, hx444_0, hx444_1, hx444_2⟩ := at_T40 (Kd.R_reads' HO_8.out).2.2 x17_3 p444 q444; obtain rfl : ad433 = ad444 := (by injection e444); replace p444 := eq_true p444; replace q444 := eq_true q444) | (go_at_call 21; (with_reducible refine (billetlaw15_count.calls k3 _ _ t412 (rdOf ByteArray.empty y415 x14_2) ((rd_T40 t406 x17_3).f1) t441 _ ?side1 ?side2 A54.out).mono ?_); (case side1 => repeat (first | exact (Kd.R_reads' HO_9.out).2.2 | (with_reducible refine Kd.C_alloc ?_ _) | (with_reducible refine Kd.C_drewN ?_ _) | (with_reducible refine Kd.C_drew ?_))); (case side2 => exact (Kd.R_reads' HO_9.out).2.1); rintro e w' ⟨rfl, ⟨nd, rfl⟩⟩; (try first | exact ⟨rfl, _, World.drewN_drewN _ _ _⟩ | exact ⟨rfl, _, Eq.trans (World.drewN_drewN _ _ _) (congrArg (World.drewN _) (Nat.add_assoc _ _ _))⟩))); try go_wp2_with (first | (go_at_call 21; (with_reducible refine (billetlaw15_count.calls k3 _ _ t424 (rdOf ByteArray.empty y415 x14_2) ((rd_T40 t406 x17_3).f1) t437 _ ?side1 ?side2 A50.out).mono ?_); (case side1 => repeat (first | exact (Kd.R_reads' HO_13.out).2.2 | (with_reducible refine Kd.C_alloc ?_ _) | (with_reducible refine Kd.C_drewN ?_ _) | (with_reducible refine Kd.C_drew ?_))); (case side2 => exact (Kd.R_reads' HO_13.out).2.1); rintro e w' ⟨rfl, ⟨nd, rfl⟩⟩; (try first | exact ⟨rfl, _, World.drewN_drewN _ _ _⟩ | exact ⟨rfl, _, Eq.trans (World.drewN_drewN _ _ _) (congrArg (World.drewN _) (Nat.add_assoc _ _ _))⟩); have p438 : 0 ≤ (x17_3 : Int) := of_decide_eq_true (by first | (with_reducible assumption) | assumption); have q438 : x17_3 < (t406.length : Int) := of_decide_eq_true (by first | (with_reducible assumption) | assumption); obtain ⟨ad438, e438, hx438_0, hx438_1, hx438_2⟩ := at_T40 (Kd.R_reads' HO_8.out).2.2 x17_3 p438 q438; obtain rfl : ad433 = ad438 := (by injection e438); replace p438 := eq_true p438; replace q438 := eq_true q438; have p439 : 0 ≤ (x14_2 : Int) := of_decide_eq_true (by first | (with_reducible assumption) | assumption); have q439 : x14_2 < (y415.length : Int) := of_decide_eq_true (by first | (with_reducible assumption) | assumption); obtain ⟨ad439, e439, hx439_0⟩ := Kd.at_string (Kd.R_reads' HO_10.out).2.2 x14_2 p439 q439; obtain rfl : ad427 = ad439 := (by injection e439); replace p439 := eq_true p439; replace q439 := eq_true q439; have p440 : 0 ≤ (x17_3 : Int) := of_decide_eq_true (by first | (with_reducible assumption) | assumption); have q440 : x17_3 < (t406.length : Int) := of_decide_eq_true (by first | (with_reducible assumption) | assumption); obtain ⟨ad440, e440, hx440_0, hx440_1, hx440_2⟩ := at_T40 (Kd.R_reads' HO_8.out).2.2 x17_3 p440 q440; obtain rfl : ad433 = ad440 := (by injection e440); replace p440 := eq_true p440; replace q440 := eq_true q440) | (go_at_call 21; (with_reducible refine (billetlaw15_count.calls k3 _ _ t412 (rdOf ByteArray.empty y415 x14_2) ((rd_T40 t406 x17_3).f1) t441 _ ?side1 ?side2 A52.out).mono ?_); (case side1 => repeat (first | exact (Kd.R_reads' HO_9.out).2.2 | (with_reducible refine Kd.C_alloc ?_ _) | (with_reducible refine Kd.C_drewN ?_ _) | (with_reducible refine Kd.C_drew ?_))); (case side2 => exact (Kd.R_reads' HO_9.out).2.1); rintro e w' ⟨rfl, ⟨nd, rfl⟩⟩; (try first | exact ⟨rfl, _, World.drewN_drewN _ _ _⟩ | exact ⟨rfl, _, Eq.trans (World.drewN_drewN _ _ _) (congrArg (World.drewN _) (Nat.add_assoc _ _ _))⟩); have p442 : 0 ≤ (x17_3 : Int) := of_decide_eq_true (by first | (with_reducible assumption) | assumption); have q442 : x17_3 < (t406.length : Int) := of_decide_eq_true (by first | (with_reducible assumption) | assumption); obtain ⟨ad442, e442, hx442_0, hx442_1, hx442_2⟩ := at_T40 (Kd.R_reads' HO_8.out).2.2 x17_3 p442 q442; obtain rfl : ad433 = ad442 := (by injection e442); replace p442 := eq_true p442; replace q442 := eq_true q442; have p443 : 0 ≤ (x14_2 : Int) := of_decide_eq_true (by first | (with_reducible assumption) | assumption); have q443 : x14_2 < (y415.length : Int) := of_decide_eq_true (by first | (with_reducible assumption) | assumption); obtain ⟨ad443, e443, hx443_0⟩ := Kd.at_string (Kd.R_reads' HO_10.out).2.2 x14_2 p443 q443; obtain rfl : ad427 = ad443 := (by injection e443); replace p443 := eq_true p443; replace q443 := eq_true q443; have p444 : 0 ≤ (x17_3 : Int) := of_decide_eq_true (by first | (with_reducible assumption) | assumption); have q444 : x17_3 < (t406.length : Int) := of_decide_eq_true (by first | (with_reducible assumption) | assumption); obtain ⟨ad444, e444, hx444_0, hx444_1, hx444_2⟩ := at_T40 (Kd.R_reads' HO_8.out).2.2 x17_3 p444 q444; obtain rfl : ad433 = ad444 := (by injection e444); replace p444 := eq_true p444; replace q444 := eq_true q444) | (go_at_call 21; (with_reducible refine (billetlaw15_count.calls k3 _ _ t412 (rdOf ByteArray.empty y415 x14_2) ((rd_T40 t406 x17_3).f1) t441 _ ?side1 ?side2 A54.out).mono ?_); (case side1 => repeat (first | exact (Kd.R_reads' HO_9.out).2.2 | (with_reducible refine Kd.C_alloc ?_ _) | (with_reducible refine Kd.C_drewN ?_ _) | (with_reducible refine Kd.C_drew ?_))); (case side2 => exact (Kd.R_reads' HO_9.out).2.1); rintro e w' ⟨rfl, ⟨nd, rfl⟩⟩; (try first | exact ⟨rfl, _, World.drewN_drewN _ _ _⟩ | exact ⟨rfl, _, Eq.trans (World.drewN_drewN _ _ _) (congrArg (World.drewN _) (Nat.add_assoc _ _ _))⟩))))
                                      go_roundg k3
                                      case measure => have := HJ9.out; have := HK2.out; have := HK3.out; omega
                                      case rel => exact ⟨(wrap64 (x15_3 + (ji53))), (wrap64 (x16_3 + (ji55))), (wrap64 (x17_3 + 1)), (by first | rfl | (simp; done) | (simp only [← hji53] <;> (first | rfl | simp)) | (simp [*]; done)), (by first | rfl | (simp; done) | (simp only [← hji55] <;> (first | rfl | simp)) | (simp [*]; done)), (by first | rfl | (simp; done) | (simp [*]; done)), H', ⟨by have := HJ9.out; have := HK2.out; have := HK3.out; omega⟩, ⟨by (with_reducible repeat (first | apply Kd.R_alloc | apply Kd.R_drewN | apply Kd.R_drew)); exact HO_8.out⟩, ⟨by (with_reducible repeat (first | apply Kd.R_alloc | apply Kd.R_drewN | apply Kd.R_drew)); exact HO_9.out⟩, ⟨by (with_reducible repeat (first | apply Kd.R_alloc | apply Kd.R_drewN | apply Kd.R_drew)); exact HO_10.out⟩, ⟨by (with_reducible repeat (first | apply Kd.R_alloc | apply Kd.R_drewN | apply Kd.R_drew)); exact HO_11.out⟩, ⟨by (with_reducible repeat (first | apply Kd.R_alloc | apply Kd.R_drewN | apply Kd.R_drew)); exact HO_13.out⟩, ⟨by repeat (first | (with_reducible first | exact HB.out | apply below_alloc | apply pw_below_drewN | apply below_drew1) | exact HB.out)⟩⟩
                                  · rw [if_neg c49] at H
                                    have c49b0 : (((rd_T40 t406 x17_3).f0).toList == (rdOf ByteArray.empty y415 x14_2).toList) = false := beq_eq_false_iff_ne.mpr c49
                                    have c49b1 : (((rd_T40 t406 x17_3).f0).toList != (rdOf ByteArray.empty y415 x14_2).toList) = true := bne_iff_ne.mpr c49
                                    have H' := Aside0.mk H
                                    clear H
                                    have p433 : 0 ≤ (x17_3 : Int) := of_decide_eq_true (by first | (with_reducible assumption) | assumption)
                                    have q433 : x17_3 < (t406.length : Int) := of_decide_eq_true (by first | (with_reducible assumption) | assumption)
                                    obtain ⟨ad433, e433, hx433_0, hx433_1, hx433_2⟩ := at_T40 (Kd.R_reads' HO_8.out).2.2 x17_3 p433 q433
                                    cases e433
                                    replace p433 := eq_true p433
                                    replace q433 := eq_true q433
                                    have p434 : 0 ≤ (x14_2 : Int) := of_decide_eq_true (by first | (with_reducible assumption) | assumption)
                                    have q434 : x14_2 < (y415.length : Int) := of_decide_eq_true (by first | (with_reducible assumption) | assumption)
                                    obtain ⟨ad434, e434, hx434_0⟩ := Kd.at_string (Kd.R_reads' HO_10.out).2.2 x14_2 p434 q434
                                    obtain rfl : ad427 = ad434 := (by injection e434)
                                    replace p434 := eq_true p434
                                    replace q434 := eq_true q434
                                    go_wp2
                                    repeat (go_quiet (fail); try go_wp2)
                                    go_roundg k3
                                    case measure => have := HJ9.out; have := HK2.out; have := HK3.out; omega
                                    case rel => exact ⟨(x15_3), (x16_3), (wrap64 (x17_3 + 1)), (by first | rfl | (simp; done) | (simp [*]; done)), (by first | rfl | (simp; done) | (simp [*]; done)), (by first | rfl | (simp; done) | (simp [*]; done)), H', ⟨by have := HJ9.out; have := HK2.out; have := HK3.out; omega⟩, ⟨by (with_reducible repeat (first | apply Kd.R_alloc | apply Kd.R_drewN | apply Kd.R_drew)); exact HO_8.out⟩, ⟨by (with_reducible repeat (first | apply Kd.R_alloc | apply Kd.R_drewN | apply Kd.R_drew)); exact HO_9.out⟩, ⟨by (with_reducible repeat (first | apply Kd.R_alloc | apply Kd.R_drewN | apply Kd.R_drew)); exact HO_10.out⟩, ⟨by (with_reducible repeat (first | apply Kd.R_alloc | apply Kd.R_drewN | apply Kd.R_drew)); exact HO_11.out⟩, ⟨by (with_reducible repeat (first | apply Kd.R_alloc | apply Kd.R_drewN | apply Kd.R_drew)); exact HO_13.out⟩, ⟨by repeat (first | (with_reducible first | exact HB.out | apply below_alloc | apply pw_below_drewN | apply below_drew1) | exact HB.out)⟩⟩
                                · rw [if_neg c48] at H
                                  exact absurd H (by simp)
                              · rw [if_neg c47] at H
                                exact absurd H (by simp)
                            · rw [if_neg c46] at H
                              exact absurd H (by simp)
                          · rw [if_neg c45] at H
                            have c45b0 : decide (x17_3 < (t406.length : Int)) = false := decide_eq_false c45
                            clear c45
                            by_cases c56 : 0 ≤ x14_2
                            · rw [if_pos c56] at H
                              have c56b0 : decide (0 ≤ x14_2) = true := decide_eq_true c56
                              clear c56
                              by_cases c57 : x14_2 < (x11_9.length : Int)
                              · rw [if_pos c57] at H
                                have c57b0 : decide (x14_2 < (x11_9.length : Int)) = true := decide_eq_true c57
                                clear c57
                                obtain ⟨ji58, hji58⟩ : ∃ j_ : Int, (mn (rd x11_9 x14_2) x16_3) = j_ := ⟨_, rfl⟩
                                replace H : (if x15_3 = (ji58) then (billetlaw15_ShareTrims.l1 k3 t402 t406 t412 y415 x11_9 t424 (wrap64 (x14_2 + 1))) else (some false)) = some r := by first | (rw [hji58] at H; exact H) | (simp only [hji58] at H ⊢; exact H)
                                have hji58_ : (if x16_3 < (rd x11_9 x14_2) then x16_3 else (rd x11_9 x14_2)) = ji58 := hji58
                                by_cases c59 : x15_3 = (ji58)
                                · rw [if_pos c59] at H
                                  have c59b0 : (x15_3 == (ji58)) = true := beq_iff_eq.mpr c59
                                  have c59b1 : (x15_3 != (ji58)) = false := bne_eq_false_iff_eq.mpr c59
                                  clear c59
                                  have H' := Aside0.mk H
                                  clear H
                                  have p432 : 0 ≤ (x14_2 : Int) := of_decide_eq_true (by first | (with_reducible assumption) | assumption)
                                  have q432 : x14_2 < (x11_9.length : Int) := of_decide_eq_true (by first | (with_reducible assumption) | assumption)
                                  obtain ⟨ad432, e432, hx432_0⟩ := Kd.at_int (Kd.R_reads' HO_11.out).2.2 x14_2 p432 q432
                                  obtain rfl : ad429 = ad432 := (by injection e432)
                                  replace p432 := eq_true p432
                                  replace q432 := eq_true q432
                                  go_wp2
                                  repeat (go_quiet (fail); try go_wp2)
                                  go_roundg k3
                                  case measure => have := HJ9.out; have := HK2.out; have := HK3.out; omega
                                  case rel => exact ⟨(wrap64 (x14_2 + 1)), (by first | rfl | (simp; done) | (simp [*]; done)), H', ⟨by have := HJ9.out; have := HK2.out; have := HK3.out; omega⟩, ⟨by (with_reducible repeat (first | apply Kd.R_alloc | apply Kd.R_drewN | apply Kd.R_drew)); exact HO_8.out⟩, ⟨by (with_reducible repeat (first | apply Kd.R_alloc | apply Kd.R_drewN | apply Kd.R_drew)); exact HO_9.out⟩, ⟨by (with_reducible repeat (first | apply Kd.R_alloc | apply Kd.R_drewN | apply Kd.R_drew)); exact HO_10.out⟩, ⟨by (with_reducible repeat (first | apply Kd.R_alloc | apply Kd.R_drewN | apply Kd.R_drew)); exact HO_11.out⟩, ⟨by (with_reducible repeat (first | apply Kd.R_alloc | apply Kd.R_drewN | apply Kd.R_drew)); exact HO_13.out⟩, ⟨by repeat (first | (with_reducible first | exact HB.out | apply below_alloc | apply pw_below_drewN | apply below_drew1) | exact HB.out)⟩⟩
                                · rw [if_neg c59] at H
                                  have c59b0 : (x15_3 == (ji58)) = false := beq_eq_false_iff_ne.mpr c59
                                  have c59b1 : (x15_3 != (ji58)) = true := bne_iff_ne.mpr c59
                                  obtain rfl := Option.some.inj H
                                  have p432 : 0 ≤ (x14_2 : Int) := of_decide_eq_true (by first | (with_reducible assumption) | assumption)
                                  have q432 : x14_2 < (x11_9.length : Int) := of_decide_eq_true (by first | (with_reducible assumption) | assumption)
                                  obtain ⟨ad432, e432, hx432_0⟩ := Kd.at_int (Kd.R_reads' HO_11.out).2.2 x14_2 p432 q432
                                  obtain rfl : ad429 = ad432 := (by injection e432)
                                  replace p432 := eq_true p432
                                  replace q432 := eq_true q432
                                  go_wp2
                                  repeat (go_quiet (fail); try go_wp2)
                                  go_ret
                                  exact ⟨by first | rfl | (simp [errW_none, errW_some] <;> rfl) | (simp only [← hji42, ← hji58]; first | rfl | (simp [errW_none, errW_some] <;> rfl)) | (simp [*, errW_none, errW_some] <;> rfl), by repeat (first | (with_reducible first | exact HB.out | apply below_alloc | apply pw_below_drewN | apply below_drew1) | exact HB.out)⟩
                              · rw [if_neg c57] at H
                                exact absurd H (by simp)
                            · rw [if_neg c56] at H
                              exact absurd H (by simp)
                    · rw [if_neg c43] at H
                      have c43b0 : (t428 == (ji42)) = false := beq_eq_false_iff_ne.mpr c43
                      have c43b1 : (t428 != (ji42)) = true := bne_iff_ne.mpr c43
                      obtain rfl := Option.some.inj H
                      have p427 : 0 ≤ (x14_2 : Int) := of_decide_eq_true (by first | (with_reducible assumption) | assumption)
                      have q427 : x14_2 < (y415.length : Int) := of_decide_eq_true (by first | (with_reducible assumption) | assumption)
                      obtain ⟨ad427, e427, hx427_0⟩ := Kd.at_string (Kd.R_reads' HO_10.out).2.2 x14_2 p427 q427
                      cases e427
                      replace p427 := eq_true p427
                      replace q427 := eq_true q427
                      obtain ⟨Ao60, co60, eo60⟩ := Kd.R_slice HO_13.out
                      subst eo60
                      go_wp2_with (first | (go_at_call 21; (with_reducible refine (billetlaw15_count.calls k2 _ _ t424 (rdOf ByteArray.empty y415 x14_2) (⟨#[]⟩ : ByteArray) t428 _ ?side1 ?side2 A39.out).mono ?_); (case side1 => repeat (first | exact (Kd.R_reads' HO_13.out).2.2 | (with_reducible refine Kd.C_alloc ?_ _) | (with_reducible refine Kd.C_drewN ?_ _) | (with_reducible refine Kd.C_drew ?_))); (case side2 => exact (Kd.R_reads' HO_13.out).2.1); rintro e w' ⟨rfl, ⟨nd, rfl⟩⟩; (try first | exact ⟨rfl, _, World.drewN_drewN _ _ _⟩ | exact ⟨rfl, _, Eq.trans (World.drewN_drewN _ _ _) (congrArg (World.drewN _) (Nat.add_assoc _ _ _))⟩); have p429 : 0 ≤ (x14_2 : Int) := of_decide_eq_true (by first | (with_reducible assumption) | assumption); have q429 : x14_2 < (x11_9.length : Int) := of_decide_eq_true (by first | (with_reducible assumption) | assumption); obtain ⟨ad429, e429, hx429_0⟩ := Kd.at_int (Kd.R_reads' HO_11.out).2.2 x14_2 p429 q429; cases e429; replace p429 := eq_true p429; replace q429 := eq_true q429; have p430 : 0 ≤ (x14_2 : Int) := of_decide_eq_true (by first | (with_reducible assumption) | assumption); have q430 : x14_2 < (y415.length : Int) := of_decide_eq_true (by first | (with_reducible assumption) | assumption); obtain ⟨ad430, e430, hx430_0⟩ := Kd.at_string (Kd.R_reads' HO_10.out).2.2 x14_2 p430 q430; obtain rfl : ad427 = ad430 := (by injection e430); replace p430 := eq_true p430; replace q430 := eq_true q430) | (go_at_call 21; (with_reducible refine (billetlaw15_count.calls k2 _ _ t406 (rdOf ByteArray.empty y415 x14_2) (⟨#[]⟩ : ByteArray) t431 _ ?side1 ?side2 A41.out).mono ?_); (case side1 => repeat (first | exact (Kd.R_reads' HO_8.out).2.2 | (with_reducible refine Kd.C_alloc ?_ _) | (with_reducible refine Kd.C_drewN ?_ _) | (with_reducible refine Kd.C_drew ?_))); (case side2 => exact (Kd.R_reads' HO_8.out).2.1); rintro e w' ⟨rfl, ⟨nd, rfl⟩⟩; (try first | exact ⟨rfl, _, World.drewN_drewN _ _ _⟩ | exact ⟨rfl, _, Eq.trans (World.drewN_drewN _ _ _) (congrArg (World.drewN _) (Nat.add_assoc _ _ _))⟩)))
                      repeat (go_quiet (first | (go_at_call 21; (with_reducible refine (billetlaw15_count.calls k2 _ _ t424 (rdOf ByteArray.empty y415 x14_2) (⟨#[]⟩ : ByteArray) t428 _ ?side1 ?side2 A39.out).mono ?_); (case side1 => repeat (first | exact (Kd.R_reads' HO_13.out).2.2 | (with_reducible refine Kd.C_alloc ?_ _) | (with_reducible refine Kd.C_drewN ?_ _) | (with_reducible refine Kd.C_drew ?_))); (case side2 => exact (Kd.R_reads' HO_13.out).2.1); rintro e w' ⟨rfl, ⟨nd, rfl⟩⟩; (try first | exact ⟨rfl, _, World.drewN_drewN _ _ _⟩ | exact ⟨rfl, _, Eq.trans (World.drewN_drewN _ _ _) (congrArg (World.drewN _) (Nat.add_assoc _ _ _))⟩); have p429 : 0 ≤ (x14_2 : Int) := of_decide_eq_true (by first | (with_reducible assumption) | assumption); have q429 : x14_2 < (x11_9.length : Int) := of_decide_eq_true (by first | (with_reducible assumption) | assumption); obtain ⟨ad429, e429, hx429_0⟩ := Kd.at_int (Kd.R_reads' HO_11.out).2.2 x14_2 p429 q429; cases e429; replace p429 := eq_true p429; replace q429 := eq_true q429; have p430 : 0 ≤ (x14_2 : Int) := of_decide_eq_true (by first | (with_reducible assumption) | assumption); have q430 : x14_2 < (y415.length : Int) := of_decide_eq_true (by first | (with_reducible assumption) | assumption); obtain ⟨ad430, e430, hx430_0⟩ := Kd.at_string (Kd.R_reads' HO_10.out).2.2 x14_2 p430 q430; obtain rfl : ad427 = ad430 := (by injection e430); replace p430 := eq_true p430; replace q430 := eq_true q430) | (go_at_call 21; (with_reducible refine (billetlaw15_count.calls k2 _ _ t406 (rdOf ByteArray.empty y415 x14_2) (⟨#[]⟩ : ByteArray) t431 _ ?side1 ?side2 A41.out).mono ?_); (case side1 => repeat (first | exact (Kd.R_reads' HO_8.out).2.2 | (with_reducible refine Kd.C_alloc ?_ _) | (with_reducible refine Kd.C_drewN ?_ _) | (with_reducible refine Kd.C_drew ?_))); (case side2 => exact (Kd.R_reads' HO_8.out).2.1); rintro e w' ⟨rfl, ⟨nd, rfl⟩⟩; (try first | exact ⟨rfl, _, World.drewN_drewN _ _ _⟩ | exact ⟨rfl, _, Eq.trans (World.drewN_drewN _ _ _) (congrArg (World.drewN _) (Nat.add_assoc _ _ _))⟩))); try go_wp2_with (first | (go_at_call 21; (with_reducible refine (billetlaw15_count.calls k2 _ _ t424 (rdOf ByteArray.empty y415 x14_2) (⟨#[]⟩ : ByteArray) t428 _ ?side1 ?side2 A39.out).mono ?_); (case side1 => repeat (first | exact (Kd.R_reads' HO_13.out).2.2 | (with_reducible refine Kd.C_alloc ?_ _) | (with_reducible refine Kd.C_drewN ?_ _) | (with_reducible refine Kd.C_drew ?_))); (case side2 => exact (Kd.R_reads' HO_13.out).2.1); rintro e w' ⟨rfl, ⟨nd, rfl⟩⟩; (try first | exact ⟨rfl, _, World.drewN_drewN _ _ _⟩ | exact ⟨rfl, _, Eq.trans (World.drewN_drewN _ _ _) (congrArg (World.drewN _) (Nat.add_assoc _ _ _))⟩); have p429 : 0 ≤ (x14_2 : Int) := of_decide_eq_true (by first | (with_reducible assumption) | assumption); have q429 : x14_2 < (x11_9.length : Int) := of_decide_eq_true (by first | (with_reducible assumption) | assumption); obtain ⟨ad429, e429, hx429_0⟩ := Kd.at_int (Kd.R_reads' HO_11.out).2.2 x14_2 p429 q429; cases e429; replace p429 := eq_true p429; replace q429 := eq_true q429; have p430 : 0 ≤ (x14_2 : Int) := of_decide_eq_true (by first | (with_reducible assumption) | assumption); have q430 : x14_2 < (y415.length : Int) := of_decide_eq_true (by first | (with_reducible assumption) | assumption); obtain ⟨ad430, e430, hx430_0⟩ := Kd.at_string (Kd.R_reads' HO_10.out).2.2 x14_2 p430 q430; obtain rfl : ad427 = ad430 := (by injection e430); replace p430 := eq_true p430; replace q430 := eq_true q430) | (go_at_call 21; (with_reducible refine (billetlaw15_count.calls k2 _ _ t406 (rdOf ByteArray.empty y415 x14_2) (⟨#[]⟩ : ByteArray) t431 _ ?side1 ?side2 A41.out).mono ?_); (case side1 => repeat (first | exact (Kd.R_reads' HO_8.out).2.2 | (with_reducible refine Kd.C_alloc ?_ _) | (with_reducible refine Kd.C_drewN ?_ _) | (with_reducible refine Kd.C_drew ?_))); (case side2 => exact (Kd.R_reads' HO_8.out).2.1); rintro e w' ⟨rfl, ⟨nd, rfl⟩⟩; (try first | exact ⟨rfl, _, World.drewN_drewN _ _ _⟩ | exact ⟨rfl, _, Eq.trans (World.drewN_drewN _ _ _) (congrArg (World.drewN _) (Nat.add_assoc _ _ _))⟩))))
                      go_ret
                      exact ⟨by first | rfl | (simp [errW_none, errW_some] <;> rfl) | (simp only [← hji42]; first | rfl | (simp [errW_none, errW_some] <;> rfl)) | (simp [*, errW_none, errW_some] <;> rfl), by repeat (first | (with_reducible first | exact HB.out | apply below_alloc | apply pw_below_drewN | apply below_drew1) | exact HB.out)⟩
                  · rw [if_neg c40] at H
                    exact absurd H (by simp)
                · rw [if_neg c38] at H
                  exact absurd H (by simp)
              · rw [if_neg c37] at H
                exact absurd H (by simp)
            · rw [if_neg c36] at H
              have c36b0 : decide (x14_2 < 8) = false := decide_eq_false c36
              clear c36
              have H' := Aside0.mk H
              clear H
              go_wp2
              repeat (go_quiet (fail); try go_wp2)
              go_loopg [19, 20] k2 (fun kq v19 v20 w' => ∃ (x19_3 : Int) (x20_3 : Int), v19 = .int .i64 x19_3 ∧ v20 = .int .i64 x20_3 ∧ Aside0 (billetlaw15_ShareTrims.l3 kq t402 y415 t424 x19_3 x20_3 = some r) ∧ Aside0 (kq ≤ k2) ∧ Aside0 (Kd.R Kd.string 9 w' w.heap.size (fun _ => True) (.slice Ao33 y415.length co33) y415) ∧ Aside0 (Kd.R k40 40 w' w.heap.size (fun _ => True) v425 t424) ∧ Aside0 (Below w.heap.size w w'))
              case atStart => exact ⟨(0), (0), (by first | rfl | (simp; done) | (simp [*]; done)), (by first | rfl | (simp; done) | (simp [*]; done)), H', ⟨Nat.le_refl _⟩, ⟨by (with_reducible repeat (first | apply Kd.R_alloc | apply Kd.R_drewN | apply Kd.R_drew)); exact HO_10.out⟩, ⟨by (with_reducible repeat (first | apply Kd.R_alloc | apply Kd.R_drewN | apply Kd.R_drew)); exact Kd.R_mono HO_13.out (fun _ hk => trivial)⟩, ⟨by repeat (first | (with_reducible first | exact HB.out | apply below_alloc | apply pw_below_drewN | apply below_drew1) | exact HB.out)⟩⟩
              case round =>
                clear H'
                try clear c1
                try clear c2
                try clear p2
                try clear q2
                try clear hx2
                try clear c3
                try clear c4
                try clear p4
                try clear q4
                try clear hx4
                try clear c5
                try clear c6
                try clear p6
                try clear c9
                try clear c9b0
                try clear c9b1
                try clear c22
                try clear c22b0
                try clear c23
                try clear c23b0
                try clear c24
                try clear c24b0
                try clear c26
                try clear c26b0
                try clear p27
                try clear q27
                try clear hx27
                try clear hf27
                try clear c36
                try clear c36b0
                try clear c37
                try clear c37b0
                try clear c38
                try clear c38b0
                try clear c40
                try clear c40b0
                try clear p42
                try clear q42
                try clear hx42
                try clear c43
                try clear c43b0
                try clear c43b1
                try clear p43
                try clear q43
                try clear hx43
                try clear p44
                try clear q44
                try clear hx44
                try clear c45
                try clear c45b0
                try clear c46
                try clear c46b0
                try clear c47
                try clear c47b0
                try clear c48
                try clear c48b0
                try clear c49
                try clear c49b0
                try clear c49b1
                try clear c51
                try clear c51b0
                try clear c56
                try clear c56b0
                try clear c57
                try clear c57b0
                try clear c59
                try clear c59b0
                try clear c59b1
                try clear hx27_0
                try clear hx421_0
                try clear hx427_0
                try clear hx429_0
                try clear hx430_0
                try clear hx432_0
                try clear hx433_0
                try clear hx433_1
                try clear hx433_2
                try clear hx434_0
                try clear hx435_0
                try clear hx436_0
                try clear hx436_1
                try clear hx436_2
                try clear hx438_0
                try clear hx438_1
                try clear hx438_2
                try clear hx439_0
                try clear hx440_0
                try clear hx440_1
                try clear hx440_2
                try clear hx442_0
                try clear hx442_1
                try clear hx442_2
                try clear hx443_0
                try clear hx444_0
                try clear hx444_1
                try clear hx444_2
                try clear p2
                try clear p27
                try clear p4
                try clear p42
                try clear p421
                try clear p427
                try clear p429
                try clear p43
                try clear p430
                try clear p432
                try clear p433
                try clear p434
                try clear p435
                try clear p436
                try clear p438
                try clear p439
                try clear p440
                try clear p442
                try clear p443
                try clear p444
                try clear p6
                try clear q2
                try clear q27
                try clear q4
                try clear q42
                try clear q421
                try clear q427
                try clear q429
                try clear q43
                try clear q430
                try clear q432
                try clear q433
                try clear q434
                try clear q435
                try clear q436
                try clear q438
                try clear q439
                try clear q440
                try clear q442
                try clear q443
                try clear q444
                obtain ⟨x19_3, x20_3, rfl, rfl, HA, HK3, HO_10, HO_13, HB⟩ := hrel
                cases gk with
                | zero => exact absurd HA.out (by simp [billetlaw15_ShareTrims.l3])
                | succ k3 =>
                  have H := HA.out
                  clear HA
                  simp only [billetlaw15_ShareTrims.l3] at H
                  by_cases c61 : x20_3 < (t424.length : Int)
                  · rw [if_pos c61] at H
                    have c61b0 : decide (x20_3 < (t424.length : Int)) = true := decide_eq_true c61
                    clear c61
                    by_cases c62 : 0 ≤ x20_3
                    · rw [if_pos c62] at H
                      have c62b0 : decide (0 ≤ x20_3) = true := decide_eq_true c62
                      clear c62
                      by_cases c63 : ((rd_T40 t424 x20_3).f2) < 1
                      · rw [if_pos c63] at H
                        have c63b0 : decide (((rd_T40 t424 x20_3).f2) < 1) = true := decide_eq_true c63
                        clear c63
                        obtain rfl := Option.some.inj H
                        obtain ⟨Ao64, co64, eo64⟩ := Kd.R_slice HO_13.out
                        subst eo64
                        have p446 : 0 ≤ (x20_3 : Int) := of_decide_eq_true (by first | (with_reducible assumption) | assumption)
                        have q446 : x20_3 < (t424.length : Int) := of_decide_eq_true (by first | (with_reducible assumption) | assumption)
                        obtain ⟨ad446, e446, hx446_0, hx446_1, hx446_2⟩ := at_T40 (Kd.R_reads' HO_13.out).2.2 x20_3 p446 q446
                        cases e446
                        replace p446 := eq_true p446
                        replace q446 := eq_true q446
                        go_wp2
                        repeat (go_quiet (fail); try go_wp2)
                        go_ret
                        exact ⟨by first | rfl | (simp [errW_none, errW_some] <;> rfl) | (simp [*, errW_none, errW_some] <;> rfl), by repeat (first | (with_reducible first | exact HB.out | apply below_alloc | apply pw_below_drewN | apply below_drew1) | exact HB.out)⟩
                      · rw [if_neg c63] at H
                        have c63b0 : decide (((rd_T40 t424 x20_3).f2) < 1) = false := decide_eq_false c63
                        clear c63
                        have H' := Aside0.mk H
                        clear H
                        obtain ⟨Ao65, co65, eo65⟩ := Kd.R_slice HO_13.out
                        subst eo65
                        have p446 : 0 ≤ (x20_3 : Int) := of_decide_eq_true (by first | (with_reducible assumption) | assumption)
                        have q446 : x20_3 < (t424.length : Int) := of_decide_eq_true (by first | (with_reducible assumption) | assumption)
                        obtain ⟨ad446, e446, hx446_0, hx446_1, hx446_2⟩ := at_T40 (Kd.R_reads' HO_13.out).2.2 x20_3 p446 q446
                        cases e446
                        replace p446 := eq_true p446
                        replace q446 := eq_true q446
                        have p447 : 0 ≤ (x20_3 : Int) := of_decide_eq_true (by first | (with_reducible assumption) | assumption)
                        have q447 : x20_3 < (t424.length : Int) := of_decide_eq_true (by first | (with_reducible assumption) | assumption)
                        obtain ⟨ad447, e447, hx447_0, hx447_1, hx447_2⟩ := at_T40 (Kd.R_reads' HO_13.out).2.2 x20_3 p447 q447
                        obtain rfl : ad446 = ad447 := (by injection e447)
                        replace p447 := eq_true p447
                        replace q447 := eq_true q447
                        go_wp2
                        repeat (go_quiet (fail); try go_wp2)
                        go_roundg k3
                        case measure => have := HJ9.out; have := HK2.out; have := HK3.out; omega
                        case rel => exact ⟨(wrap64 (x19_3 + ((rd_T40 t424 x20_3).f2))), (wrap64 (x20_3 + 1)), (by first | rfl | (simp; done) | (simp [*]; done)), (by first | rfl | (simp; done) | (simp [*]; done)), H', ⟨by have := HJ9.out; have := HK2.out; have := HK3.out; omega⟩, ⟨by (with_reducible repeat (first | apply Kd.R_alloc | apply Kd.R_drewN | apply Kd.R_drew)); exact HO_10.out⟩, ⟨by (with_reducible repeat (first | apply Kd.R_alloc | apply Kd.R_drewN | apply Kd.R_drew)); exact HO_13.out⟩, ⟨by repeat (first | (with_reducible first | exact HB.out | apply below_alloc | apply pw_below_drewN | apply below_drew1) | exact HB.out)⟩⟩
                    · rw [if_neg c62] at H
                      exact absurd H (by simp)
                  · rw [if_neg c61] at H
                    have c61b0 : decide (x20_3 < (t424.length : Int)) = false := decide_eq_false c61
                    clear c61
                    have H' := Aside0.mk H
                    clear H
                    obtain ⟨Ao66, co66, eo66⟩ := Kd.R_slice HO_13.out
                    subst eo66
                    go_wp2
                    repeat (go_quiet (fail); try go_wp2)
                    go_loopg [21, 22] k3 (fun kq v21 v22 w' => ∃ (x21_4 : Int) (x22_4 : Int), v21 = .int .i64 x21_4 ∧ v22 = .int .i64 x22_4 ∧ Aside0 (billetlaw15_ShareTrims.l4 kq t402 y415 t424 x19_3 x21_4 x22_4 = some r) ∧ Aside0 (kq ≤ k3) ∧ Aside0 (Kd.R Kd.string 9 w' w.heap.size (fun _ => True) (.slice Ao33 y415.length co33) y415) ∧ Aside0 (Kd.R k40 40 w' w.heap.size (fun _ => True) (.slice Ao66 t424.length co66) t424) ∧ Aside0 (Below w.heap.size w w'))
                    case atStart => exact ⟨(0), (0), (by first | rfl | (simp; done) | (simp [*]; done)), (by first | rfl | (simp; done) | (simp [*]; done)), H', ⟨Nat.le_refl _⟩, ⟨by (with_reducible repeat (first | apply Kd.R_alloc | apply Kd.R_drewN | apply Kd.R_drew)); exact HO_10.out⟩, ⟨by (with_reducible repeat (first | apply Kd.R_alloc | apply Kd.R_drewN | apply Kd.R_drew)); exact HO_13.out⟩, ⟨by repeat (first | (with_reducible first | exact HB.out | apply below_alloc | apply pw_below_drewN | apply below_drew1) | exact HB.out)⟩⟩
                    case round =>
                      clear H'
                      try clear c1
                      try clear c2
                      try clear p2
                      try clear q2
                      try clear hx2
                      try clear c3
                      try clear c4
                      try clear p4
                      try clear q4
                      try clear hx4
                      try clear c5
                      try clear c6
                      try clear p6
                      try clear c9
                      try clear c9b0
                      try clear c9b1
                      try clear c22
                      try clear c22b0
                      try clear c23
                      try clear c23b0
                      try clear c24
                      try clear c24b0
                      try clear c26
                      try clear c26b0
                      try clear p27
                      try clear q27
                      try clear hx27
                      try clear hf27
                      try clear c36
                      try clear c36b0
                      try clear c37
                      try clear c37b0
                      try clear c38
                      try clear c38b0
                      try clear c40
                      try clear c40b0
                      try clear p42
                      try clear q42
                      try clear hx42
                      try clear c43
                      try clear c43b0
                      try clear c43b1
                      try clear p43
                      try clear q43
                      try clear hx43
                      try clear p44
                      try clear q44
                      try clear hx44
                      try clear c45
                      try clear c45b0
                      try clear c46
                      try clear c46b0
                      try clear c47
                      try clear c47b0
                      try clear c48
                      try clear c48b0
                      try clear c49
                      try clear c49b0
                      try clear c49b1
                      try clear c51
                      try clear c51b0
                      try clear c56
                      try clear c56b0
                      try clear c57
                      try clear c57b0
                      try clear c59
                      try clear c59b0
                      try clear c59b1
                      try clear c61
                      try clear c61b0
                      try clear c62
                      try clear c62b0
                      try clear c63
                      try clear c63b0
                      try clear p64
                      try clear hx27_0
                      try clear hx421_0
                      try clear hx427_0
                      try clear hx429_0
                      try clear hx430_0
                      try clear hx432_0
                      try clear hx433_0
                      try clear hx433_1
                      try clear hx433_2
                      try clear hx434_0
                      try clear hx435_0
                      try clear hx436_0
                      try clear hx436_1
                      try clear hx436_2
                      try clear hx438_0
                      try clear hx438_1
                      try clear hx438_2
                      try clear hx439_0
                      try clear hx440_0
                      try clear hx440_1
                      try clear hx440_2
                      try clear hx442_0
                      try clear hx442_1
                      try clear hx442_2
                      try clear hx443_0
                      try clear hx444_0
                      try clear hx444_1
                      try clear hx444_2
                      try clear hx446_0
                      try clear hx446_1
                      try clear hx446_2
                      try clear hx447_0
                      try clear hx447_1
                      try clear hx447_2
                      try clear p2
                      try clear p27
                      try clear p4
                      try clear p42
                      try clear p421
                      try clear p427
                      try clear p429
                      try clear p43
                      try clear p430
                      try clear p432
                      try clear p433
                      try clear p434
                      try clear p435
                      try clear p436
                      try clear p438
                      try clear p439
                      try clear p44
                      try clear p440
                      try clear p442
                      try clear p443
                      try clear p444
                      try clear p446
                      try clear p447
                      try clear p6
                      try clear q2
                      try clear q27
                      try clear q4
                      try clear q42
                      try clear q421
                      try clear q427
                      try clear q429
                      try clear q43
                      try clear q430
                      try clear q432
                      try clear q433
                      try clear q434
                      try clear q435
                      try clear q436
                      try clear q438
                      try clear q439
                      try clear q44
                      try clear q440
                      try clear q442
                      try clear q443
                      try clear q444
                      try clear q446
                      try clear q447
                      obtain ⟨x21_4, x22_4, rfl, rfl, HA, HK4, HO_10, HO_13, HB⟩ := hrel
                      cases gk with
                      | zero => exact absurd HA.out (by simp [billetlaw15_ShareTrims.l4])
                      | succ k4 =>
                        have H := HA.out
                        clear HA
                        simp only [billetlaw15_ShareTrims.l4] at H
                        by_cases c67 : x22_4 < 8
                        · rw [if_pos c67] at H
                          have c67b0 : decide (x22_4 < 8) = true := decide_eq_true c67
                          clear c67
                          by_cases c68 : 0 ≤ x22_4
                          · rw [if_pos c68] at H
                            have c68b0 : decide (0 ≤ x22_4) = true := decide_eq_true c68
                            clear c68
                            by_cases c69 : x22_4 < (y415.length : Int)
                            · rw [if_pos c69] at H
                              have c69b0 : decide (x22_4 < (y415.length : Int)) = true := decide_eq_true c69
                              clear c69
                              replace H := Option.bind_eq_some_iff.mp H
                              obtain ⟨t449, A700, H⟩ := H
                              replace H : (billetlaw15_ShareTrims.l4 k4 t402 y415 t424 x19_3 (wrap64 (x21_4 + t449)) (wrap64 (x22_4 + 1))) = some r := H
                              have A70 := Aside0.mk A700
                              clear A700
                              have H' := Aside0.mk H
                              clear H
                              have p448 : 0 ≤ (x22_4 : Int) := of_decide_eq_true (by first | (with_reducible assumption) | assumption)
                              have q448 : x22_4 < (y415.length : Int) := of_decide_eq_true (by first | (with_reducible assumption) | assumption)
                              obtain ⟨ad448, e448, hx448_0⟩ := Kd.at_string (Kd.R_reads' HO_10.out).2.2 x22_4 p448 q448
                              cases e448
                              replace p448 := eq_true p448
                              replace q448 := eq_true q448
                              go_wp2_with (first | (go_at_call 21; (with_reducible refine (billetlaw15_count.calls k4 _ _ t424 (rdOf ByteArray.empty y415 x22_4) (⟨#[]⟩ : ByteArray) t449 _ ?side1 ?side2 A70.out).mono ?_); (case side1 => repeat (first | exact (Kd.R_reads' HO_13.out).2.2 | (with_reducible refine Kd.C_alloc ?_ _) | (with_reducible refine Kd.C_drewN ?_ _) | (with_reducible refine Kd.C_drew ?_))); (case side2 => exact (Kd.R_reads' HO_13.out).2.1); rintro e w' ⟨rfl, ⟨nd, rfl⟩⟩; (try first | exact ⟨rfl, _, World.drewN_drewN _ _ _⟩ | exact ⟨rfl, _, Eq.trans (World.drewN_drewN _ _ _) (congrArg (World.drewN _) (Nat.add_assoc _ _ _))⟩)))
                              repeat (go_quiet (first | (go_at_call 21; (with_reducible refine (billetlaw15_count.calls k4 _ _ t424 (rdOf ByteArray.empty y415 x22_4) (⟨#[]⟩ : ByteArray) t449 _ ?side1 ?side2 A70.out).mono ?_); (case side1 => repeat (first | exact (Kd.R_reads' HO_13.out).2.2 | (with_reducible refine Kd.C_alloc ?_ _) | (with_reducible refine Kd.C_drewN ?_ _) | (with_reducible refine Kd.C_drew ?_))); (case side2 => exact (Kd.R_reads' HO_13.out).2.1); rintro e w' ⟨rfl, ⟨nd, rfl⟩⟩; (try first | exact ⟨rfl, _, World.drewN_drewN _ _ _⟩ | exact ⟨rfl, _, Eq.trans (World.drewN_drewN _ _ _) (congrArg (World.drewN _) (Nat.add_assoc _ _ _))⟩))); try go_wp2_with (first | (go_at_call 21; (with_reducible refine (billetlaw15_count.calls k4 _ _ t424 (rdOf ByteArray.empty y415 x22_4) (⟨#[]⟩ : ByteArray) t449 _ ?side1 ?side2 A70.out).mono ?_); (case side1 => repeat (first | exact (Kd.R_reads' HO_13.out).2.2 | (with_reducible refine Kd.C_alloc ?_ _) | (with_reducible refine Kd.C_drewN ?_ _) | (with_reducible refine Kd.C_drew ?_))); (case side2 => exact (Kd.R_reads' HO_13.out).2.1); rintro e w' ⟨rfl, ⟨nd, rfl⟩⟩; (try first | exact ⟨rfl, _, World.drewN_drewN _ _ _⟩ | exact ⟨rfl, _, Eq.trans (World.drewN_drewN _ _ _) (congrArg (World.drewN _) (Nat.add_assoc _ _ _))⟩))))
                              go_roundg k4
                              case measure => have := HJ9.out; have := HK2.out; have := HK3.out; have := HK4.out; omega
                              case rel => exact ⟨(wrap64 (x21_4 + t449)), (wrap64 (x22_4 + 1)), (by first | rfl | (simp; done) | (simp [*]; done)), (by first | rfl | (simp; done) | (simp [*]; done)), H', ⟨by have := HJ9.out; have := HK2.out; have := HK3.out; have := HK4.out; omega⟩, ⟨by (with_reducible repeat (first | apply Kd.R_alloc | apply Kd.R_drewN | apply Kd.R_drew)); exact HO_10.out⟩, ⟨by (with_reducible repeat (first | apply Kd.R_alloc | apply Kd.R_drewN | apply Kd.R_drew)); exact HO_13.out⟩, ⟨by repeat (first | (with_reducible first | exact HB.out | apply below_alloc | apply pw_below_drewN | apply below_drew1) | exact HB.out)⟩⟩
                            · rw [if_neg c69] at H
                              exact absurd H (by simp)
                          · rw [if_neg c68] at H
                            exact absurd H (by simp)
                        · rw [if_neg c67] at H
                          have c67b0 : decide (x22_4 < 8) = false := decide_eq_false c67
                          clear c67
                          by_cases c71 : t402 = true
                          · subst c71
                            have H1 : (some (x19_3 == x21_4)) = some r := by rw [if_pos rfl] at H; exact H
                            clear H
                            have H := H1
                            clear H1
                            obtain rfl := Option.some.inj H
                            go_wp2
                            repeat (go_quiet (fail); try go_wp2)
                            go_ret
                            exact ⟨by first | rfl | (simp [errW_none, errW_some] <;> rfl) | (simp [*, errW_none, errW_some] <;> rfl), by repeat (first | (with_reducible first | exact HB.out | apply below_alloc | apply pw_below_drewN | apply below_drew1) | exact HB.out)⟩
                          · replace c71 := Bool.eq_false_iff.mpr c71
                            subst c71
                            have H1 : (some false) = some r := by rw [if_neg (show ¬ (false = true) by decide)] at H; exact H
                            clear H
                            have H := H1
                            clear H1
                            obtain rfl := Option.some.inj H
                            go_wp2
                            repeat (go_quiet (fail); try go_wp2)
                            go_ret
                            exact ⟨by first | rfl | (simp [errW_none, errW_some] <;> rfl) | (simp [*, errW_none, errW_some] <;> rfl), by repeat (first | (with_reducible first | exact HB.out | apply below_alloc | apply pw_below_drewN | apply below_drew1) | exact HB.out)⟩
  · rw [if_neg c9] at H
    exact absurd H (by simp)

/-- THE ONE PURE STATEMENT of billetlaw15_ShareTrims: yours. -/
def billetlaw15_ShareTrims.Pure : Prop := ∀ (l0 : List Int) (l1 : List Int) (l2 : List Int), l0.length ≤ maxLen → l0.length * 8 ≤ 140737488351232 → (∀ x ∈ l0, (Lit.int .i64 x).wf = true) → l1.length ≤ maxLen → l1.length * 8 ≤ 140737488351232 → (∀ x ∈ l1, (Lit.int .i64 x).wf = true) → l2.length ≤ maxLen → l2.length * 8 ≤ 140737488351232 → (∀ x ∈ l2, (Lit.int .i64 x).wf = true) → ∃ k, billetlaw15_ShareTrims.f k l0 l1 l2 = some true
theorem billetlaw15_ShareTrims.walk (P : billetlaw15_ShareTrims.Pure) (a0 : Option Addr) (len0 cap0 : Nat) (z0 : List Int) (a1 : Option Addr) (len1 cap1 : Nat) (z1 : List Int) (a2 : Option Addr) (len2 cap2 : Nat) (z2 : List Int) (w : World) (w0 : (a0 = none ∧ len0 = 0 ∧ cap0 = 0 ∧ z0 = []) ∨ ∃ x, a0 = some x ∧ len0 ≤ cap0 ∧ cap0 ≤ maxLen ∧ z0.length = cap0 ∧ (∀ i, i < z0.length → w.cell? (x.add i) = some (.int .i64 (z0.getD i 0))) ∧ ∀ n ∈ z0, (Lit.int .i64 n).wf = true) (y0 : len0 * 8 ≤ 140737488351232) (w1 : (a1 = none ∧ len1 = 0 ∧ cap1 = 0 ∧ z1 = []) ∨ ∃ x, a1 = some x ∧ len1 ≤ cap1 ∧ cap1 ≤ maxLen ∧ z1.length = cap1 ∧ (∀ i, i < z1.length → w.cell? (x.add i) = some (.int .i64 (z1.getD i 0))) ∧ ∀ n ∈ z1, (Lit.int .i64 n).wf = true) (y1 : len1 * 8 ≤ 140737488351232) (w2 : (a2 = none ∧ len2 = 0 ∧ cap2 = 0 ∧ z2 = []) ∨ ∃ x, a2 = some x ∧ len2 ≤ cap2 ∧ cap2 ≤ maxLen ∧ z2.length = cap2 ∧ (∀ i, i < z2.length → w.cell? (x.add i) = some (.int .i64 (z2.getD i 0))) ∧ ∀ n ∈ z2, (Lit.int .i64 n).wf = true) (y2 : len2 * 8 ≤ 140737488351232) :
    Calls Try.prog 6 #[.slice a0 len0 cap0, .slice a1 len1 cap1, .slice a2 len2 cap2] w fun e w' => e = .returned (.bool true) ∧ Below w.heap.size w w' := by
  obtain ⟨l0, rfl, hr0, hm0, hw0, hc0⟩ := ReadsInt.ofRowC w0
  obtain ⟨l1, rfl, hr1, hm1, hw1, hc1⟩ := ReadsInt.ofRowC w1
  obtain ⟨l2, rfl, hr2, hm2, hw2, hc2⟩ := ReadsInt.ofRowC w2
  obtain ⟨k, h⟩ := P l0 l1 l2 hm0 y0 hw0 hm1 y1 hw1 hm2 y2 hw2
  refine (billetlaw15_ShareTrims.calls k _ _ l0 _ _ l1 _ _ l2 true w (Kd.C_of_reads (d := (0 : Int)) (h1 := fun _ => rfl) hr0) hc0 (Kd.C_of_reads (d := (0 : Int)) (h1 := fun _ => rfl) hr1) hc1 (Kd.C_of_reads (d := (0 : Int)) (h1 := fun _ => rfl) hr2) hc2 h).mono ?_
  rintro e w' ⟨rfl, hd⟩
  exact ⟨rfl, hd⟩

end Go.Proofs.Ytpdgdogcfmfakaa.P
