-- Laid by a program of this session (wip/tools/genx.py) out of the kit's print of the translation.
import Derived.Test.YtpdgdogcfmfakaaPx0
namespace Go.Proofs.Ytpdgdogcfmfakaa.P
open Go.RowKit Go.Proofs.YtpdgdogcfmfakaaW.PrintWords Go.Proofs.YtpdgdogcfmfakaaW.PrintLast Go.Proofs.YtpdgdogcfmfakaaW.PrintMore
attribute [local go_sem] max2_int min2_int max_two min_two max_three min_three max_four min_four   -- for this text's walks alone
set_option linter.unusedVariables false
set_option linter.unusedSimpArgs false

/-! ### billetlaw15_count: function 21 -/
def billetlaw15_count.l0 : Nat → List (S40) → ByteArray → ByteArray → Int → Int → Option (Int)
  | 0, _, _, _, _, _ => none
  | k + 1, x0, x1, x2, x7, x8 => if x8 < (x0.length : Int) then (if 0 ≤ x8 then (if ((rd_T40 x0 x8).f0).toList = x1.toList then (if x2.toList = ([] : List UInt8) then (billetlaw15_count.l0 k x0 x1 x2 (wrap64 (x7 + ((rd_T40 x0 x8).f2))) (wrap64 (x8 + 1))) else (if ((rd_T40 x0 x8).f1).toList = x2.toList then (billetlaw15_count.l0 k x0 x1 x2 (wrap64 (x7 + ((rd_T40 x0 x8).f2))) (wrap64 (x8 + 1))) else (billetlaw15_count.l0 k x0 x1 x2 x7 (wrap64 (x8 + 1))))) else (billetlaw15_count.l0 k x0 x1 x2 x7 (wrap64 (x8 + 1)))) else (none)) else (some x7)
def billetlaw15_count.f (k : Nat) (l0 : List (S40)) (a1 : ByteArray) (a2 : ByteArray) : Option (Int) := billetlaw15_count.l0 k l0 a1 a2 0 0
theorem billetlaw15_count.mono_l : ∀ k, (∀ y0 y1 y2 y3 y4, LeO (billetlaw15_count.l0 k y0 y1 y2 y3 y4) (billetlaw15_count.l0 (k + 1) y0 y1 y2 y3 y4))
  | 0 => fun _ _ _ _ _ r h => by simp [billetlaw15_count.l0] at h
  | k + 1 => by
    have ih0 := billetlaw15_count.mono_l k
    · intro y0 y1 y2 y3 y4
      unfold billetlaw15_count.l0
      repeat' first
      | (with_reducible exact ih0 _ _ _ _ _)
      | (with_reducible exact LeO.refl _)
      | (with_reducible exact LeO.none _)
      | (with_reducible refine LeO.ite ?_ ?_)
      | (with_reducible refine LeO.bind ?_ (fun _ => ?_))
      | exact ih0 _ _ _ _ _
      | exact LeO.none _
      | refine LeO.ite ?_ ?_
      | refine LeO.bind ?_ (fun _ => ?_)
theorem billetlaw15_count.mono : ∀ a0 a1 a2 k, LeO (billetlaw15_count.f k a0 a1 a2) (billetlaw15_count.f (k + 1) a0 a1 a2) := by
  intro a0 a1 a2 k
  have ih0 := billetlaw15_count.mono_l k
  unfold billetlaw15_count.f
  repeat' first
      | (with_reducible exact ih0 _ _ _ _ _)
      | (with_reducible exact LeO.refl _)
      | (with_reducible exact LeO.none _)
      | (with_reducible refine LeO.ite ?_ ?_)
      | (with_reducible refine LeO.bind ?_ (fun _ => ?_))
      | exact ih0 _ _ _ _ _
      | exact LeO.none _
      | refine LeO.ite ?_ ?_
      | refine LeO.bind ?_ (fun _ => ?_)
set_option maxHeartbeats 8000000 in
set_option maxRecDepth 100000 in
theorem billetlaw15_count.calls (k : Nat) (A0 : Option Addr) (c0 : Nat) (l0 : List (S40)) (a1 : ByteArray) (a2 : ByteArray) (r : Int) (w : World) (hr0 : Kd.C k40 w A0 l0.length l0) (hc0 : l0.length ≤ c0) (h : billetlaw15_count.f k l0 a1 a2 = some r) :
    Calls Try.prog 21 #[.slice A0 l0.length c0, .string a1, .string a2] w fun e w' => e = .returned (.int .i64 r) ∧ Drawn0 w w' := by
  have HR0 := Aside0.mk hr0
  have HC0 := Aside0.mk hc0
  clear hr0 hc0
  have H : (billetlaw15_count.l0 k l0 a1 a2 0 0) = some r := h
  clear h
  have H' := Aside0.mk H
  clear H
  go_enter Try.func21, Try.ntmps21
  go_wp2
  go_loopg [7, 8] k (fun kq v7 v8 w' => ∃ (x7_1 : Int) (x8_1 : Int), v7 = .int .i64 x7_1 ∧ v8 = .int .i64 x8_1 ∧ Aside0 (billetlaw15_count.l0 kq l0 a1 a2 x7_1 x8_1 = some r) ∧ Aside0 (kq ≤ k) ∧ Drawn0 w w')
  case atStart => exact ⟨(0), (0), (by first | rfl | (simp; done) | (simp [*]; done)), (by first | rfl | (simp; done) | (simp [*]; done)), H', ⟨Nat.le_refl _⟩, by repeat (first | exact Drawn0.refl _ | apply Drawn0.step)⟩
  case round =>
    clear H'
    try clear c2
    try clear p2
    obtain ⟨x7_1, x8_1, rfl, rfl, HA, HK1, ⟨m1, rfl⟩⟩ := hrel
    cases gk with
    | zero => exact absurd HA.out (by simp [billetlaw15_count.l0])
    | succ k1 =>
      have H := HA.out
      clear HA
      simp only [billetlaw15_count.l0] at H
      by_cases c4 : x8_1 < (l0.length : Int)
      · rw [if_pos c4] at H
        have c4b0 : decide (x8_1 < (l0.length : Int)) = true := decide_eq_true c4
        clear c4
        by_cases c5 : 0 ≤ x8_1
        · rw [if_pos c5] at H
          have c5b0 : decide (0 ≤ x8_1) = true := decide_eq_true c5
          clear c5
          by_cases c6 : ((rd_T40 l0 x8_1).f0).toList = a1.toList
          · rw [if_pos c6] at H
            have c6b0 : (((rd_T40 l0 x8_1).f0).toList == a1.toList) = true := beq_iff_eq.mpr c6
            have c6b1 : (((rd_T40 l0 x8_1).f0).toList != a1.toList) = false := bne_eq_false_iff_eq.mpr c6
            clear c6
            by_cases c7 : a2.toList = ([] : List UInt8)
            · rw [if_pos c7] at H
              have c7b0 : (a2.toList == ([] : List UInt8)) = true := beq_iff_eq.mpr c7
              have c7b1 : (a2.toList != ([] : List UInt8)) = false := bne_eq_false_iff_eq.mpr c7
              clear c7
              have H' := Aside0.mk H
              clear H
              have p380 : 0 ≤ (x8_1 : Int) := of_decide_eq_true (by first | (with_reducible assumption) | assumption)
              have q380 : x8_1 < (l0.length : Int) := of_decide_eq_true (by first | (with_reducible assumption) | assumption)
              obtain ⟨ad380, e380, hx380_0, hx380_1, hx380_2⟩ := at_T40 HR0.out x8_1 p380 q380
              cases e380
              replace p380 := eq_true p380
              replace q380 := eq_true q380
              have p381 : 0 ≤ (x8_1 : Int) := of_decide_eq_true (by first | (with_reducible assumption) | assumption)
              have q381 : x8_1 < (l0.length : Int) := of_decide_eq_true (by first | (with_reducible assumption) | assumption)
              obtain ⟨ad381, e381, hx381_0, hx381_1, hx381_2⟩ := at_T40 HR0.out x8_1 p381 q381
              obtain rfl : ad380 = ad381 := (by injection e381)
              replace p381 := eq_true p381
              replace q381 := eq_true q381
              go_wp2
              go_roundg k1
              case measure => have := HK1.out; omega
              case rel => exact ⟨(wrap64 (x7_1 + ((rd_T40 l0 x8_1).f2))), (wrap64 (x8_1 + 1)), (by first | rfl | (simp; done) | (simp [*]; done)), (by first | rfl | (simp; done) | (simp [*]; done)), H', ⟨by have := HK1.out; omega⟩, by repeat (first | exact Drawn0.refl _ | apply Drawn0.step)⟩
            · rw [if_neg c7] at H
              have c7b0 : (a2.toList == ([] : List UInt8)) = false := beq_eq_false_iff_ne.mpr c7
              have c7b1 : (a2.toList != ([] : List UInt8)) = true := bne_iff_ne.mpr c7
              by_cases c8 : ((rd_T40 l0 x8_1).f1).toList = a2.toList
              · rw [if_pos c8] at H
                have c8b0 : (((rd_T40 l0 x8_1).f1).toList == a2.toList) = true := beq_iff_eq.mpr c8
                have c8b1 : (((rd_T40 l0 x8_1).f1).toList != a2.toList) = false := bne_eq_false_iff_eq.mpr c8
                clear c8
                have H' := Aside0.mk H
                clear H
                have p380 : 0 ≤ (x8_1 : Int) := of_decide_eq_true (by first | (with_reducible assumption) | assumption)
                have q380 : x8_1 < (l0.length : Int) := of_decide_eq_true (by first | (with_reducible assumption) | assumption)
                obtain ⟨ad380, e380, hx380_0, hx380_1, hx380_2⟩ := at_T40 HR0.out x8_1 p380 q380
                cases e380
                replace p380 := eq_true p380
                replace q380 := eq_true q380
                have p382 : 0 ≤ (x8_1 : Int) := of_decide_eq_true (by first | (with_reducible assumption) | assumption)
                have q382 : x8_1 < (l0.length : Int) := of_decide_eq_true (by first | (with_reducible assumption) | assumption)
                obtain ⟨ad382, e382, hx382_0, hx382_1, hx382_2⟩ := at_T40 HR0.out x8_1 p382 q382
                obtain rfl : ad380 = ad382 := (by injection e382)
                replace p382 := eq_true p382
                replace q382 := eq_true q382
                have p383 : 0 ≤ (x8_1 : Int) := of_decide_eq_true (by first | (with_reducible assumption) | assumption)
                have q383 : x8_1 < (l0.length : Int) := of_decide_eq_true (by first | (with_reducible assumption) | assumption)
                obtain ⟨ad383, e383, hx383_0, hx383_1, hx383_2⟩ := at_T40 HR0.out x8_1 p383 q383
                obtain rfl : ad380 = ad383 := (by injection e383)
                replace p383 := eq_true p383
                replace q383 := eq_true q383
                go_wp2
                go_roundg k1
                case measure => have := HK1.out; omega
                case rel => exact ⟨(wrap64 (x7_1 + ((rd_T40 l0 x8_1).f2))), (wrap64 (x8_1 + 1)), (by first | rfl | (simp; done) | (simp [*]; done)), (by first | rfl | (simp; done) | (simp [*]; done)), H', ⟨by have := HK1.out; omega⟩, by repeat (first | exact Drawn0.refl _ | apply Drawn0.step)⟩
              · rw [if_neg c8] at H
                have c8b0 : (((rd_T40 l0 x8_1).f1).toList == a2.toList) = false := beq_eq_false_iff_ne.mpr c8
                have c8b1 : (((rd_T40 l0 x8_1).f1).toList != a2.toList) = true := bne_iff_ne.mpr c8
                have H' := Aside0.mk H
                clear H
                have p380 : 0 ≤ (x8_1 : Int) := of_decide_eq_true (by first | (with_reducible assumption) | assumption)
                have q380 : x8_1 < (l0.length : Int) := of_decide_eq_true (by first | (with_reducible assumption) | assumption)
                obtain ⟨ad380, e380, hx380_0, hx380_1, hx380_2⟩ := at_T40 HR0.out x8_1 p380 q380
                cases e380
                replace p380 := eq_true p380
                replace q380 := eq_true q380
                have p382 : 0 ≤ (x8_1 : Int) := of_decide_eq_true (by first | (with_reducible assumption) | assumption)
                have q382 : x8_1 < (l0.length : Int) := of_decide_eq_true (by first | (with_reducible assumption) | assumption)
                obtain ⟨ad382, e382, hx382_0, hx382_1, hx382_2⟩ := at_T40 HR0.out x8_1 p382 q382
                obtain rfl : ad380 = ad382 := (by injection e382)
                replace p382 := eq_true p382
                replace q382 := eq_true q382
                go_wp2
                go_roundg k1
                case measure => have := HK1.out; omega
                case rel => exact ⟨(x7_1), (wrap64 (x8_1 + 1)), (by first | rfl | (simp; done) | (simp [*]; done)), (by first | rfl | (simp; done) | (simp [*]; done)), H', ⟨by have := HK1.out; omega⟩, by repeat (first | exact Drawn0.refl _ | apply Drawn0.step)⟩
          · rw [if_neg c6] at H
            have c6b0 : (((rd_T40 l0 x8_1).f0).toList == a1.toList) = false := beq_eq_false_iff_ne.mpr c6
            have c6b1 : (((rd_T40 l0 x8_1).f0).toList != a1.toList) = true := bne_iff_ne.mpr c6
            have H' := Aside0.mk H
            clear H
            have p380 : 0 ≤ (x8_1 : Int) := of_decide_eq_true (by first | (with_reducible assumption) | assumption)
            have q380 : x8_1 < (l0.length : Int) := of_decide_eq_true (by first | (with_reducible assumption) | assumption)
            obtain ⟨ad380, e380, hx380_0, hx380_1, hx380_2⟩ := at_T40 HR0.out x8_1 p380 q380
            cases e380
            replace p380 := eq_true p380
            replace q380 := eq_true q380
            go_wp2
            go_roundg k1
            case measure => have := HK1.out; omega
            case rel => exact ⟨(x7_1), (wrap64 (x8_1 + 1)), (by first | rfl | (simp; done) | (simp [*]; done)), (by first | rfl | (simp; done) | (simp [*]; done)), H', ⟨by have := HK1.out; omega⟩, by repeat (first | exact Drawn0.refl _ | apply Drawn0.step)⟩
        · rw [if_neg c5] at H
          exact absurd H (by simp)
      · rw [if_neg c4] at H
        have c4b0 : decide (x8_1 < (l0.length : Int)) = false := decide_eq_false c4
        clear c4
        obtain rfl := Option.some.inj H
        go_wp2
        go_ret
        exact ⟨by first | rfl | (simp; done) | (simp [*]; done), by repeat (first | exact Drawn0.refl _ | apply Drawn0.step)⟩

end Go.Proofs.Ytpdgdogcfmfakaa.P
