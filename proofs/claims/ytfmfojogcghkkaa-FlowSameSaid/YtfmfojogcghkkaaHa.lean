/- slices.ContainsFunc at the closure of graph.Good: whether a number that is not nought is among them. -/
import Derived.Test.YtfmfojogcghkkaaPx0
import Derived.Lib.Hide
namespace Go.Proofs.Ytfmfojogcghkkaa.P
open Go.RowKit Go.Proofs.YtfmfojogcghkkaaW.PrintWords Go.Proofs.YtfmfojogcghkkaaW.PrintLast Go.Proofs.YtfmfojogcghkkaaW.PrintMore

set_option maxHeartbeats 400000 in
theorem neg_any (h : Int) (w : World) : Calls Try.prog 49 #[.int .i64 h] w fun e w' => e = .returned (.bool (h != 0)) ∧ w = w' := by
  go_enter Try.func49, Try.ntmps49
  go_wp2
  go_ret
  exact ⟨rfl, rfl⟩

theorem any_false (l : List Int) (k : Nat) (_h : k ≤ l.length) (hn : ∀ j : Nat, j < k → rd l j = 0) (hk : k = l.length) : l.any (· != 0) = false := by
  subst hk
  rw [List.any_eq_false]
  intro x hx
  obtain ⟨j, hj, rfl⟩ := List.getElem_of_mem hx
  have := hn j hj
  simpa [rd, List.getD_eq_getElem?_getD, List.getElem?_eq_getElem hj] using this

theorem any_true (l : List Int) (k : Nat) (h : k < l.length) (hn : rd l k ≠ 0) : l.any (· != 0) = true := by
  rw [List.any_eq_true]
  refine ⟨l[k], List.getElem_mem h, ?_⟩
  simpa [rd, List.getD_eq_getElem?_getD, List.getElem?_eq_getElem h] using hn

def IdxPost (l : List Int) (w : World) (e : Ending) (w' : World) : Prop := ∃ i : Int, e = .returned (.int .i64 i) ∧ (0 ≤ i ↔ l.any (· != 0) = true) ∧ i ≤ l.length ∧ -1 ≤ i ∧ w = w'

set_option maxHeartbeats 400000 in
theorem idx_any (A : Option Addr) (c : Nat) (l : List Int) (w : World) (hr : Kd.C (Kd.int .i64) w A l.length l) :
    Calls Try.prog 59 #[.slice A l.length c, .func (.func 49) #[] #[]] w (IdxPost l w) := by
  have hm := Kd.C_max hr
  have HR := Lib.hid hr
  clear hr
  go_enter Try.func59, Try.ntmps59
  go_wp2_with fail
  go_loop [8] (fun i => ∃ k : Nat, k ≤ l.length ∧ i = .int .i64 k ∧ Hid (∀ j : Nat, j < k → rd l j = 0)) (fun i => l.length - (intOf i).toNat)
  case atStart => exact ⟨0, Nat.zero_le _, rfl, Lib.hid (fun j hj => absurd hj (by omega))⟩
  case round =>
    obtain ⟨k, hk, rfl, HN⟩ := hrel
    by_cases hlt : k < l.length
    · obtain ⟨ad, rfl, hc⟩ := Kd.at_int HR.out (k : Int) (by omega) (by omega)
      rw [Int.toNat_natCast] at hc
      by_cases hneg : rd l k ≠ 0
      · have hd : (rd l k != 0) = true := by simpa using hneg
        have HA : Hid (l.any (· != 0) = true) := Lib.hid (any_true l k hlt hneg)
        go_wp2_with (go_at_call 49; refine (neg_any _ _).mono ?_; rintro e w' ⟨rfl, rfl⟩)
        go_ret
        exact ⟨k, rfl, by simp [HA.out], by omega, by omega, rfl⟩
      · have hd : (rd l k != 0) = false := by simpa using hneg
        have HZ : Hid (rd l k = 0) := Lib.hid (by simpa using hneg)
        clear hneg
        go_wp2_with (go_at_call 49; refine (neg_any _ _).mono ?_; rintro e w' ⟨rfl, rfl⟩)
        go_round
        case rel => exact ⟨k + 1, by omega, by go_num, Lib.hid (fun j hj => by rcases Nat.lt_succ_iff_lt_or_eq.1 hj with h | rfl; exact HN.out j h; exact HZ.out)⟩
        case measure => simp [intOf]; omega
    · have HA : Hid (l.any (· != 0) = false) := Lib.hid (any_false l k hk HN.out (by omega))
      go_wp2
      go_ret
      exact ⟨-1, rfl, by simp [HA.out], by omega, by omega, rfl⟩

set_option maxHeartbeats 400000 in
theorem has_any (A : Option Addr) (c : Nat) (l : List Int) (w : World) (hr : Kd.C (Kd.int .i64) w A l.length l) :
    Calls Try.prog 48 #[.slice A l.length c, .func (.func 49) #[] #[]] w fun e w' => e = .returned (.bool (l.any (· != 0))) ∧ w = w' := by
  go_enter Try.func48, Try.ntmps48
  go_wp2_with fail
  refine (idx_any A c l w hr).mono ?_
  rintro e w' ⟨i, rfl, hi, h1, h2, rfl⟩
  have hm := Kd.C_max hr
  by_cases h0 : 0 ≤ i
  · have hd := hi.1 h0
    have HD := Lib.hid hd
    clear hd hi hr
    go_wp2
    go_ret
    exact ⟨by rw [HD.out]; rfl, rfl⟩
  · have hd : l.any (· != 0) = false := by cases hl : l.any (· != 0) <;> simp_all
    have HD := Lib.hid hd
    clear hd hi hr
    go_wp2
    go_ret
    exact ⟨by rw [HD.out]; show Ending.returned (.bool (decide (0 ≤ i))) = _; rw [decide_eq_false (by omega)], rfl⟩
end Go.Proofs.Ytfmfojogcghkkaa.P
