/- The book's calls that draw no closure: Held, Known, Sent, New, Learn. -/
import Derived.Test.YtcmaoldklldfmaaBw
import Derived.Deep.LoopGhost
import Derived.Shelf.Abstract
import Derived.Test.YtcmaoldklldfmaaB
import Derived.Deep.QuietTactic
import Derived.BigQuiet
import Derived.StillTailTactics
import Derived.Deep.RegionWith
namespace Go.Proofs.Ytcmaoldklldfmaa.P
open Go.RowKit Go.Proofs.YtcmaoldklldfmaaW.PrintWords Go.Proofs.YtcmaoldklldfmaaW.PrintLast Go.Proofs.YtcmaoldklldfmaaW.PrintMore
attribute [local go_sem] max2_int min2_int
set_option linter.unusedSimpArgs false
set_option linter.unusedVariables false



/-- What is asked of a closure over one number in a box. -/
def PredG (f : Nat) (B : Nat) (z : Int) (p : Gr → Bool) : Prop := ∀ (W : World) (x : Gr), W.cell? ⟨B, 0, none⟩ = some (.int .i64 z) → Calls Try.prog f #[.agg #[.int .i64 x.ver, .int .i64 x.til, .map (some x.m)], .pointer (some ⟨B, 0, none⟩)] W fun e w' => e = .returned (.bool (p x)) ∧ Below W.heap.size W w'

theorem pred40 (B : Nat) (z : Int) : PredG 40 B z (fun x => decide (x.ver < z)) := fun W x hc => by
  have hB : B < W.heap.size := by
    rcases Nat.lt_or_ge B W.heap.size with h | h
    · exact h
    · simp [World.cell?, Array.getElem?_eq_none h] at hc
  have hne : B ≠ W.heap.size := by omega
  go_enter Try.func40, Try.ntmps40
  go_wp2
  all_goals (go_ret; exact ⟨by simp_all, (Below.refl _ _).alloc (Nat.le_refl _) _⟩)

theorem pred37 (B : Nat) (z : Int) : PredG 37 B z (fun x => ovr z x.til) := fun W x hc => by
  have hB : B < W.heap.size := by
    rcases Nat.lt_or_ge B W.heap.size with h | h
    · exact h
    · simp [World.cell?, Array.getElem?_eq_none h] at hc
  have hne : B ≠ W.heap.size := by omega
  go_enter Try.func37, Try.ntmps37
  go_wp2_with (go_at_call 14; refine (Over_any _ _ _).mono ?_; rintro e w' ⟨rfl, rfl⟩)
  all_goals (go_ret; exact ⟨rfl, (Below.refl _ _).alloc (Nat.le_refl _) _⟩)

def IdxPost (gs : List Gr) (p : Gr → Bool) (w : World) (e : Ending) (w' : World) : Prop :=
  ∃ i : Int, e = .returned (.int .i64 i) ∧ ((i = -1 ∧ ∀ j : Nat, j < gs.length → p (rdG gs j) = false) ∨ ∃ k : Nat, i = k ∧ k < gs.length ∧ p (rdG gs k) = true ∧ ∀ j : Nat, j < k → p (rdG gs j) = false) ∧ Below w.heap.size w w'

set_option maxHeartbeats 800000 in
theorem idx_any {f B : Nat} {z : Int} {p : Gr → Bool} (eg : ∀ args w, (callFunc f args).run Try.prog w = .ok (.enter f args) w) (hp : PredG f B z p) (A : Option Addr) (c : Nat) (gs : List Gr) (w : World) (hC : Kd.C kG w A gs.length gs) (hc : w.cell? ⟨B, 0, none⟩ = some (.int .i64 z)) :
    Calls Try.prog 42 #[.slice A gs.length c, .func (.func f) #[] #[.pointer (some ⟨B, 0, none⟩)]] w (IdxPost gs p w) := by
  have hB : B < w.heap.size := by
    rcases Nat.lt_or_ge B w.heap.size with h | h
    · exact h
    · simp [World.cell?, Array.getElem?_eq_none h] at hc
  have hm := Kd.C_max hC
  have HC := Lib.hid hC
  have HP := Lib.hid hp
  have HZ := Lib.hid hc
  clear hC hp hc
  go_enter Try.func42, Try.ntmps42
  go_wp2_with fail
  go_loopw [5, 8] (fun _ i8 wr => ∃ k : Nat, k ≤ gs.length ∧ i8 = .int .i64 k ∧ Hid (Below w.heap.size w wr) ∧ Hid (∀ j : Nat, j < k → p (rdG gs j) = false)) (fun _ i8 _ => gs.length - (intOf i8).toNat)
  case atStart => exact ⟨0, Nat.zero_le _, rfl, Below.refl _ _, fun j hj => absurd hj (Nat.not_lt_zero _)⟩
  case round =>
    obtain ⟨k, hk, rfl, HW, HN⟩ := hrel
    by_cases hlt : k < gs.length
    · obtain ⟨ad, rfl, hx0, hx1, hx2⟩ := at_G (Kd.C_below HC.out HW.out) (k : Int) (by omega) (by omega)
      rw [Int.toNat_natCast] at hx0 hx1 hx2
      have hcall := HP.out wr (rdG gs k) ((HW.out.cell (p := ⟨B, 0, none⟩) hB).trans HZ.out)
      obtain ⟨x, HX⟩ : ∃ x, Hid (rdG gs k = x) := ⟨_, rfl⟩
      rw [HX.out] at hcall hx0 hx1 hx2
      cases hq : p x with
      | true =>
        rw [hq] at hcall
        go_wp2_with (go_at_fn f; refine hcall.mono ?_; rintro e w' ⟨rfl, hb'⟩)
        go_ret
        exact ⟨k, rfl, .inr ⟨k, rfl, hlt, by rw [HX.out]; exact hq, HN.out⟩, HW.out.trans (hb'.mono HW.out.size)⟩
      | false =>
        rw [hq] at hcall
        go_wp2_with (go_at_fn f; refine hcall.mono ?_; rintro e w' ⟨rfl, hb'⟩)
        go_roundw
        case rel => exact ⟨k + 1, by omega, by go_num, HW.out.trans (hb'.mono HW.out.size), Lib.hid (fun j hj => by
          rcases Nat.lt_succ_iff_lt_or_eq.1 hj with h | rfl
          · exact HN.out j h
          · rw [HX.out]; exact hq)⟩
        case measure => simp [intOf]; omega
    · obtain rfl : k = gs.length := by omega
      go_wp2
      go_ret
      exact ⟨-1, rfl, .inl ⟨rfl, HN.out⟩, HW.out⟩
end Go.Proofs.Ytcmaoldklldfmaa.P
