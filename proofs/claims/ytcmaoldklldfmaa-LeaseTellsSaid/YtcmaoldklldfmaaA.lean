/- The contracts of layer 14's functions over whole numbers: each call returns what a plain function on integers says and leaves the world as it was. -/
import Derived.Test.YtcmaoldklldfmaaRows
import Derived.WalkKit
import Derived.WalkSpells
import Derived.WalkLawsBesides
namespace Go.Proofs.Ytcmaoldklldfmaa
open Go.RowKit

theorem ret_int {k : IntKind} {a b : Int} (h : a = b) : Ending.returned (.int k a) = .returned (.int k b) := by rw [h]
theorem ret_bool {a b : Bool} (h : a = b) : Ending.returned (.bool a) = .returned (.bool b) := by rw [h]

def whn (t : Int) : Int := if t < -1099511627776 then -1099511627776 else if 1099511627776 < t then 1099511627776 else t
def pk (c n : Int) : Int := (if c < 0 then -(c + 1) else c) % n
def I64 (c : Int) : Prop := -9223372036854775808 ≤ c ∧ c ≤ 9223372036854775807

theorem whn_bd (t : Int) : -1099511627776 ≤ whn t ∧ whn t ≤ 1099511627776 := by unfold whn; split <;> (try split) <;> omega
theorem pk_bd (c n : Int) (h : 1 ≤ n) : 0 ≤ pk c n ∧ pk c n < n := ⟨Int.emod_nonneg _ (by omega), Int.emod_lt_of_pos _ (by omega)⟩

set_option maxHeartbeats 400000 in
theorem when_any (t : Int) (w : World) :
    Calls Try.prog 35 #[.int .i64 t] w fun e w' => e = .returned (.int .i64 (whn t)) ∧ w = w' := by
  by_cases h1 : t < -1099511627776
  · go_enter Try.func35, Try.ntmps35
    go_wp2_with fail
    all_goals (go_ret; exact ⟨ret_int (by unfold whn; first | omega | (split <;> (try split) <;> omega)), rfl⟩)
  · by_cases h2 : 1099511627776 < t
    · go_enter Try.func35, Try.ntmps35
      go_wp2_with fail
      all_goals (go_ret; exact ⟨ret_int (by unfold whn; first | omega | (split <;> (try split) <;> omega)), rfl⟩)
    · go_enter Try.func35, Try.ntmps35
      go_wp2_with fail
      all_goals (go_ret; exact ⟨ret_int (by unfold whn; first | omega | (split <;> (try split) <;> omega)), rfl⟩)

set_option maxHeartbeats 400000 in
theorem rwhen_any (t : Int) (w : World) :
    Calls Try.prog 38 #[.int .i64 t] w fun e w' => e = .returned (.int .i64 (whn t)) ∧ w = w' := by
  by_cases h1 : t < -1099511627776
  · go_enter Try.func38, Try.ntmps38
    go_wp2_with fail
    all_goals (go_ret; exact ⟨ret_int (by unfold whn; first | omega | (split <;> (try split) <;> omega)), rfl⟩)
  · by_cases h2 : 1099511627776 < t
    · go_enter Try.func38, Try.ntmps38
      go_wp2_with fail
      all_goals (go_ret; exact ⟨ret_int (by unfold whn; first | omega | (split <;> (try split) <;> omega)), rfl⟩)
    · go_enter Try.func38, Try.ntmps38
      go_wp2_with fail
      all_goals (go_ret; exact ⟨ret_int (by unfold whn; first | omega | (split <;> (try split) <;> omega)), rfl⟩)

theorem pk_neg {c n : Int} (h : c < 0) : pk c n = (-(c + 1)) % n := by unfold pk; rw [if_pos h]
theorem pk_pos {c n : Int} (h : ¬ c < 0) : pk c n = c % n := by unfold pk; rw [if_neg h]

set_option maxHeartbeats 400000 in
theorem pick_any (c n : Int) (w : World) (hn : 1 ≤ n) (hc : I64 c) :
    Calls Try.prog 13 #[.int .i64 c, .int .i64 n] w fun e w' => e = .returned (.int .i64 (pk c n)) ∧ w = w' := by
  obtain ⟨h1, h2⟩ := hc
  by_cases h : c < 0
  · go_enter Try.func13, Try.ntmps13
    go_wp2_with fail
    go_ret
    exact ⟨ret_int (by rw [pk_neg h, ← Int.neg_tmod, Int.tmod_eq_emod_of_nonneg (by omega)]), rfl⟩
  · go_enter Try.func13, Try.ntmps13
    go_wp2_with fail
    go_ret
    exact ⟨ret_int (by rw [pk_pos (by omega)]), rfl⟩

set_option maxHeartbeats 400000 in
theorem bpick_any (c n : Int) (w : World) (hn : 1 ≤ n) (hc : I64 c) :
    Calls Try.prog 39 #[.int .i64 c, .int .i64 n] w fun e w' => e = .returned (.int .i64 (pk c n)) ∧ w = w' := by
  obtain ⟨h1, h2⟩ := hc
  by_cases h : c < 0
  · go_enter Try.func39, Try.ntmps39
    go_wp2_with fail
    go_ret
    exact ⟨ret_int (by rw [pk_neg h, ← Int.neg_tmod, Int.tmod_eq_emod_of_nonneg (by omega)]), rfl⟩
  · go_enter Try.func39, Try.ntmps39
    go_wp2_with fail
    go_ret
    exact ⟨ret_int (by rw [pk_pos (by omega)]), rfl⟩

def tim (n : Int) : Int := pk n 2001 - 1000
def skw (n : Int) : Int := pk n 5 - 2
def unt (n : Int) : Int := whn n + 20
def hld (a b : Int) : Bool := decide (whn a < whn b)
def ovr (a b : Int) : Bool := decide (whn b + 4 ≤ whn a)

set_option maxHeartbeats 400000 in
theorem Time_any (c : Int) (w : World) (hc : I64 c) :
    Calls Try.prog 10 #[.int .i64 c] w fun e w' => e = .returned (.int .i64 (tim c)) ∧ w = w' := by
  have hb := pk_bd c 2001 (by omega)
  go_enter Try.func10, Try.ntmps10
  go_wp2_with (go_at_call 13; refine (pick_any _ _ _ (by omega) hc).mono ?_; rintro e w' ⟨rfl, rfl⟩)
  go_ret
  exact ⟨ret_int rfl, rfl⟩

set_option maxHeartbeats 400000 in
theorem Skew_any (c : Int) (w : World) (hc : I64 c) :
    Calls Try.prog 12 #[.int .i64 c] w fun e w' => e = .returned (.int .i64 (skw c)) ∧ w = w' := by
  have hb := pk_bd c 5 (by omega)
  go_enter Try.func12, Try.ntmps12
  go_wp2_with (go_at_call 13; refine (pick_any _ _ _ (by omega) hc).mono ?_; rintro e w' ⟨rfl, rfl⟩)
  go_ret
  exact ⟨ret_int rfl, rfl⟩

set_option maxHeartbeats 400000 in
theorem Until_any (c : Int) (w : World) :
    Calls Try.prog 11 #[.int .i64 c] w fun e w' => e = .returned (.int .i64 (unt c)) ∧ w = w' := by
  have hb := whn_bd c
  go_enter Try.func11, Try.ntmps11
  go_wp2_with (go_at_call 35; refine (when_any _ _).mono ?_; rintro e w' ⟨rfl, rfl⟩)
  go_ret
  exact ⟨ret_int rfl, rfl⟩

set_option maxHeartbeats 400000 in
theorem Holds_any (a b : Int) (w : World) :
    Calls Try.prog 15 #[.int .i64 a, .int .i64 b] w fun e w' => e = .returned (.bool (hld a b)) ∧ w = w' := by
  go_enter Try.func15, Try.ntmps15
  go_wp2_with (go_at_call 35; refine (when_any _ _).mono ?_; rintro e w' ⟨rfl, rfl⟩)
  go_ret
  exact ⟨ret_bool rfl, rfl⟩

set_option maxHeartbeats 400000 in
theorem Over_any (a b : Int) (w : World) :
    Calls Try.prog 14 #[.int .i64 a, .int .i64 b] w fun e w' => e = .returned (.bool (ovr a b)) ∧ w = w' := by
  have hb := whn_bd a
  have hb := whn_bd b
  go_enter Try.func14, Try.ntmps14
  go_wp2_with (go_at_call 35; refine (when_any _ _).mono ?_; rintro e w' ⟨rfl, rfl⟩)
  go_ret
  exact ⟨ret_bool (by unfold ovr; simp; omega), rfl⟩

set_option maxHeartbeats 400000 in
theorem rUntil_any (c : Int) (w : World) :
    Calls Try.prog 20 #[.int .i64 c] w fun e w' => e = .returned (.int .i64 (unt c)) ∧ w = w' := by
  have hb := whn_bd c
  go_enter Try.func20, Try.ntmps20
  go_wp2_with (go_at_call 38; refine (rwhen_any _ _).mono ?_; rintro e w' ⟨rfl, rfl⟩)
  go_ret
  exact ⟨ret_int rfl, rfl⟩

set_option maxHeartbeats 400000 in
theorem rHolds_any (a b : Int) (w : World) :
    Calls Try.prog 21 #[.int .i64 a, .int .i64 b] w fun e w' => e = .returned (.bool (hld a b)) ∧ w = w' := by
  go_enter Try.func21, Try.ntmps21
  go_wp2_with (go_at_call 38; refine (rwhen_any _ _).mono ?_; rintro e w' ⟨rfl, rfl⟩)
  go_ret
  exact ⟨ret_bool rfl, rfl⟩

set_option maxHeartbeats 400000 in
theorem rOver_any (a b : Int) (w : World) :
    Calls Try.prog 22 #[.int .i64 a, .int .i64 b] w fun e w' => e = .returned (.bool (ovr a b)) ∧ w = w' := by
  have hb := whn_bd a
  have hb := whn_bd b
  go_enter Try.func22, Try.ntmps22
  go_wp2_with (go_at_call 38; refine (rwhen_any _ _).mono ?_; rintro e w' ⟨rfl, rfl⟩)
  go_ret
  exact ⟨ret_bool rfl, rfl⟩

end Go.Proofs.Ytcmaoldklldfmaa
