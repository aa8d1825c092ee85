/- LeaseSafe and LeaseOrder of layer 14: their walks. -/
import Derived.Test.YtcmaoldklldfmaaB
namespace Go.Proofs.Ytcmaoldklldfmaa
open Go.RowKit

theorem tim_bd (c : Int) : -1000 ≤ tim c ∧ tim c ≤ 1000 := by have := pk_bd c 2001 (by omega); unfold tim; omega
theorem skw_bd (c : Int) : -2 ≤ skw c ∧ skw c ≤ 2 := by have := pk_bd c 5 (by omega); unfold skw; omega
theorem whn_in {t : Int} (h1 : -1099511627776 ≤ t) (h2 : t ≤ 1099511627776) : whn t = t := by unfold whn; split <;> (try split) <;> omega

set_option maxHeartbeats 400000 in
theorem LeaseSafe_any (given one at_ two later three : Int) (h0 : I64 given) (h1 : I64 one) (h2 : I64 at_) (h3 : I64 two) (h4 : I64 later) (h5 : I64 three) (w : World) :
    Calls Try.prog 3 #[.int .i64 given, .int .i64 one, .int .i64 at_, .int .i64 two, .int .i64 later, .int .i64 three] w fun e w' => e = .returned (.bool true) ∧ Below w.heap.size w w' := by
  have bg := tim_bd given
  have bo := skw_bd one
  have bt := tim_bd at_
  have b2 := skw_bd two
  have bl := pk_bd later 1000 (by omega)
  have b3 := skw_bd three
  have eU : unt (tim given + skw one) = tim given + skw one + 20 := by unfold unt; rw [whn_in (by omega) (by omega)]
  have bU : -1000 ≤ unt (tim given + skw one) - (tim given) ∧ unt (tim given + skw one) ≤ 1022 ∧ tim given + 18 ≤ unt (tim given + skw one) ∧ unt (tim given + skw one) ≤ tim given + 22 := by omega
  have wU : whn (unt (tim given + skw one)) = unt (tim given + skw one) := whn_in (by omega) (by omega)
  have w2 : whn (tim at_ + skw two) = tim at_ + skw two := whn_in (by omega) (by omega)
  have w3 : whn (tim at_ + pk later 1000 + skw three) = tim at_ + pk later 1000 + skw three := whn_in (by omega) (by omega)
  have q1 : ovr (tim at_ + skw two) (unt (tim given + skw one)) = true → hld (tim at_ + pk later 1000 + skw three) (unt (tim given + skw one)) = false := by
    unfold ovr hld; rw [wU, w2, w3]; simp; omega
  have q2 : tim given + 24 ≤ tim at_ + pk later 1000 → hld (tim at_ + pk later 1000 + skw three) (unt (tim given + skw one)) = false := by
    unfold hld; rw [wU, w3]; simp; omega
  clear wU w2 w3 eU
  by_cases c1 : ovr (tim at_ + skw two) (unt (tim given + skw one)) = true
  · have c2 := q1 c1
    clear q1 q2
    go_enter Try.func3, Try.ntmps3
    go_wp2_with (first
      | (go_at_call 9; refine (awake_any _).mono ?_; rintro e w' ⟨rfl, hB⟩)
      | (go_at_call 10; refine (Time_any _ _ (by assumption)).mono ?_; rintro e w' ⟨rfl, rfl⟩)
      | (go_at_call 12; refine (Skew_any _ _ (by assumption)).mono ?_; rintro e w' ⟨rfl, rfl⟩)
      | (go_at_call 13; refine (pick_any _ _ _ (by omega) (by assumption)).mono ?_; rintro e w' ⟨rfl, rfl⟩)
      | (go_at_call 11; refine (Until_any _ _).mono ?_; rintro e w' ⟨rfl, rfl⟩)
      | (go_at_call 14; refine (Over_any _ _ _).mono ?_; rintro e w' ⟨rfl, rfl⟩)
      | (go_at_call 15; refine (Holds_any _ _ _).mono ?_; rintro e w' ⟨rfl, rfl⟩))
    all_goals (go_ret; exact ⟨rfl, by assumption⟩)
  · have c1' : ovr (tim at_ + skw two) (unt (tim given + skw one)) = false := by simpa using c1
    clear c1
    by_cases c3 : tim given + 24 ≤ tim at_ + pk later 1000
    · have c2 := q2 c3
      clear q1 q2
      go_enter Try.func3, Try.ntmps3
      go_wp2_with (first
      | (go_at_call 9; refine (awake_any _).mono ?_; rintro e w' ⟨rfl, hB⟩)
      | (go_at_call 10; refine (Time_any _ _ (by assumption)).mono ?_; rintro e w' ⟨rfl, rfl⟩)
      | (go_at_call 12; refine (Skew_any _ _ (by assumption)).mono ?_; rintro e w' ⟨rfl, rfl⟩)
      | (go_at_call 13; refine (pick_any _ _ _ (by omega) (by assumption)).mono ?_; rintro e w' ⟨rfl, rfl⟩)
      | (go_at_call 11; refine (Until_any _ _).mono ?_; rintro e w' ⟨rfl, rfl⟩)
      | (go_at_call 14; refine (Over_any _ _ _).mono ?_; rintro e w' ⟨rfl, rfl⟩)
      | (go_at_call 15; refine (Holds_any _ _ _).mono ?_; rintro e w' ⟨rfl, rfl⟩))
      all_goals (go_ret; exact ⟨rfl, by assumption⟩)
    · clear q1 q2
      go_enter Try.func3, Try.ntmps3
      go_wp2_with (first
      | (go_at_call 9; refine (awake_any _).mono ?_; rintro e w' ⟨rfl, hB⟩)
      | (go_at_call 10; refine (Time_any _ _ (by assumption)).mono ?_; rintro e w' ⟨rfl, rfl⟩)
      | (go_at_call 12; refine (Skew_any _ _ (by assumption)).mono ?_; rintro e w' ⟨rfl, rfl⟩)
      | (go_at_call 13; refine (pick_any _ _ _ (by omega) (by assumption)).mono ?_; rintro e w' ⟨rfl, rfl⟩)
      | (go_at_call 11; refine (Until_any _ _).mono ?_; rintro e w' ⟨rfl, rfl⟩)
      | (go_at_call 14; refine (Over_any _ _ _).mono ?_; rintro e w' ⟨rfl, rfl⟩)
      | (go_at_call 15; refine (Holds_any _ _ _).mono ?_; rintro e w' ⟨rfl, rfl⟩))
      all_goals (go_ret; exact ⟨rfl, by assumption⟩)

theorem unt_mono {a b : Int} (h : a ≤ b) : unt a ≤ unt b := by
  unfold unt whn; split <;> split <;> (try split) <;> (try split) <;> omega
theorem whn_mono {a b : Int} (h : a ≤ b) : whn a ≤ whn b := by
  unfold whn; split <;> split <;> (try split) <;> (try split) <;> omega

theorem order_facts {L H : Int} (now : Int) (h : L ≤ H) : unt L ≤ unt H ∧ (hld now (unt L) = true → hld now (unt H) = true) ∧ (ovr now (unt H) = true → ovr now (unt L) = true) ∧
    (hld now (unt L) = true → ovr now (unt L) = false) ∧ (L < 1099511627776 → hld L (unt L) = true) ∧ ovr L (unt L) = false := by
  have h1 := unt_mono h
  have h2 := whn_mono h1
  refine ⟨h1, ?_, ?_, ?_, ?_, ?_⟩
  · unfold hld; simp; omega
  · unfold ovr; simp; omega
  · unfold hld ovr; simp; omega
  · intro hl
    unfold hld unt; simp
    have := whn_bd L
    by_cases k : 1099511627776 - 20 < whn L
    · have e1 : whn L = L := by unfold whn at k ⊢; split <;> (try split) <;> simp_all <;> omega
      have e2 : whn (whn L + 20) = 1099511627776 := by rw [e1]; unfold whn; split <;> (try split) <;> omega
      omega
    · rw [whn_in (t := whn L + 20) (by omega) (by omega)]; omega
  · unfold ovr unt; simp
    have := whn_bd L
    by_cases k : 1099511627776 - 20 < whn L
    · have e2 : whn (whn L + 20) = 1099511627776 := by unfold whn at k ⊢; split <;> (try split) <;> simp_all <;> omega
      omega
    · rw [whn_in (t := whn L + 20) (by omega) (by omega)]; omega

set_option maxHeartbeats 1000000 in
theorem LeaseOrder_any (a b now : Int) (w : World) :
    Calls Try.prog 5 #[.int .i64 a, .int .i64 b, .int .i64 now] w fun e w' => e = .returned (.bool true) ∧ Below w.heap.size w w' := by
  by_cases hab : b < a
  · obtain ⟨f1, f2, f3, f4, f5, f6⟩ := order_facts (L := b) (H := a) now (by omega)
    cases k1 : hld now (unt b) <;> cases k3 : ovr now (unt a) <;> cases k4 : ovr now (unt b) <;> simp only [k1, k3, k4, forall_const, reduceCtorEq, false_imp_iff, imp_false] at f2 f3 f4
    all_goals
      by_cases k5 : b < 1099511627776
      all_goals
        first
        | (have k6 := f5 k5; clear f5
           go_enter Try.func5, Try.ntmps5
           go_wp2_with (first
      | (go_at_call 9; refine (awake_any _).mono ?_; rintro e w' ⟨rfl, hB⟩)
      | (go_at_call 10; refine (Time_any _ _ (by assumption)).mono ?_; rintro e w' ⟨rfl, rfl⟩)
      | (go_at_call 12; refine (Skew_any _ _ (by assumption)).mono ?_; rintro e w' ⟨rfl, rfl⟩)
      | (go_at_call 13; refine (pick_any _ _ _ (by omega) (by assumption)).mono ?_; rintro e w' ⟨rfl, rfl⟩)
      | (go_at_call 11; refine (Until_any _ _).mono ?_; rintro e w' ⟨rfl, rfl⟩)
      | (go_at_call 14; refine (Over_any _ _ _).mono ?_; rintro e w' ⟨rfl, rfl⟩)
      | (go_at_call 15; refine (Holds_any _ _ _).mono ?_; rintro e w' ⟨rfl, rfl⟩))
           all_goals (go_ret; exact ⟨rfl, by assumption⟩))
        | (clear f5
           go_enter Try.func5, Try.ntmps5
           go_wp2_with (first
      | (go_at_call 9; refine (awake_any _).mono ?_; rintro e w' ⟨rfl, hB⟩)
      | (go_at_call 10; refine (Time_any _ _ (by assumption)).mono ?_; rintro e w' ⟨rfl, rfl⟩)
      | (go_at_call 12; refine (Skew_any _ _ (by assumption)).mono ?_; rintro e w' ⟨rfl, rfl⟩)
      | (go_at_call 13; refine (pick_any _ _ _ (by omega) (by assumption)).mono ?_; rintro e w' ⟨rfl, rfl⟩)
      | (go_at_call 11; refine (Until_any _ _).mono ?_; rintro e w' ⟨rfl, rfl⟩)
      | (go_at_call 14; refine (Over_any _ _ _).mono ?_; rintro e w' ⟨rfl, rfl⟩)
      | (go_at_call 15; refine (Holds_any _ _ _).mono ?_; rintro e w' ⟨rfl, rfl⟩))
           all_goals (go_ret; exact ⟨rfl, by assumption⟩))
  · obtain ⟨f1, f2, f3, f4, f5, f6⟩ := order_facts (L := a) (H := b) now (by omega)
    cases k1 : hld now (unt a) <;> cases k3 : ovr now (unt b) <;> cases k4 : ovr now (unt a) <;> simp only [k1, k3, k4, forall_const, reduceCtorEq, false_imp_iff, imp_false] at f2 f3 f4
    all_goals
      by_cases k5 : a < 1099511627776
      all_goals
        first
        | (have k6 := f5 k5; clear f5
           go_enter Try.func5, Try.ntmps5
           go_wp2_with (first
      | (go_at_call 9; refine (awake_any _).mono ?_; rintro e w' ⟨rfl, hB⟩)
      | (go_at_call 10; refine (Time_any _ _ (by assumption)).mono ?_; rintro e w' ⟨rfl, rfl⟩)
      | (go_at_call 12; refine (Skew_any _ _ (by assumption)).mono ?_; rintro e w' ⟨rfl, rfl⟩)
      | (go_at_call 13; refine (pick_any _ _ _ (by omega) (by assumption)).mono ?_; rintro e w' ⟨rfl, rfl⟩)
      | (go_at_call 11; refine (Until_any _ _).mono ?_; rintro e w' ⟨rfl, rfl⟩)
      | (go_at_call 14; refine (Over_any _ _ _).mono ?_; rintro e w' ⟨rfl, rfl⟩)
      | (go_at_call 15; refine (Holds_any _ _ _).mono ?_; rintro e w' ⟨rfl, rfl⟩))
           all_goals (go_ret; exact ⟨rfl, by assumption⟩))
        | (clear f5
           go_enter Try.func5, Try.ntmps5
           go_wp2_with (first
      | (go_at_call 9; refine (awake_any _).mono ?_; rintro e w' ⟨rfl, hB⟩)
      | (go_at_call 10; refine (Time_any _ _ (by assumption)).mono ?_; rintro e w' ⟨rfl, rfl⟩)
      | (go_at_call 12; refine (Skew_any _ _ (by assumption)).mono ?_; rintro e w' ⟨rfl, rfl⟩)
      | (go_at_call 13; refine (pick_any _ _ _ (by omega) (by assumption)).mono ?_; rintro e w' ⟨rfl, rfl⟩)
      | (go_at_call 11; refine (Until_any _ _).mono ?_; rintro e w' ⟨rfl, rfl⟩)
      | (go_at_call 14; refine (Over_any _ _ _).mono ?_; rintro e w' ⟨rfl, rfl⟩)
      | (go_at_call 15; refine (Holds_any _ _ _).mono ?_; rintro e w' ⟨rfl, rfl⟩))
           all_goals (go_ret; exact ⟨rfl, by assumption⟩))

end Go.Proofs.Ytcmaoldklldfmaa
