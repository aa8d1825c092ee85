/- LeaseKnown of layer 14: its walk. -/
import Derived.Test.YtcmaoldklldfmaaC
namespace Go.Proofs.Ytcmaoldklldfmaa
open Go.RowKit

set_option maxHeartbeats 1000000 in
theorem LeaseKnown_any (began one before two later three four : Int) (h0 : I64 began) (h1 : I64 one) (h2 : I64 before) (h3 : I64 two) (h4 : I64 later) (h5 : I64 three) (h6 : I64 four) (w : World) :
    Calls Try.prog 4 #[.int .i64 began, .int .i64 one, .int .i64 before, .int .i64 two, .int .i64 later, .int .i64 three, .int .i64 four] w fun e w' => e = .returned (.bool true) ∧ Below w.heap.size w w' := by
  have bt := tim_bd began
  have b1 := skw_bd one
  have bp := pk_bd before 100 (by omega)
  have b2 := skw_bd two
  have bl := pk_bd later 60 (by omega)
  have b3 := skw_bd three
  have b4 := skw_bd four
  have eN : unt (tim began + skw one) = tim began + skw one + 20 := by unfold unt; rw [whn_in (by omega) (by omega)]
  have eU : unt (tim began - pk before 100 + skw two) = tim began - pk before 100 + skw two + 20 := by unfold unt; rw [whn_in (by omega) (by omega)]
  have q1 : ovr (tim began + pk later 60 + skw three) (unt (tim began + skw one) + 4) = true → hld (tim began + pk later 60 + skw four) (unt (tim began - pk before 100 + skw two)) = false := by
    unfold ovr hld; rw [eN, eU, whn_in (by omega) (by omega), whn_in (by omega) (by omega), whn_in (by omega) (by omega), whn_in (by omega) (by omega)]; simp; omega
  have q2 : ovr (tim began + pk later 60 + skw three) (unt (tim began + skw one) + 4) = false → tim began + pk later 60 < tim began + 34 := by
    unfold ovr; rw [eN, whn_in (by omega) (by omega), whn_in (by omega) (by omega)]; simp; omega
  clear eN eU
  go_enter Try.func4, Try.ntmps4
  go_wp2_with (first
      | (go_at_call 9; refine (awake_any _).mono ?_; rintro e w' ⟨rfl, hB⟩)
      | (go_at_call 10; refine (Time_any _ _ (by assumption)).mono ?_; rintro e w' ⟨rfl, rfl⟩)
      | (go_at_call 12; refine (Skew_any _ _ (by assumption)).mono ?_; rintro e w' ⟨rfl, rfl⟩)
      | (go_at_call 13; refine (pick_any _ _ _ (by omega) (by assumption)).mono ?_; rintro e w' ⟨rfl, rfl⟩)
      | (go_at_call 11; refine (Until_any _ _).mono ?_; rintro e w' ⟨rfl, rfl⟩)
      | (go_at_call 16; fail))
  refine (New_any _ _).mono ?_
  rintro e w1 ⟨rfl, hw1⟩
  have B1 : Below w.heap.size w w1 := by rw [hw1]; exact hB.alloc hB.size _
  have K1 : w1.heap[w'.heap.size]? = some (.cells #[.bool true, .int .i64 (unt (tim began + skw one) + 4), .slice none 0 0] 52) := by rw [hw1]; exact heap_alloc_new _ _
  have hsz : w.heap.size ≤ w'.heap.size := hB.size
  clear hw1 hB
  generalize w'.heap.size = nb at K1 hsz ⊢
  clear w'
  have kc := (bk_cells K1).1
  have HB1 := Lib.hid K1
  clear K1
  go_wp2_with (first
      | (go_at_call 12; refine (Skew_any _ _ (by assumption)).mono ?_; rintro e w' ⟨rfl, rfl⟩)
      | (go_at_call 13; refine (pick_any _ _ _ (by omega) (by assumption)).mono ?_; rintro e w' ⟨rfl, rfl⟩)
      | (go_at_call 11; refine (Until_any _ _).mono ?_; rintro e w' ⟨rfl, rfl⟩)
      | (go_at_call 17; refine (Known_any _ _ _ kc).mono ?_; rintro e w' ⟨rfl, rfl⟩))
  refine (Pass_nil _ _ _ _ _ HB1.out).mono ?_
  rintro e w2 ⟨rfl, g2, K2⟩
  have B2 : Below w.heap.size w w2 := B1.grown g2 B1.size (fun k hk => by cases hk; exact hsz)
  clear g2 kc HB1 B1 w1
  have kc := (bk_cells K2).1
  clear K2
  cases k1 : ovr (tim began + pk later 60 + skw three) (unt (tim began + skw one) + 4)
  · have k2 := q2 k1
    have kc' : w2.cell? ⟨nb, 0, none⟩ = some (.bool true) := by rw [kc, k1]; rfl
    clear q1 q2 kc k1
    go_wp2_with (first
      | (go_at_call 17; refine (Known_any _ _ _ kc').mono ?_; rintro e w' ⟨rfl, rfl⟩))
    all_goals (go_ret; exact ⟨rfl, B2⟩)
  · have k2 := q1 k1
    have kc' : w2.cell? ⟨nb, 0, none⟩ = some (.bool false) := by rw [kc, k1]; rfl
    clear q1 q2 kc k1
    go_wp2_with (first
      | (go_at_call 17; refine (Known_any _ _ _ kc').mono ?_; rintro e w' ⟨rfl, rfl⟩)
      | (go_at_call 12; refine (Skew_any _ _ (by assumption)).mono ?_; rintro e w' ⟨rfl, rfl⟩)
      | (go_at_call 15; refine (Holds_any _ _ _).mono ?_; rintro e w' ⟨rfl, rfl⟩))
    all_goals (go_ret; exact ⟨rfl, B2⟩)
end Go.Proofs.Ytcmaoldklldfmaa
