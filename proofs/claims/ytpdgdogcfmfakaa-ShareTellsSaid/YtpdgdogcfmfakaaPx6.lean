-- Laid by a program of this session (wip/tools/genx.py) out of the kit's print of the translation.
import Derived.Test.YtpdgdogcfmfakaaPx0
import Derived.Test.YtpdgdogcfmfakaaPx5
import Derived.Test.YtpdgdogcfmfakaaTd
namespace Go.Proofs.Ytpdgdogcfmfakaa.P
open Go.RowKit Go.Proofs.YtpdgdogcfmfakaaW.PrintWords Go.Proofs.YtpdgdogcfmfakaaW.PrintLast Go.Proofs.YtpdgdogcfmfakaaW.PrintMore
attribute [local go_sem] max2_int min2_int max_two min_two max_three min_three max_four min_four   -- for this text's walks alone
set_option linter.unusedVariables false
set_option linter.unusedSimpArgs false

/-! ### share_Trim: function 13 -/
def okT (l0 l1 : List S40) (l2 : List ByteArray) : Bool := decide (l0.length + l1.length + l2.length < 1099511627776) && l0.all (fun x => decide (x.f0.size ≤ maxLen) && decide (x.f1.size ≤ maxLen)) && l1.all (fun x => decide (x.f0.size ≤ maxLen) && decide (x.f1.size ≤ maxLen)) && l2.all (fun x => decide (x.size ≤ maxLen))
def trimS (l0 l1 : List S40) (l2 : List ByteArray) (l3 : List Int) : List S40 := outK l0 (giveK (M3 l0) l0 (giveK (M2 l0 (wasK l1 l1.length)) l0 (List.replicate l0.length 0) (fun s => (leftK l2 l3 l2.length s).getD 0) l0.length).1 (giveK (M2 l0 (wasK l1 l1.length)) l0 (List.replicate l0.length 0) (fun s => (leftK l2 l3 l2.length s).getD 0) l0.length).2 l0.length).1 l0.length
def share_Trim.f (_k : Nat) (l0 : List (S40)) (l1 : List (S40)) (l2 : List ByteArray) (l3 : List Int) : Option ((List (S40))) := if l2.length = l3.length then (if okT l0 l1 l2 = true then some (trimS l0 l1 l2 l3) else none) else some []
theorem share_Trim.mono : ∀ a0 a1 a2 a3 k, LeO (share_Trim.f k a0 a1 a2 a3) (share_Trim.f (k + 1) a0 a1 a2 a3) := fun _ _ _ _ _ => LeO.refl _
theorem okT_all {l : List S40} (h : l.all (fun x => decide (x.f0.size ≤ maxLen) && decide (x.f1.size ≤ maxLen)) = true) (i : Int) : (rd_T40 l i).f0.size ≤ maxLen ∧ (rd_T40 l i).f1.size ≤ maxLen := by
  unfold rd_T40
  rw [List.getD_eq_getElem?_getD]
  by_cases hi : i.toNat < l.length
  · rw [List.getElem?_eq_getElem hi]
    have := List.all_eq_true.1 h _ (List.getElem_mem hi)
    simpa using this
  · rw [List.getElem?_eq_none (by omega)]
    exact ⟨(Nat.zero_le maxLen : (0 : Nat) ≤ maxLen), (Nat.zero_le maxLen : (0 : Nat) ≤ maxLen)⟩
theorem okT_all2 {l : List ByteArray} (h : l.all (fun x => decide (x.size ≤ maxLen)) = true) (i : Int) : (rdOf ByteArray.empty l i).size ≤ maxLen := by
  unfold rdOf
  rw [List.getD_eq_getElem?_getD]
  by_cases hi : i.toNat < l.length
  · rw [List.getElem?_eq_getElem hi]
    have := List.all_eq_true.1 h _ (List.getElem_mem hi)
    simpa using this
  · rw [List.getElem?_eq_none (by omega)]
    exact (Nat.zero_le maxLen : (0 : Nat) ≤ maxLen)
set_option maxHeartbeats 400000 in
theorem Trim_ne (A0 A1 A2 A3 : Option Addr) (c0 c1 c2 c3 n0 n1 n2 n3 : Nat) (w : World) (hne : n2 ≠ n3) :
    Calls Try.prog 13 #[.slice A0 n0 c0, .slice A1 n1 c1, .slice A2 n2 c2, .slice A3 n3 c3] w fun e w' => e = .returned (.slice none 0 0) ∧ Below w.heap.size w w' := by
  have h1 : ((n2 : Int) != (n3 : Int)) = true := by simp; omega
  have h2 : (n2 == n3) = false := by simp; omega
  go_enter Try.func13, Try.ntmps13
  go_wp2
  go_ret
  exact ⟨rfl, (Below.refl _ _).alloc (Nat.le_refl _) _⟩
theorem share_Trim.calls (k : Nat) (A0 : Option Addr) (c0 : Nat) (l0 : List (S40)) (A1 : Option Addr) (c1 : Nat) (l1 : List (S40)) (A2 : Option Addr) (c2 : Nat) (l2 : List ByteArray) (A3 : Option Addr) (c3 : Nat) (l3 : List Int) (r : List (S40)) (w : World) (hr0 : Kd.C k40 w A0 l0.length l0) (hc0 : l0.length ≤ c0) (hr1 : Kd.C k40 w A1 l1.length l1) (hc1 : l1.length ≤ c1) (hr2 : Kd.C Kd.string w A2 l2.length l2) (hc2 : l2.length ≤ c2) (hr3 : Kd.C (Kd.int .i64) w A3 l3.length l3) (hc3 : l3.length ≤ c3) (h : share_Trim.f k l0 l1 l2 l3 = some r) :
    Calls Try.prog 13 #[.slice A0 l0.length c0, .slice A1 l1.length c1, .slice A2 l2.length c2, .slice A3 l3.length c3] w fun e w' => ∃ v0_ : Value, e = .returned (v0_) ∧ Kd.R k40 40 w' w.heap.size (fun _ => True) v0_ r ∧ Below w.heap.size w w' := by
  unfold share_Trim.f at h
  by_cases hl : l2.length = l3.length
  · rw [if_pos hl] at h
    by_cases ho : okT l0 l1 l2 = true
    · rw [if_pos ho] at h
      obtain rfl := Option.some.inj h
      simp only [okT, Bool.and_eq_true, decide_eq_true_eq] at ho
      obtain ⟨⟨⟨h1, h2⟩, h3⟩, h4⟩ := ho
      exact Trim_any A0 A1 A2 A3 c0 c1 c2 c3 l0 l1 l2 l3 w hr0 hr1 hr2 hr3 hl h1 (okT_all (by simpa using h2)) (okT_all (by simpa using h3)) (okT_all2 (by simpa using h4)) _ rfl
    · rw [if_neg ho] at h; cases h
  · rw [if_neg hl] at h
    obtain rfl := Option.some.inj h
    refine (Trim_ne A0 A1 A2 A3 c0 c1 c2 c3 l0.length l1.length l2.length l3.length w hl).mono ?_
    rintro e w' ⟨rfl, hb⟩
    exact ⟨_, rfl, Kd.R_nil _ _ _ _ _, hb⟩

end Go.Proofs.Ytpdgdogcfmfakaa.P
