/- graph.Right: its closure, slices.IndexFunc and slices.ContainsFunc at it, and itself. -/
import Derived.Test.YtfmfojogcghkkaaPx0
import Derived.Lib.Hide
namespace Go.Proofs.Ytfmfojogcghkkaa.P
open Go.RowKit Go.Proofs.YtfmfojogcghkkaaW.PrintWords Go.Proofs.YtfmfojogcghkkaaW.PrintLast Go.Proofs.YtfmfojogcghkkaaW.PrintMore

def wth (n lo hi : Int) : Bool := if n < lo then false else decide (n ≤ hi)
set_option maxHeartbeats 400000 in
theorem wth_any (n lo hi : Int) (w : World) : Calls Try.prog 41 #[.int .i64 n, .int .i64 lo, .int .i64 hi] w fun e w' => e = .returned (.bool (wth n lo hi)) ∧ w = w' := by
  unfold wth
  by_cases h : n < lo
  · rw [if_pos h]
    go_enter Try.func41, Try.ntmps41
    go_wp2
    go_ret
    exact ⟨rfl, rfl⟩
  · rw [if_neg h]
    go_enter Try.func41, Try.ntmps41
    go_wp2
    go_ret
    exact ⟨rfl, rfl⟩

def badE (N : Int) (x : S41) : Bool := if wth x.f0 0 (N - 1) = false then true else if wth x.f1 0 (N - 1) = false then true else if x.f0 = x.f1 then true else !wth x.f2 0 1000
def rightB (N : Int) (l : List S41) : Bool := if wth N 2 64 = false then false else if (l.length : Int) ≤ 256 then !l.any (badE N) else false

set_option maxHeartbeats 800000 in
theorem bad_any (B : Nat) (N f t c : Int) (hN : 0 ≤ N) (hN1 : N ≤ 64) (w : World) (hB : w.cell? ⟨B, 0, none⟩ = some (.int .i64 N)) :
    Calls Try.prog 43 #[.agg #[.int .i64 f, .int .i64 t, .int .i64 c], .pointer (some ⟨B, 0, none⟩)] w fun e w' => e = .returned (.bool (badE N ⟨f, t, c⟩)) ∧ Below w.heap.size w w' := by
  have hlt : B < w.heap.size := World.block_lt_of_cell? w _ hB
  have hne : ¬ w.heap.size = B := by omega
  show Calls Try.prog 43 _ w fun e w' => e = .returned (.bool (if wth f 0 (N - 1) = false then true else if wth t 0 (N - 1) = false then true else if f = t then true else !wth c 0 1000)) ∧ _
  cases h1 : wth f 0 (N - 1)
  · rw [if_pos rfl]
    go_enter Try.func43, Try.ntmps43
    go_wp2_with (go_at_call 41; refine (wth_any _ _ _ _).mono ?_; rintro e w' ⟨rfl, rfl⟩)
    go_ret
    exact ⟨rfl, (Below.refl _ _).alloc (Nat.le_refl _) _⟩
  · rw [if_neg (by simp)]
    cases h2 : wth t 0 (N - 1)
    · rw [if_pos rfl]
      go_enter Try.func43, Try.ntmps43
      go_wp2_with (go_at_call 41; refine (wth_any _ _ _ _).mono ?_; rintro e w' ⟨rfl, rfl⟩)
      go_ret
      exact ⟨rfl, (Below.refl _ _).alloc (Nat.le_refl _) _⟩
    · rw [if_neg (by simp)]
      by_cases h3 : f = t
      · rw [if_pos h3]
        have h3b : (f == t) = true := by simpa using h3
        clear h3
        go_enter Try.func43, Try.ntmps43
        go_wp2_with (go_at_call 41; refine (wth_any _ _ _ _).mono ?_; rintro e w' ⟨rfl, rfl⟩)
        go_ret
        exact ⟨rfl, (Below.refl _ _).alloc (Nat.le_refl _) _⟩
      · rw [if_neg h3]
        have h3b : (f == t) = false := by simpa using h3
        clear h3
        go_enter Try.func43, Try.ntmps43
        go_wp2_with (go_at_call 41; refine (wth_any _ _ _ _).mono ?_; rintro e w' ⟨rfl, rfl⟩)
        go_ret
        exact ⟨rfl, (Below.refl _ _).alloc (Nat.le_refl _) _⟩

theorem anyb_false {p : S41 → Bool} (l : List S41) (k : Nat) (hn : ∀ j : Nat, j < k → p (rd_T41 l j) = false) (hk : k = l.length) : l.any p = false := by
  subst hk
  rw [List.any_eq_false]
  intro x hx
  obtain ⟨j, hj, rfl⟩ := List.getElem_of_mem hx
  have := hn j hj
  simpa [rd_T41, List.getD_eq_getElem?_getD, List.getElem?_eq_getElem hj] using this
theorem anyb_true {p : S41 → Bool} (l : List S41) (k : Nat) (h : k < l.length) (hn : p (rd_T41 l k) = true) : l.any p = true := by
  rw [List.any_eq_true]
  refine ⟨l[k], List.getElem_mem h, ?_⟩
  simpa [rd_T41, List.getD_eq_getElem?_getD, List.getElem?_eq_getElem h] using hn

def IdxE (N : Int) (l : List S41) (w : World) (e : Ending) (w' : World) : Prop := ∃ i : Int, e = .returned (.int .i64 i) ∧ (0 ≤ i ↔ l.any (badE N) = true) ∧ i ≤ l.length ∧ -1 ≤ i ∧ Below w.heap.size w w'

set_option maxHeartbeats 800000 in
theorem idxE_any (B : Nat) (N : Int) (hN : 0 ≤ N) (hN1 : N ≤ 64) (A : Option Addr) (c : Nat) (l : List S41) (w : World) (hr : Kd.C k41 w A l.length l) (hB : w.cell? ⟨B, 0, none⟩ = some (.int .i64 N)) :
    Calls Try.prog 57 #[.slice A l.length c, .func (.func 43) #[] #[.pointer (some ⟨B, 0, none⟩)]] w (IdxE N l w) := by
  have hm := Kd.C_max hr
  have hlt : B < w.heap.size := World.block_lt_of_cell? w _ hB
  have HR := Lib.hid hr
  have HB := Lib.hid hB
  clear hr hB
  go_enter Try.func57, Try.ntmps57
  go_wp2_with fail
  go_loopw [8] (fun i wr => ∃ k : Nat, k ≤ l.length ∧ i = .int .i64 k ∧ Hid (∀ j : Nat, j < k → badE N (rd_T41 l j) = false) ∧ Hid (Below w.heap.size w wr)) (fun i _ => l.length - (intOf i).toNat)
  case atStart => exact ⟨0, Nat.zero_le _, rfl, Lib.hid (fun j hj => absurd hj (by omega)), Lib.hid (Below.refl _ _)⟩
  case round =>
    obtain ⟨k, hk, rfl, HN, HW⟩ := hrel
    by_cases hlt2 : k < l.length
    · obtain ⟨ad, rfl, hc0, hc1, hc2⟩ := at_T41 (Kd.C_below HR.out HW.out) (k : Int) (by omega) (by omega)
      have hBr : wr.cell? ⟨B, 0, none⟩ = some (.int .i64 N) := (HW.out.cell (p := ⟨B, 0, none⟩) hlt).trans HB.out
      rw [Int.toNat_natCast] at hc0 hc1 hc2
      have HBr := Lib.hid hBr
      clear hBr
      have hcall := bad_any B N (rd_T41 l k).f0 (rd_T41 l k).f1 (rd_T41 l k).f2 hN hN1 wr HBr.out
      cases hb : badE N ⟨(rd_T41 l k).f0, (rd_T41 l k).f1, (rd_T41 l k).f2⟩
      · rw [hb] at hcall
        have HF := Lib.hid (show badE N (rd_T41 l k) = false from hb)
        clear hb
        go_wp2_with (go_at_call 43; refine hcall.mono ?_; rintro e w1 ⟨rfl, hbel⟩; have HW1 := Lib.hid (HW.out.trans (hbel.mono HW.out.size)); clear hbel)
        go_roundw
        case rel => exact ⟨k + 1, by omega, by go_num, Lib.hid (fun j hj => by rcases Nat.lt_succ_iff_lt_or_eq.1 hj with h | rfl; exact HN.out j h; exact HF.out), HW1⟩
        case measure => simp [intOf]; omega
      · rw [hb] at hcall
        have HA : Hid (l.any (badE N) = true) := Lib.hid (anyb_true l k hlt2 hb)
        clear hb
        go_wp2_with (go_at_call 43; refine hcall.mono ?_; rintro e w1 ⟨rfl, hbel⟩; have HW1 := Lib.hid (HW.out.trans (hbel.mono HW.out.size)); clear hbel)
        go_ret
        exact ⟨k, rfl, by simp [HA.out], by omega, by omega, HW1.out⟩
    · have HA : Hid (l.any (badE N) = false) := Lib.hid (anyb_false l k HN.out (by omega))
      go_wp2
      go_ret
      exact ⟨-1, rfl, by simp [HA.out], by omega, by omega, HW.out⟩

set_option maxHeartbeats 400000 in
theorem hasE_any (B : Nat) (N : Int) (hN : 0 ≤ N) (hN1 : N ≤ 64) (A : Option Addr) (c : Nat) (l : List S41) (w : World) (hr : Kd.C k41 w A l.length l) (hB : w.cell? ⟨B, 0, none⟩ = some (.int .i64 N)) :
    Calls Try.prog 42 #[.slice A l.length c, .func (.func 43) #[] #[.pointer (some ⟨B, 0, none⟩)]] w fun e w' => e = .returned (.bool (l.any (badE N))) ∧ Below w.heap.size w w' := by
  have hm := Kd.C_max hr
  have hcall := idxE_any B N hN hN1 A c l w hr hB
  clear hr hB
  go_enter Try.func42, Try.ntmps42
  go_wp2_with fail
  refine hcall.mono ?_
  rintro e w' ⟨i, rfl, hi, h1, h2, hbel⟩
  have HW := Lib.hid hbel
  clear hbel hcall
  by_cases h0 : 0 ≤ i
  · have HD := Lib.hid (hi.1 h0)
    clear hi
    go_wp2
    go_ret
    exact ⟨by rw [HD.out]; rfl, HW.out⟩
  · have hd : l.any (badE N) = false := by cases hl : l.any (badE N) <;> simp_all
    have HD := Lib.hid hd
    clear hd hi
    go_wp2
    go_ret
    exact ⟨by rw [HD.out]; show Ending.returned (.bool (decide (0 ≤ i))) = _; rw [decide_eq_false (by omega)], HW.out⟩

theorem wth_iff (n lo hi : Int) : wth n lo hi = true ↔ lo ≤ n ∧ n ≤ hi := by
  unfold wth
  by_cases h : n < lo
  · rw [if_pos h]; simp; omega
  · rw [if_neg h]; simp; omega

set_option maxHeartbeats 800000 in
theorem right_any (N : Int) (A : Option Addr) (c : Nat) (l : List S41) (w : World) (hr : Kd.C k41 w A l.length l) :
    Calls Try.prog 19 #[.agg #[.int .i64 N, .slice A l.length c]] w fun e w' => e = .returned (.bool (rightB N l)) ∧ Below w.heap.size w w' := by
  have hm := Kd.C_max hr
  unfold rightB
  cases h1 : wth N 2 64
  · rw [if_pos rfl]
    clear hr
    go_enter Try.func19, Try.ntmps19
    go_wp2_with (go_at_call 41; refine (wth_any _ _ _ _).mono ?_; rintro e w' ⟨rfl, rfl⟩)
    go_ret
    exact ⟨rfl, (Below.refl _ _).alloc (Nat.le_refl _) _⟩
  · rw [if_neg (by simp)]
    have hN := (wth_iff N 2 64).1 h1
    by_cases h2 : (l.length : Int) ≤ 256
    · rw [if_pos h2]
      have h2b : decide (l.length ≤ 256) = true := decide_eq_true (by omega)
      have hb0 : Below w.heap.size w (w.alloc (.cells #[.int .i64 N, .slice A l.length c] 24)) := (Below.refl _ _).alloc (Nat.le_refl _) _
      have hcall := hasE_any w.heap.size N (by omega) (by omega) A c l (w.alloc (.cells #[.int .i64 N, .slice A l.length c] 24)) (Kd.C_below hr hb0) ((World.cell?_alloc_at _ _ _ 0 rfl).trans rfl)
      have HB0 := Lib.hid hb0
      clear hr hb0
      generalize hx : l.any (badE N) = x at hcall ⊢
      clear hx
      go_enter Try.func19, Try.ntmps19
      go_wp2_with (first | (go_at_call 41; refine (wth_any _ _ _ _).mono ?_; rintro e w' ⟨rfl, rfl⟩) | (go_at_call 42; refine hcall.mono ?_; rintro e w1 ⟨rfl, hbel⟩; have HW1 := Lib.hid (HB0.out.trans (hbel.mono HB0.out.size)); clear hbel))
      go_ret
      exact ⟨rfl, HW1.out⟩
    · rw [if_neg h2]
      have h2b : decide (l.length ≤ 256) = false := decide_eq_false (by omega)
      clear hr
      go_enter Try.func19, Try.ntmps19
      go_wp2_with (go_at_call 41; refine (wth_any _ _ _ _).mono ?_; rintro e w' ⟨rfl, rfl⟩)
      go_ret
      exact ⟨rfl, (Below.refl _ _).alloc (Nat.le_refl _) _⟩
end Go.Proofs.Ytfmfojogcghkkaa.P
