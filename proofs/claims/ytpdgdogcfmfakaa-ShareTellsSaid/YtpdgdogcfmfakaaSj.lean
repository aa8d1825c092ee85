/- share.Share in plain terms, and the examples of the chapter (for ShareTells alone: the shorter of two texts). -/
import Derived.Test.YtpdgdogcfmfakaaPx4
import Derived.Test.YtpdgdogcfmfakaaPx9
namespace Go.Proofs.Ytpdgdogcfmfakaa.Sh
open Go.RowKit Go.Proofs.Ytpdgdogcfmfakaa.P Go.Proofs.YtpdgdogcfmfakaaW.PrintWords Go.Proofs.YtpdgdogcfmfakaaW.PrintLast

theorem num_f (n : Int) : share_num.f n = some (num n) := rfl
theorem w64 {n : Int} (h0 : -9223372036854775808 ≤ n) (h1 : n ≤ 9223372036854775807) : wrap64 n = n := by unfold wrap64; omega
theorem mn_def (a b : Int) : mn a b = if b < a then b else a := rfl
theorem mx_def (a b : Int) : mx a b = if a < b then b else a := rfl

/-- What is left of the room behind the first k. -/
def roomK (h : List Int) (a : Int) : Nat → Int
  | 0 => num a
  | k + 1 => roomK h a k - num (rd h k)
def roomS (a : Int) (h : List Int) : Int := mx (if h.any (· < 0) then 0 else roomK h a h.length) 0
/-- What has been granted behind the first k, and the room. -/
def shK (h t : List Int) (room : Int) : Nat → List Int × Int
  | 0 => (List.replicate h.length 0, room)
  | k + 1 => if rd h k < 0 then shK h t room k else
      if num (rd t k) ≤ num (rd h k) then ((shK h t room k).1.set k (num (rd t k)), (shK h t room k).2)
      else ((shK h t room k).1.set k (num (rd h k) + mn (num (rd t k) - num (rd h k)) (shK h t room k).2), (shK h t room k).2 - mn (num (rd t k) - num (rd h k)) (shK h t room k).2)
def shareS (a : Int) (h t : List Int) : List Int := if h.length = t.length ∧ h.length ≤ 16 then (shK h t (roomS a h) h.length).1 else []

theorem roomK_bd (h : List Int) (a : Int) : ∀ k : Nat, -(1000 * (k : Int)) ≤ roomK h a k ∧ roomK h a k ≤ 1000
  | 0 => by have := num_bd a; simp only [roomK]; omega
  | k + 1 => by
    have := roomK_bd h a k
    have := num_bd (rd h k)
    simp only [roomK]; omega
theorem roomS_bd (a : Int) (h : List Int) : 0 ≤ roomS a h ∧ roomS a h ≤ 1000 := by
  have := roomK_bd h a h.length
  unfold roomS mx; split <;> split <;> omega
theorem shK_len (h t : List Int) (room : Int) : ∀ k, (shK h t room k).1.length = h.length
  | 0 => by simp [shK]
  | k + 1 => by
    have := shK_len h t room k
    simp only [shK]; split <;> (try split) <;> simp [this]
theorem shK_bd (h t : List Int) {room : Int} (h0 : 0 ≤ room) (h1 : room ≤ 1000) : ∀ k, 0 ≤ (shK h t room k).2 ∧ (shK h t room k).2 ≤ 1000
  | 0 => ⟨h0, h1⟩
  | k + 1 => by
    have := shK_bd h t h0 h1 k
    simp only [shK]; split
    · exact this
    · split
      · exact this
      · simp only [mn]; split <;> omega

theorem l0_ev (x1 x2 : List Int) (a : Int) (hn : x1.length ≤ 16) {r : List Int} (he : Ev (fun k => share_Share.j2 k x1 x2 (if x1.any (· < 0) then 0 else roomK x1 a x1.length)) r) (d : Nat) : ∀ i : Nat, i ≤ x1.length → x1.length - i = d →
    Ev (fun k => share_Share.l0 k x1 x2 (roomK x1 a i) x1 (x1.length : Int) (i : Int)) r := by
  induction d with
  | zero =>
    intro i hi hd
    obtain rfl : i = x1.length := by omega
    refine Ev.step (f := fun k => share_Share.j2 k x1 x2 (if x1.any (· < 0) then 0 else roomK x1 a x1.length)) (fun k => ?_) he
    simp only [share_Share.l0]
    rw [if_neg (by omega)]
    simp only [slices_ContainsFunc_int_int.f, Option.bind_some]
    by_cases h : x1.any (· < 0) = true
    · rw [if_pos h, if_pos h]
    · rw [if_neg h, if_neg h]
  | succ d ih =>
    intro i hi hd
    have hb := roomK_bd x1 a i
    have hnb := num_bd (rd x1 i)
    refine Ev.step (f := fun k => share_Share.l0 k x1 x2 (roomK x1 a (i + 1)) x1 (x1.length : Int) ((i + 1 : Nat) : Int)) (fun k => ?_) (ih (i + 1) (by omega) (by omega))
    simp only [share_Share.l0]
    rw [if_pos (by omega), if_pos (by omega), if_pos (by omega)]
    simp only [num_f, Option.bind_some]
    rw [w64 (by omega) (by omega), w64 (by omega) (by omega)]
    simp [roomK]

theorem l1_ev (x1 x2 : List Int) {room : Int} (h0 : 0 ≤ room) (h1 : room ≤ 1000) (hn : x1.length ≤ 16) (hl : x1.length = x2.length) (d : Nat) : ∀ i : Nat, i ≤ x1.length → x1.length - i = d →
    Ev (fun k => share_Share.l1 k x2 (shK x1 x2 room i).2 (shK x1 x2 room i).1 x1 (x1.length : Int) (i : Int)) (shK x1 x2 room x1.length).1 := by
  induction d with
  | zero =>
    intro i hi hd
    obtain rfl : i = x1.length := by omega
    refine Ev.step (f := fun _ => some (shK x1 x2 room x1.length).1) (fun k => ?_) (Ev.now _)
    simp only [share_Share.l1]
    rw [if_neg (by omega)]
  | succ d ih =>
    intro i hi hd
    have hb := shK_bd x1 x2 h0 h1 i
    have hlen := shK_len x1 x2 room i
    have hnb := num_bd (rd x1 i)
    have hnt := num_bd (rd x2 i)
    refine Ev.step (f := fun k => share_Share.l1 k x2 (shK x1 x2 room (i + 1)).2 (shK x1 x2 room (i + 1)).1 x1 (x1.length : Int) ((i + 1 : Nat) : Int)) (fun k => ?_) (ih (i + 1) (by omega) (by omega))
    simp only [share_Share.l1]
    rw [if_pos (by omega), if_pos (by omega), if_pos (by omega), if_pos (by omega)]
    simp only [num_f, Option.bind_some]
    rw [w64 (n := (i : Int) + 1) (by omega) (by omega)]
    have hi1 : ((i + 1 : Nat) : Int) = (i : Int) + 1 := by omega
    by_cases c1 : rd x1 i < 0
    · rw [if_pos c1, hi1]; simp only [shK]; rw [if_pos c1]
    · rw [if_neg c1]
      by_cases c2 : num (rd x2 i) ≤ num (rd x1 i)
      · rw [if_pos c2, if_pos (by omega), hi1]; simp only [shK]; rw [if_neg c1, if_pos c2]; simp
      · have hm : 0 ≤ mn (num (rd x2 i) - num (rd x1 i)) (shK x1 x2 room i).2 ∧ mn (num (rd x2 i) - num (rd x1 i)) (shK x1 x2 room i).2 ≤ 1000 := by unfold mn; split <;> omega
        rw [if_neg c2, if_pos (by omega), hi1, w64 (n := num (rd x2 i) - num (rd x1 i)) (by omega) (by omega)]
        rw [w64 (n := (shK x1 x2 room i).2 - _) (by omega) (by omega), w64 (n := num (rd x1 i) + _) (by omega) (by omega)]
        simp only [shK]; rw [if_neg c1, if_neg c2]; simp

theorem share_ev (a : Int) (x1 x2 : List Int) : Ev (fun k => share_Share.f k a x1 x2) (shareS a x1 x2) := by
  unfold shareS
  by_cases hl : x1.length = x2.length
  · by_cases hn : x1.length ≤ 16
    · rw [if_pos ⟨hl, hn⟩]
      have hb := roomS_bd a x1
      have e1 := l1_ev x1 x2 hb.1 hb.2 hn hl x1.length 0 (by omega) (by omega)
      have e2 : Ev (fun k => share_Share.j2 k x1 x2 (if x1.any (· < 0) then 0 else roomK x1 a x1.length)) (shK x1 x2 (roomS a x1) x1.length).1 := by
        refine Ev.step (f := fun k => share_Share.l1 k x2 (shK x1 x2 (roomS a x1) 0).2 (shK x1 x2 (roomS a x1) 0).1 x1 (x1.length : Int) ((0 : Nat) : Int)) (fun k => ?_) e1
        simp only [share_Share.j2]
        rw [if_pos (by omega), if_pos (by omega)]
        simp [shK, roomS]
      have e3 := l0_ev x1 x2 a hn e2 x1.length 0 (by omega) (by omega)
      refine Ev.congr (f := fun k => share_Share.j0 k a x1 x2 false) (fun k => ?_) (Ev.step (f := fun k => share_Share.l0 k x1 x2 (roomK x1 a 0) x1 (x1.length : Int) ((0 : Nat) : Int)) (fun k => ?_) e3)
      · simp only [share_Share.f]
        rw [if_pos (by omega), decide_eq_false (by omega)]
      · simp only [share_Share.j0]
        simp [num_f, roomK]
    · rw [if_neg (by omega)]
      refine Ev.congr (f := fun k => share_Share.j0 k a x1 x2 true) (fun k => ?_) (Ev.step (f := fun _ => some []) (fun k => ?_) (Ev.now _))
      · simp only [share_Share.f]
        rw [if_pos (by omega), decide_eq_true (by omega)]
      · simp [share_Share.j0]
  · rw [if_neg (by omega)]
    refine Ev.congr (f := fun k => share_Share.j0 k a x1 x2 true) (fun k => ?_) (Ev.step (f := fun _ => some []) (fun k => ?_) (Ev.now _))
    · simp only [share_Share.f]
      rw [if_neg (by omega)]
    · simp [share_Share.j0]

theorem awake_ev : Ev billetlaw15_awake.f true := Ev.of (billetlaw15_awake.mono) (k := 40) (by decide +kernel)

end Go.Proofs.Ytpdgdogcfmfakaa.Sh
