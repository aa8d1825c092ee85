/- share.Share in plain terms, and the examples of the chapter. -/
import Derived.Test.YtpdgdogcfmfakaaPx4
import Derived.Test.YtpdgdogcfmfakaaPx9
import Derived.Test.YtpdgdogcfmfakaaPx14
namespace Go.Proofs.Ytpdgdogcfmfakaa.Sh
open Go.RowKit Go.Proofs.Ytpdgdogcfmfakaa.P Go.Proofs.YtpdgdogcfmfakaaW.PrintWords Go.Proofs.YtpdgdogcfmfakaaW.PrintLast

theorem num_f (n : Int) : share_num.f n = some (num n) := rfl
theorem w64 {n : Int} (h0 : -9223372036854775808 ≤ n) (h1 : n ≤ 9223372036854775807) : wrap64 n = n := by unfold wrap64; omega
theorem mn_def (a b : Int) : mn a b = if b < a then b else a := rfl
theorem mx_def (a b : Int) : mx a b = if a < b then b else a := rfl

/-- What is left of the room behind the first k. -/
def roomK (h : List Int) (a : Int) : Nat → Int
  | 0 => num a
  | k + 1 => roomK h a k - num (rd h k)
def roomS (a : Int) (h : List Int) : Int := mx (if h.any (· < 0) then 0 else roomK h a h.length) 0
/-- What has been granted behind the first k, and the room. -/
def shK (h t : List Int) (room : Int) : Nat → List Int × Int
  | 0 => (List.replicate h.length 0, room)
  | k + 1 => if rd h k < 0 then shK h t room k else
      if num (rd t k) ≤ num (rd h k) then ((shK h t room k).1.set k (num (rd t k)), (shK h t room k).2)
      else ((shK h t room k).1.set k (num (rd h k) + mn (num (rd t k) - num (rd h k)) (shK h t room k).2), (shK h t room k).2 - mn (num (rd t k) - num (rd h k)) (shK h t room k).2)
def shareS (a : Int) (h t : List Int) : List Int := if h.length = t.length ∧ h.length ≤ 16 then (shK h t (roomS a h) h.length).1 else []

theorem roomK_bd (h : List Int) (a : Int) : ∀ k : Nat, -(1000 * (k : Int)) ≤ roomK h a k ∧ roomK h a k ≤ 1000
  | 0 => by have := num_bd a; simp only [roomK]; omega
  | k + 1 => by
    have := roomK_bd h a k
    have := num_bd (rd h k)
    simp only [roomK]; omega
theorem roomS_bd (a : Int) (h : List Int) : 0 ≤ roomS a h ∧ roomS a h ≤ 1000 := by
  have := roomK_bd h a h.length
  unfold roomS mx; split <;> split <;> omega
theorem shK_len (h t : List Int) (room : Int) : ∀ k, (shK h t room k).1.length = h.length
  | 0 => by simp [shK]
  | k + 1 => by
    have := shK_len h t room k
    simp only [shK]; split <;> (try split) <;> simp [this]
theorem shK_bd (h t : List Int) {room : Int} (h0 : 0 ≤ room) (h1 : room ≤ 1000) : ∀ k, 0 ≤ (shK h t room k).2 ∧ (shK h t room k).2 ≤ 1000
  | 0 => ⟨h0, h1⟩
  | k + 1 => by
    have := shK_bd h t h0 h1 k
    simp only [shK]; split
    · exact this
    · split
      · exact this
      · simp only [mn]; split <;> omega

theorem l0_ev (x1 x2 : List Int) (a : Int) (hn : x1.length ≤ 16) {r : List Int} (he : Ev (fun k => share_Share.j2 k x1 x2 (if x1.any (· < 0) then 0 else roomK x1 a x1.length)) r) (d : Nat) : ∀ i : Nat, i ≤ x1.length → x1.length - i = d →
    Ev (fun k => share_Share.l0 k x1 x2 (roomK x1 a i) x1 (x1.length : Int) (i : Int)) r := by
  induction d with
  | zero =>
    intro i hi hd
    obtain rfl : i = x1.length := by omega
    refine Ev.step (f := fun k => share_Share.j2 k x1 x2 (if x1.any (· < 0) then 0 else roomK x1 a x1.length)) (fun k => ?_) he
    simp only [share_Share.l0]
    rw [if_neg (by omega)]
    simp only [slices_ContainsFunc_int_int.f, Option.bind_some]
    by_cases h : x1.any (· < 0) = true
    · rw [if_pos h, if_pos h]
    · rw [if_neg h, if_neg h]
  | succ d ih =>
    intro i hi hd
    have hb := roomK_bd x1 a i
    have hnb := num_bd (rd x1 i)
    refine Ev.step (f := fun k => share_Share.l0 k x1 x2 (roomK x1 a (i + 1)) x1 (x1.length : Int) ((i + 1 : Nat) : Int)) (fun k => ?_) (ih (i + 1) (by omega) (by omega))
    simp only [share_Share.l0]
    rw [if_pos (by omega), if_pos (by omega), if_pos (by omega)]
    simp only [num_f, Option.bind_some]
    rw [w64 (by omega) (by omega), w64 (by omega) (by omega)]
    simp [roomK]

theorem l1_ev (x1 x2 : List Int) {room : Int} (h0 : 0 ≤ room) (h1 : room ≤ 1000) (hn : x1.length ≤ 16) (hl : x1.length = x2.length) (d : Nat) : ∀ i : Nat, i ≤ x1.length → x1.length - i = d →
    Ev (fun k => share_Share.l1 k x2 (shK x1 x2 room i).2 (shK x1 x2 room i).1 x1 (x1.length : Int) (i : Int)) (shK x1 x2 room x1.length).1 := by
  induction d with
  | zero =>
    intro i hi hd
    obtain rfl : i = x1.length := by omega
    refine Ev.step (f := fun _ => some (shK x1 x2 room x1.length).1) (fun k => ?_) (Ev.now _)
    simp only [share_Share.l1]
    rw [if_neg (by omega)]
  | succ d ih =>
    intro i hi hd
    have hb := shK_bd x1 x2 h0 h1 i
    have hlen := shK_len x1 x2 room i
    have hnb := num_bd (rd x1 i)
    have hnt := num_bd (rd x2 i)
    refine Ev.step (f := fun k => share_Share.l1 k x2 (shK x1 x2 room (i + 1)).2 (shK x1 x2 room (i + 1)).1 x1 (x1.length : Int) ((i + 1 : Nat) : Int)) (fun k => ?_) (ih (i + 1) (by omega) (by omega))
    simp only [share_Share.l1]
    rw [if_pos (by omega), if_pos (by omega), if_pos (by omega), if_pos (by omega)]
    simp only [num_f, Option.bind_some]
    rw [w64 (n := (i : Int) + 1) (by omega) (by omega)]
    have hi1 : ((i + 1 : Nat) : Int) = (i : Int) + 1 := by omega
    by_cases c1 : rd x1 i < 0
    · rw [if_pos c1, hi1]; simp only [shK]; rw [if_pos c1]
    · rw [if_neg c1]
      by_cases c2 : num (rd x2 i) ≤ num (rd x1 i)
      · rw [if_pos c2, if_pos (by omega), hi1]; simp only [shK]; rw [if_neg c1, if_pos c2]; simp
      · have hm : 0 ≤ mn (num (rd x2 i) - num (rd x1 i)) (shK x1 x2 room i).2 ∧ mn (num (rd x2 i) - num (rd x1 i)) (shK x1 x2 room i).2 ≤ 1000 := by unfold mn; split <;> omega
        rw [if_neg c2, if_pos (by omega), hi1, w64 (n := num (rd x2 i) - num (rd x1 i)) (by omega) (by omega)]
        rw [w64 (n := (shK x1 x2 room i).2 - _) (by omega) (by omega), w64 (n := num (rd x1 i) + _) (by omega) (by omega)]
        simp only [shK]; rw [if_neg c1, if_neg c2]; simp

theorem share_ev (a : Int) (x1 x2 : List Int) : Ev (fun k => share_Share.f k a x1 x2) (shareS a x1 x2) := by
  unfold shareS
  by_cases hl : x1.length = x2.length
  · by_cases hn : x1.length ≤ 16
    · rw [if_pos ⟨hl, hn⟩]
      have hb := roomS_bd a x1
      have e1 := l1_ev x1 x2 hb.1 hb.2 hn hl x1.length 0 (by omega) (by omega)
      have e2 : Ev (fun k => share_Share.j2 k x1 x2 (if x1.any (· < 0) then 0 else roomK x1 a x1.length)) (shK x1 x2 (roomS a x1) x1.length).1 := by
        refine Ev.step (f := fun k => share_Share.l1 k x2 (shK x1 x2 (roomS a x1) 0).2 (shK x1 x2 (roomS a x1) 0).1 x1 (x1.length : Int) ((0 : Nat) : Int)) (fun k => ?_) e1
        simp only [share_Share.j2]
        rw [if_pos (by omega), if_pos (by omega)]
        simp [shK, roomS]
      have e3 := l0_ev x1 x2 a hn e2 x1.length 0 (by omega) (by omega)
      refine Ev.congr (f := fun k => share_Share.j0 k a x1 x2 false) (fun k => ?_) (Ev.step (f := fun k => share_Share.l0 k x1 x2 (roomK x1 a 0) x1 (x1.length : Int) ((0 : Nat) : Int)) (fun k => ?_) e3)
      · simp only [share_Share.f]
        rw [if_pos (by omega), decide_eq_false (by omega)]
      · simp only [share_Share.j0]
        simp [num_f, roomK]
    · rw [if_neg (by omega)]
      refine Ev.congr (f := fun k => share_Share.j0 k a x1 x2 true) (fun k => ?_) (Ev.step (f := fun _ => some []) (fun k => ?_) (Ev.now _))
      · simp only [share_Share.f]
        rw [if_pos (by omega), decide_eq_true (by omega)]
      · simp [share_Share.j0]
  · rw [if_neg (by omega)]
    refine Ev.congr (f := fun k => share_Share.j0 k a x1 x2 true) (fun k => ?_) (Ev.step (f := fun _ => some []) (fun k => ?_) (Ev.now _))
    · simp only [share_Share.f]
      rw [if_neg (by omega)]
    · simp [share_Share.j0]

theorem awake_ev : Ev billetlaw15_awake.f true := Ev.of (billetlaw15_awake.mono) (k := 40) (by decide +kernel)

theorem pick_in (c n : Int) (hn : 1 ≤ n) (hc : (Lit.int .i64 c).wf = true) : ∃ r, billetlaw15_pick.f c n = some r ∧ 0 ≤ r ∧ r < n := by
  have hb : -9223372036854775808 ≤ c ∧ c ≤ 9223372036854775807 := by simp only [Lit.wf, Bool.and_eq_true, decide_eq_true_eq] at hc; exact hc
  unfold billetlaw15_pick.f
  by_cases h : c < 0
  · rw [if_pos h, if_neg (by omega), w64 (n := c + 1) (by omega) (by omega), w64 (by omega) (by omega)]
    exact ⟨_, rfl, Int.tmod_nonneg _ (by omega), Int.tmod_lt_of_pos _ (by omega)⟩
  · rw [if_neg h, if_neg (by omega)]
    exact ⟨_, rfl, Int.tmod_nonneg _ (by omega), Int.tmod_lt_of_pos _ (by omega)⟩

theorem rd_wf {l : List Int} (h : ∀ x ∈ l, (Lit.int .i64 x).wf = true) (i : Int) : (Lit.int .i64 (rd l i)).wf = true := by
  unfold rd
  rw [List.getD_eq_getElem?_getD]
  by_cases hi : i.toNat < l.length
  · rw [List.getElem?_eq_getElem hi]; exact h _ (List.getElem_mem hi)
  · rw [List.getElem?_eq_none (by omega)]; decide

/-- One round of lists. -/
theorem lists_round (raw x4 x5 : List Int) (i : Nat) (hi : i < 3) (h4 : x4.length ≤ 3) (h5 : x5.length ≤ 3) (hw : ∀ x ∈ raw, (Lit.int .i64 x).wf = true) :
    ∃ h t : Int, -1 ≤ h ∧ h ≤ 7 ∧ 0 ≤ t ∧ t ≤ 8 ∧ ∀ k, billetlaw15_lists.l0 (k + 1) raw x4 x5 (i : Int) = billetlaw15_lists.l0 k raw (x4 ++ [h]) (x5 ++ [t]) ((i + 1 : Nat) : Int) := by
  obtain ⟨p, hp, p0, p1⟩ := pick_in (rd raw (2 * i)) 9 (by omega) (rd_wf hw _)
  obtain ⟨q, hq, q0, q1⟩ := pick_in (rd raw (2 * i + 1)) 9 (by omega) (rd_wf hw _)
  have e1 : wrap64 (2 * (i : Int)) = 2 * (i : Int) := w64 (by omega) (by omega)
  have e2 : wrap64 (2 * (i : Int) + 1) = 2 * (i : Int) + 1 := w64 (by omega) (by omega)
  have e3 : wrap64 ((i : Int) + 1) = ((i + 1 : Nat) : Int) := by rw [w64 (by omega) (by omega)]; omega
  have e4 : wrap64 (p - 1) = p - 1 := w64 (by omega) (by omega)
  have l4 : x4.length < 17592186044416 := by omega
  have l5 : x5.length < 17592186044416 := by omega
  by_cases c1 : 2 * (i : Int) < (raw.length : Int)
  · by_cases c2 : 2 * (i : Int) + 1 < (raw.length : Int)
    · refine ⟨p - 1, q, by omega, by omega, by omega, by omega, fun k => ?_⟩
      simp only [billetlaw15_lists.l0, e1, e2, e3, hp, hq, e4, Option.bind_some]
      rw [if_pos (by omega), if_pos c1, if_pos (by omega), if_pos c2, if_pos (by omega), if_pos l4, if_pos l5]
    · refine ⟨p - 1, 0, by omega, by omega, by omega, by omega, fun k => ?_⟩
      simp only [billetlaw15_lists.l0, e1, e2, e3, hp, hq, e4, Option.bind_some]
      rw [if_pos (by omega), if_pos c1, if_pos (by omega), if_neg c2, if_pos l4, if_pos l5]
  · refine ⟨0, 0, by omega, by omega, by omega, by omega, fun k => ?_⟩
    simp only [billetlaw15_lists.l0, e1, e2, e3, hp, hq, e4, Option.bind_some]
    rw [if_pos (by omega), if_neg c1, if_neg (by omega), if_pos l4, if_pos l5]

theorem lists_ev (raw : List Int) (hw : ∀ x ∈ raw, (Lit.int .i64 x).wf = true) : ∃ h0 h1 h2 t0 t1 t2 : Int, (-1 ≤ h0 ∧ h0 ≤ 7 ∧ -1 ≤ h1 ∧ h1 ≤ 7 ∧ -1 ≤ h2 ∧ h2 ≤ 7) ∧ (0 ≤ t0 ∧ t0 ≤ 8 ∧ 0 ≤ t1 ∧ t1 ≤ 8 ∧ 0 ≤ t2 ∧ t2 ≤ 8) ∧
    Ev (fun k => billetlaw15_lists.f k raw) ([h0, h1, h2], [t0, t1, t2]) := by
  obtain ⟨h0, t0, a1, a2, a3, a4, ha⟩ := lists_round raw [] [] 0 (by omega) (by simp) (by simp) hw
  obtain ⟨h1, t1, b1, b2, b3, b4, hb⟩ := lists_round raw [h0] [t0] 1 (by omega) (by simp) (by simp) hw
  obtain ⟨h2, t2, c1, c2, c3, c4, hc⟩ := lists_round raw [h0, h1] [t0, t1] 2 (by omega) (by simp) (by simp) hw
  refine ⟨h0, h1, h2, t0, t1, t2, by omega, by omega, ?_⟩
  refine Ev.congr (fun k => rfl) (Ev.step ha (Ev.step hb (Ev.step hc (Ev.step (f := fun _ => some _) (fun k => ?_) (Ev.now _)))))
  simp only [billetlaw15_lists.l0]
  rw [if_neg (by omega)]
  rfl

/-- One cell: what it is granted, and the room behind it. -/
def stp (h t r : Int) : Int × Int := if h < 0 then (0, r) else if num t ≤ num h then (num t, r) else (num h + mn (num t - num h) r, r - mn (num t - num h) r)
def room3 (w h0 h1 h2 : Int) : Int := mx (if h0 < 0 ∨ h1 < 0 ∨ h2 < 0 then 0 else num w - num h0 - num h1 - num h2) 0
theorem shareS3 (w h0 h1 h2 t0 t1 t2 : Int) : shareS w [h0, h1, h2] [t0, t1, t2] = [(stp h0 t0 (room3 w h0 h1 h2)).1, (stp h1 t1 (stp h0 t0 (room3 w h0 h1 h2)).2).1, (stp h2 t2 (stp h1 t1 (stp h0 t0 (room3 w h0 h1 h2)).2).2).1] := by
  have er : roomS w [h0, h1, h2] = room3 w h0 h1 h2 := by
    simp [roomS, room3, roomK, rd]
  rw [shareS, if_pos (by simp), er]
  generalize room3 w h0 h1 h2 = r
  have e1 : shK [h0, h1, h2] [t0, t1, t2] r 1 = ([(stp h0 t0 r).1, 0, 0], (stp h0 t0 r).2) := by
    simp only [shK, stp, show rd [h0, h1, h2] ((0 : Nat) : Int) = h0 from rfl, show rd [t0, t1, t2] ((0 : Nat) : Int) = t0 from rfl]
    split
    · rfl
    · split <;> rfl
  have e2 : shK [h0, h1, h2] [t0, t1, t2] r 2 = ([(stp h0 t0 r).1, (stp h1 t1 (stp h0 t0 r).2).1, 0], (stp h1 t1 (stp h0 t0 r).2).2) := by
    rw [show (2 : Nat) = 1 + 1 from rfl]
    rw [shK, e1]
    generalize stp h0 t0 r = s0
    simp only [stp, show rd [h0, h1, h2] ((1 : Nat) : Int) = h1 from rfl, show rd [t0, t1, t2] ((1 : Nat) : Int) = t1 from rfl]
    split
    · rfl
    · split <;> rfl
  show (shK [h0, h1, h2] [t0, t1, t2] r (2 + 1)).1 = _
  rw [shK, e2]
  generalize stp h1 t1 (stp h0 t0 r).2 = s1
  generalize stp h0 t0 r = s0
  simp only [stp, show rd [h0, h1, h2] ((2 : Nat) : Int) = h2 from rfl, show rd [t0, t1, t2] ((2 : Nat) : Int) = t2 from rfl]
  split
  · rfl
  · split <;> rfl
theorem num_in {n : Int} (h0 : 0 ≤ n) (h1 : n ≤ 1000) : num n = n := by unfold num mn mx; split <;> (try split) <;> omega
theorem num_neg {n : Int} (h : n < 0) : num n = 0 := by unfold num mn mx; split <;> (try split) <;> omega
/-- What one cell's part is, in small numbers. d: how much it lacks. -/
theorem stp_spec {h t r : Int} (hh : -1 ≤ h) (hh1 : h ≤ 100) (ht : 0 ≤ t) (ht1 : t ≤ 100) (hr : 0 ≤ r) : ∃ d, d = (if h < 0 then 0 else if t ≤ h then 0 else t - h) ∧ (stp h t r).2 = r - (if d < r then d else r) ∧
    (stp h t r).1 = (if h < 0 then 0 else if t ≤ h then t else h + (if d < r then d else r)) := by
  refine ⟨_, rfl, ?_, ?_⟩
  · unfold stp mn
    by_cases c : h < 0
    · simp only [if_pos c]; split <;> omega
    · rw [if_neg c, if_neg c, num_in (by omega) (by omega), num_in (by omega) (by omega)]
      split
      · simp only []; split <;> omega
      · simp only []; split <;> split <;> omega
  · unfold stp mn
    by_cases c : h < 0
    · simp only [if_pos c]
    · rw [if_neg c, if_neg c, num_in (by omega) (by omega), num_in (by omega) (by omega)]
      split
      · rfl
      · simp only []; split <;> split <;> omega
theorem room3_spec {w h0 h1 h2 : Int} (hw : 0 ≤ w) (hw1 : w ≤ 100) (a0 : -1 ≤ h0) (a1 : h0 ≤ 100) (b0 : -1 ≤ h1) (b1 : h1 ≤ 100) (c0 : -1 ≤ h2) (c1 : h2 ≤ 100) :
    room3 w h0 h1 h2 = if h0 < 0 ∨ h1 < 0 ∨ h2 < 0 then 0 else if w - h0 - h1 - h2 < 0 then 0 else w - h0 - h1 - h2 := by
  unfold room3 mx
  by_cases c : h0 < 0 ∨ h1 < 0 ∨ h2 < 0
  · simp [c]
  · rw [if_neg c, if_neg c, num_in (by omega) (by omega), num_in (by omega) (by omega), num_in (by omega) (by omega), num_in (by omega) (by omega)]

theorem ints3 (a0 a1 a2 b0 b1 b2 : Int) : Ev (fun k => billetlaw06_Ints.f k [a0, a1, a2] [b0, b1, b2]) (decide (a0 = b0 ∧ a1 = b1 ∧ a2 = b2)) := by
  refine Ev.of (billetlaw06_Ints.mono _ _) (k := 5) ?_
  have r0 : ∀ x y z : Int, rd [x, y, z] 0 = x := fun _ _ _ => rfl
  have r1 : ∀ x y z : Int, rd [x, y, z] 1 = y := fun _ _ _ => rfl
  have r2 : ∀ x y z : Int, rd [x, y, z] 2 = z := fun _ _ _ => rfl
  have w1 : wrap64 (0 + 1) = 1 := by rw [w64 (by omega) (by omega)]; rfl
  have w2 : wrap64 (1 + 1) = 2 := by rw [w64 (by omega) (by omega)]; rfl
  have w3 : wrap64 (2 + 1) = 3 := by rw [w64 (by omega) (by omega)]; rfl
  simp only [billetlaw06_Ints.f, List.length_cons, List.length_nil, billetlaw06_Ints.l0, r0, r1, r2, w1, w2, w3]
  by_cases c0 : a0 = b0 <;> by_cases c1 : a1 = b1 <;> by_cases c2 : a2 = b2 <;> simp [c0, c1, c2]
end Go.Proofs.Ytpdgdogcfmfakaa.Sh
