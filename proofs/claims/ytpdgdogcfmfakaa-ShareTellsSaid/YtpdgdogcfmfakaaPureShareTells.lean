/- ShareTells in plain terms: Share and Trim come to what the document's own answers come to. -/
import Derived.Test.YtpdgdogcfmfakaaPx12
import Derived.Test.YtpdgdogcfmfakaaSj
namespace Go.Proofs.Ytpdgdogcfmfakaa.St
open Go.RowKit Go.Proofs.Ytpdgdogcfmfakaa.P Go.Proofs.YtpdgdogcfmfakaaW.PrintWords Go.Proofs.YtpdgdogcfmfakaaW.PrintLast
open Go.Proofs.Ytpdgdogcfmfakaa.Sh

theorem loop_eq (b : ByteArray) (d : Nat) : ∀ (i : Nat) (acc : List UInt8), b.size - i = d → ByteArray.toList.loop b i acc = acc.reverse ++ b.data.toList.drop i := by
  induction d with
  | zero =>
    intro i acc h
    rw [ByteArray.toList.loop]
    rw [if_neg (by omega), List.drop_eq_nil_of_le (by have : b.data.toList.length = b.size := data_length b; omega), List.append_nil]
  | succ d ih =>
    intro i acc h
    have hl : b.data.toList.length = b.size := data_length b
    rw [ByteArray.toList.loop]
    rw [if_pos (by omega), ih (i + 1) _ (by omega), List.drop_eq_getElem_cons (i := i) (by omega)]
    have e : b.get! i = b.data.toList[i]'(by omega) := by
      show b.data[i]! = _
      rw [getElem!_pos b.data i (by have : b.data.size = b.size := rfl; omega)]
      simp
    rw [e]
    simp
theorem toList_data (b : ByteArray) : b.toList = b.data.toList := by
  rw [ByteArray.toList, loop_eq b b.size 0 [] (by omega)]; simp
theorem toList_inj {a b : ByteArray} : a.toList = b.toList ↔ a = b := by
  constructor
  · intro h
    rw [toList_data, toList_data] at h
    cases a; cases b
    simp at h
    rw [h]
  · intro h; rw [h]
theorem rnum_f (n : Int) : billetref15_num.f n = some (num n) := rfl
theorem rd_get {l : List Int} {i : Nat} (h : i < l.length) : rd l (i : Int) = l[i] := by
  unfold rd; rw [Int.toNat_natCast, List.getD_eq_getElem?_getD, List.getElem?_eq_getElem h]; rfl
theorem any_succ {l : List Int} {i : Nat} (h : i < l.length) : (l.take (i + 1)).any (· < 0) = ((l.take i).any (· < 0) || decide (rd l i < 0)) := by
  rw [List.take_succ_eq_append_getElem h, List.any_append, rd_get h]; simp

/-! ### Share -/
def refK (h t : List Int) (room : Int) : Nat → List Int × Int
  | 0 => ([], room)
  | k + 1 => if rd h k < 0 then ((refK h t room k).1 ++ [0], (refK h t room k).2) else
      if num (rd t k) ≤ num (rd h k) then ((refK h t room k).1 ++ [num (rd t k)], (refK h t room k).2)
      else ((refK h t room k).1 ++ [num (rd h k) + mn (num (rd t k) - num (rd h k)) (refK h t room k).2], (refK h t room k).2 - mn (num (rd t k) - num (rd h k)) (refK h t room k).2)
theorem refK_len (h t : List Int) (room : Int) : ∀ k, (refK h t room k).1.length = k
  | 0 => rfl
  | k + 1 => by
    have := refK_len h t room k
    simp only [refK]; split <;> (try split) <;> simp [this]
theorem set_mid (xs ys : List Int) (v : Int) : (xs ++ 0 :: ys).set xs.length v = xs ++ v :: ys := by
  rw [List.set_append_right _ _ (Nat.le_refl _)]; simp
theorem refK_shK (h t : List Int) (room : Int) : ∀ k, k ≤ h.length → (shK h t room k).1 = (refK h t room k).1 ++ List.replicate (h.length - k) 0 ∧ (shK h t room k).2 = (refK h t room k).2
  | 0, _ => by simp [shK, refK]
  | k + 1, hk => by
    obtain ⟨e1, e2⟩ := refK_shK h t room k (by omega)
    have hl := refK_len h t room k
    have e3 : List.replicate (h.length - k) (0 : Int) = 0 :: List.replicate (h.length - (k + 1)) 0 := by
      rw [show h.length - k = (h.length - (k + 1)) + 1 by omega, List.replicate_succ]
    rw [e3] at e1
    have hs : ∀ v, (shK h t room k).1.set k v = (refK h t room k).1 ++ v :: List.replicate (h.length - (k + 1)) 0 := fun v => by
      rw [e1]
      have := set_mid (refK h t room k).1 (List.replicate (h.length - (k + 1)) 0) v
      rwa [hl] at this
    simp only [shK, refK]
    split
    · exact ⟨by rw [e1]; simp, e2⟩
    · split
      · exact ⟨by show List.set _ _ _ = _; rw [hs]; simp, e2⟩
      · refine ⟨by show List.set _ _ _ = _; rw [hs, e2]; simp, by show _ - _ = _ - _; rw [e2]⟩

theorem rl1_ev (x1 x2 : List Int) {room : Int} (h0 : 0 ≤ room) (h1 : room ≤ 1000) (hn : x1.length ≤ 16) (hl : x1.length = x2.length) (d : Nat) : ∀ i : Nat, i ≤ x1.length → x1.length - i = d →
    Ev (fun k => billetref15_Share.l1 k x1 x2 (refK x1 x2 room i).2 (refK x1 x2 room i).1 (i : Int)) (refK x1 x2 room x1.length).1 := by
  induction d with
  | zero =>
    intro i hi hd
    obtain rfl : i = x1.length := by omega
    refine Ev.step (f := fun _ => some (refK x1 x2 room x1.length).1) (fun k => ?_) (Ev.now _)
    simp only [billetref15_Share.l1]
    rw [if_neg (by omega)]
  | succ d ih =>
    intro i hi hd
    have hb := shK_bd x1 x2 h0 h1 i
    rw [(refK_shK x1 x2 room i (by omega)).2] at hb
    have hlen := refK_len x1 x2 room i
    have hnb := num_bd (rd x1 i)
    have hnt := num_bd (rd x2 i)
    refine Ev.step (f := fun k => billetref15_Share.l1 k x1 x2 (refK x1 x2 room (i + 1)).2 (refK x1 x2 room (i + 1)).1 ((i + 1 : Nat) : Int)) (fun k => ?_) (ih (i + 1) (by omega) (by omega))
    simp only [billetref15_Share.l1, rnum_f, Option.bind_some]
    rw [if_pos (by omega), if_pos (by omega), if_pos (show (i : Int) < (x2.length : Int) by omega), w64 (n := (i : Int) + 1) (by omega) (by omega)]
    have hi1 : ((i + 1 : Nat) : Int) = (i : Int) + 1 := by omega
    by_cases c1 : rd x1 i < 0
    · rw [if_pos c1, if_pos (by omega), hi1]; simp only [refK]; rw [if_pos c1]
    · rw [if_neg c1]
      by_cases c2 : num (rd x2 i) ≤ num (rd x1 i)
      · rw [if_pos c2, if_pos (by omega), hi1]; simp only [refK]; rw [if_neg c1, if_pos c2]
      · have hm : 0 ≤ mn (num (rd x2 i) - num (rd x1 i)) (refK x1 x2 room i).2 ∧ mn (num (rd x2 i) - num (rd x1 i)) (refK x1 x2 room i).2 ≤ 1000 := by unfold mn; split <;> omega
        rw [if_neg c2, if_pos (by omega), hi1, w64 (n := num (rd x2 i) - num (rd x1 i)) (by omega) (by omega)]
        rw [w64 (n := (refK x1 x2 room i).2 - _) (by omega) (by omega), w64 (n := num (rd x1 i) + _) (by omega) (by omega)]
        simp only [refK]; rw [if_neg c1, if_neg c2]

theorem rl0_ev (x1 x2 : List Int) (a : Int) (hn : x1.length ≤ 16) {r : List Int} (he : Ev (fun k => billetref15_Share.j2 k x1 x2 (roomK x1 a x1.length) (x1.any (· < 0) || decide (roomK x1 a x1.length < 0))) r) (d : Nat) : ∀ i : Nat, i ≤ x1.length → x1.length - i = d →
    Ev (fun k => billetref15_Share.l0 k x1 x2 (roomK x1 a i) (!(x1.take i).any (· < 0)) (i : Int)) r := by
  induction d with
  | zero =>
    intro i hi hd
    obtain rfl : i = x1.length := by omega
    refine Ev.step (fun k => ?_) he
    simp only [billetref15_Share.l0]
    rw [if_neg (by omega), List.take_length]
    cases x1.any (· < 0) <;> simp
  | succ d ih =>
    intro i hi hd
    have hb := roomK_bd x1 a i
    have hnb := num_bd (rd x1 i)
    refine Ev.step (f := fun k => billetref15_Share.l0 k x1 x2 (roomK x1 a (i + 1)) (!(x1.take (i + 1)).any (· < 0)) ((i + 1 : Nat) : Int)) (fun k => ?_) (ih (i + 1) (by omega) (by omega))
    simp only [billetref15_Share.l0, rnum_f, Option.bind_some]
    rw [if_pos (by omega), any_succ (by omega), w64 (n := roomK x1 a i - num (rd x1 i)) (by omega) (by omega), w64 (n := (i : Int) + 1) (by omega) (by omega)]
    have hi1 : ((i + 1 : Nat) : Int) = (i : Int) + 1 := by omega
    rw [hi1]
    cases hk : (x1.take i).any (· < 0)
    · rw [if_pos (show (!false) = true from rfl), if_pos (by omega)]
      simp only [roomK, Bool.false_or]
      congr 1
      by_cases c : rd x1 i < 0
      · rw [decide_eq_true c, decide_eq_false (by omega)]; rfl
      · rw [decide_eq_false c, decide_eq_true (by omega)]; rfl
    · rw [if_neg (by simp), if_pos (by omega)]
      simp only [roomK, Bool.true_or]
      rfl

theorem rshare_ev (a : Int) (x1 x2 : List Int) : Ev (fun k => billetref15_Share.f k a x1 x2) (shareS a x1 x2) := by
  unfold shareS
  by_cases hl : x1.length = x2.length
  · by_cases hn : x1.length ≤ 16
    · rw [if_pos ⟨hl, hn⟩]
      have hb := roomS_bd a x1
      have er : (shK x1 x2 (roomS a x1) x1.length).1 = (refK x1 x2 (roomS a x1) x1.length).1 := by rw [(refK_shK x1 x2 (roomS a x1) x1.length (Nat.le_refl _)).1]; simp
      rw [er]
      have e1 := rl1_ev x1 x2 hb.1 hb.2 hn hl x1.length 0 (by omega) (by omega)
      have e2 : Ev (fun k => billetref15_Share.j3 k x1 x2 (roomS a x1)) (refK x1 x2 (roomS a x1) x1.length).1 := by
        refine Ev.step (fun k => ?_) e1
        simp only [billetref15_Share.j3]; rfl
      have e3 : Ev (fun k => billetref15_Share.j2 k x1 x2 (roomK x1 a x1.length) (x1.any (· < 0) || decide (roomK x1 a x1.length < 0))) (refK x1 x2 (roomS a x1) x1.length).1 := by
        refine Ev.step (fun k => ?_) e2
        simp only [billetref15_Share.j2]
        unfold roomS mx
        cases hx : x1.any (· < 0)
        · by_cases c : roomK x1 a x1.length < 0
          · simp [c]
          · simp [c]
        · simp
      have e4 := rl0_ev x1 x2 a hn e3 x1.length 0 (by omega) (by omega)
      refine Ev.congr (f := fun k => billetref15_Share.j0 k a x1 x2 false) (fun k => ?_) (Ev.step (fun k => ?_) e4)
      · simp only [billetref15_Share.f]
        rw [if_pos (by omega), decide_eq_false (by omega)]
      · simp only [billetref15_Share.j0]
        simp [rnum_f, roomK]
    · rw [if_neg (by omega)]
      refine Ev.congr (f := fun k => billetref15_Share.j0 k a x1 x2 true) (fun k => ?_) (Ev.step (f := fun _ => some []) (fun k => ?_) (Ev.now _))
      · simp only [billetref15_Share.f]
        rw [if_pos (by omega), decide_eq_true (by omega)]
      · simp [billetref15_Share.j0]
  · rw [if_neg (by omega)]
    refine Ev.congr (f := fun k => billetref15_Share.j0 k a x1 x2 true) (fun k => ?_) (Ev.step (f := fun _ => some []) (fun k => ?_) (Ev.now _))
    · simp only [billetref15_Share.f]
      rw [if_neg (by omega)]
    · simp [billetref15_Share.j0]

/-! ### Same lists are told as the same -/
theorem ints_same (l : List Int) (hl : l.length ≤ 1000000) (d : Nat) : ∀ i : Nat, i ≤ l.length → l.length - i = d → Ev (fun k => billetlaw06_Ints.l0 k l l (i : Int)) true := by
  induction d with
  | zero =>
    intro i hi hd
    refine Ev.step (f := fun _ => some true) (fun k => ?_) (Ev.now _)
    simp only [billetlaw06_Ints.l0]
    rw [if_neg (by omega)]
  | succ d ih =>
    intro i hi hd
    refine Ev.step (fun k => ?_) (ih (i + 1) (by omega) (by omega))
    simp only [billetlaw06_Ints.l0]
    rw [if_pos (by omega), if_pos (by omega), if_pos (by omega), if_pos (by trivial), w64 (by omega) (by omega)]
    rfl
theorem ints_ev (l : List Int) (hl : l.length ≤ 1000000) : Ev (fun k => billetlaw06_Ints.f k l l) true :=
  Ev.congr (fun k => by simp only [billetlaw06_Ints.f]; rw [if_pos (by trivial)]; rfl) (ints_same l hl l.length 0 (by omega) (by omega))
theorem same_same (l : List S40) (hl : l.length ≤ 1000000) (d : Nat) : ∀ i : Nat, i ≤ l.length → l.length - i = d → Ev (fun k => billetlaw08_Same.l0 k l l (i : Int)) true := by
  induction d with
  | zero =>
    intro i hi hd
    refine Ev.step (f := fun _ => some true) (fun k => ?_) (Ev.now _)
    simp only [billetlaw08_Same.l0]
    rw [if_neg (by omega)]
  | succ d ih =>
    intro i hi hd
    refine Ev.step (fun k => ?_) (ih (i + 1) (by omega) (by omega))
    simp only [billetlaw08_Same.l0]
    rw [if_pos (by omega), if_pos (by omega), if_pos (by omega), if_neg (by simp), w64 (by omega) (by omega)]
    rfl
theorem same_ev (l : List S40) (hl : l.length ≤ 1000000) : Ev (fun k => billetlaw08_Same.f k l l) true :=
  Ev.congr (fun k => by simp only [billetlaw08_Same.f]; rw [if_pos (by trivial)]; rfl) (same_same l hl l.length 0 (by omega) (by omega))

/-! ### Trim -/
/-- Where a name stands first, among the first k; -1: nowhere. -/
def ixK (ws : List ByteArray) (s : ByteArray) : Nat → Int
  | 0 => -1
  | k + 1 => if ixK ws s k < 0 then (if rdOf ByteArray.empty ws k = s then (k : Int) else ixK ws s k) else ixK ws s k
theorem ixK_bd (ws : List ByteArray) (s : ByteArray) : ∀ k : Nat, -1 ≤ ixK ws s k ∧ ixK ws s k < k ∨ (ixK ws s k = -1 ∧ k = 0)
  | 0 => .inr ⟨rfl, rfl⟩
  | k + 1 => by
    have := ixK_bd ws s k
    simp only [ixK]; split <;> (try split) <;> omega
theorem ixK_is {ws : List ByteArray} {s : ByteArray} : ∀ {k : Nat}, 0 ≤ ixK ws s k → rdOf ByteArray.empty ws (ixK ws s k) = s
  | 0, h => by simp [ixK] at h
  | k + 1, h => by
    simp only [ixK] at h ⊢
    by_cases c : ixK ws s k < 0
    · rw [if_pos c] at h ⊢
      by_cases c2 : rdOf ByteArray.empty ws k = s
      · rw [if_pos c2]; exact c2
      · rw [if_neg c2] at h; omega
    · rw [if_neg c] at h ⊢; exact ixK_is h
theorem left_ix (ws : List ByteArray) (al : List Int) (s : ByteArray) : ∀ k, leftK ws al k s = if ixK ws s k < 0 then none else some (num (rd al (ixK ws s k)))
  | 0 => by simp [leftK, ixK]
  | k + 1 => by
    have ih := left_ix ws al s k
    have hx : ixK ws s (k + 1) = if ixK ws s k < 0 then (if rdOf ByteArray.empty ws k = s then (k : Int) else ixK ws s k) else ixK ws s k := rfl
    by_cases c : ixK ws s k < 0
    · rw [if_pos c] at ih hx
      by_cases c2 : rdOf ByteArray.empty ws k = s
      · rw [if_pos c2] at hx
        rw [hx, if_neg (by omega)]
        simp only [leftK, ih, if_pos c2.symm]
      · rw [if_neg c2] at hx
        rw [hx, if_pos c]
        simp only [leftK, ih, if_neg (fun e => c2 (Eq.symm e))]
    · rw [if_neg c] at ih hx
      rw [hx, if_neg c]
      simp only [leftK, ih]

/-- What is left of each name, as the document's answer has it: by the names' places. -/
def RelL (ws : List ByteArray) (rest : List Int) (lk : ByteArray → Int) : Prop := rest.length = ws.length ∧ ∀ s, lk s = if ixK ws s ws.length < 0 then 0 else rd rest (ixK ws s ws.length)
/-- What is given, as far as it goes. -/
structure InvG (t : List S40) (p : List Int) (lk : ByteArray → Int) : Prop where
  len : p.length = t.length
  part : ∀ i : Nat, i < t.length → 0 ≤ rd p i ∧ rd p i ≤ num (rd_T40 t i).f2
  left : ∀ s, 0 ≤ lk s ∧ lk s ≤ 1000

theorem rd_set {l : List Int} {k : Nat} (hk : k < l.length) (x : Int) (i : Nat) : rd (l.set k x) (i : Int) = if i = k then x else rd l (i : Int) := by
  unfold rd
  rw [Int.toNat_natCast, List.getD_eq_getElem?_getD, List.getD_eq_getElem?_getD, List.getElem?_set]
  by_cases c : k = i
  · subst c; simp [hk]
  · rw [if_neg c, if_neg (fun e => c e.symm)]

/-- One bind of one turn. m: how much it is given more. -/
theorem give_step {most : Nat → List Int → Int} {t : List S40} {p0 : List Int} {l0 : ByteArray → Int} {k : Nat} {p : List Int} {lk : ByteArray → Int} (h : giveK most t p0 l0 k = (p, lk)) (hk : k < t.length) (hI : InvG t p lk) {mo : Int} (hm : most k p = mo) (h0 : 0 ≤ mo) (h1 : rd p k + mo ≤ num (rd_T40 t k).f2)
    {ws : List ByteArray} {rest : List Int} (hR : RelL ws rest lk) :
    ∃ p' lk' rest', giveK most t p0 l0 (k + 1) = (p', lk') ∧ InvG t p' lk' ∧ RelL ws rest' lk' ∧ (∀ i : Nat, i ≠ k → rd p' i = rd p i) ∧
      (ixK ws (rd_T40 t k).f0 ws.length < 0 → p' = p ∧ rest' = rest) ∧
      (0 ≤ ixK ws (rd_T40 t k).f0 ws.length → p' = p.set k (wrap64 (rd p k + mn mo (rd rest (ixK ws (rd_T40 t k).f0 ws.length)))) ∧
        rest' = rest.set (ixK ws (rd_T40 t k).f0 ws.length).toNat (wrap64 (rd rest (ixK ws (rd_T40 t k).f0 ws.length) - mn mo (rd rest (ixK ws (rd_T40 t k).f0 ws.length))))) := by
  generalize hs0 : (rd_T40 t k).f0 = s0 at *
  have hp := hI.part k hk
  have hnb := num_bd (rd_T40 t k).f2
  have hl := hI.left s0
  have hib := ixK_bd ws s0 ws.length
  have hls := hR.2 s0
  have hmn : 0 ≤ mn mo (lk s0) ∧ mn mo (lk s0) ≤ mo ∧ mn mo (lk s0) ≤ lk s0 := by unfold mn; split <;> omega
  have hg := giveK_succ h hs0 hm rfl
  have ew : wrap64 (rd p k + mn mo (lk s0)) = rd p k + mn mo (lk s0) := w64 (by omega) (by omega)
  have ew2 : wrap64 (lk s0 - mn mo (lk s0)) = lk s0 - mn mo (lk s0) := w64 (by omega) (by omega)
  have hset := rd_set (l := p) (k := k) (by rw [hI.len]; exact hk) (rd p k + mn mo (lk s0))
  refine ⟨_, _, if ixK ws s0 ws.length < 0 then rest else rest.set (ixK ws s0 ws.length).toNat (wrap64 (rd rest (ixK ws s0 ws.length) - mn mo (rd rest (ixK ws s0 ws.length)))), hg, ?_, ?_, ?_, ?_, ?_⟩
  · rw [ew, ew2]
    refine ⟨by rw [List.length_set]; exact hI.len, fun i hi => ?_, fun s => ?_⟩
    · rw [hset]
      have := hI.part i hi
      by_cases c : i = k
      · subst c; rw [if_pos rfl]; omega
      · rw [if_neg c]; exact this
    · have := hI.left s
      show 0 ≤ (if s = s0 then _ else _) ∧ (if s = s0 then _ else _) ≤ (1000 : Int)
      split <;> omega
  · rw [ew2]
    by_cases c : ixK ws s0 ws.length < 0
    · rw [if_pos c]
      rw [if_pos c] at hls
      refine ⟨hR.1, fun s => ?_⟩
      show (if s = s0 then _ else _) = _
      by_cases e : s = s0
      · subst e; rw [if_pos rfl, if_pos c]; omega
      · rw [if_neg e]; exact hR.2 s
    · rw [if_neg c] at hls ⊢
      refine ⟨by rw [List.length_set]; exact hR.1, fun s => ?_⟩
      rw [← hls, ew2]
      show (if s = s0 then _ else _) = _
      obtain ⟨j, hj⟩ : ∃ j : Nat, ixK ws s0 ws.length = j := ⟨(ixK ws s0 ws.length).toNat, by omega⟩
      have hjl : j < rest.length := by rw [hR.1]; omega
      by_cases e : s = s0
      · subst e
        rw [if_pos rfl, if_neg c, hj, Int.toNat_natCast, rd_set hjl, if_pos rfl]
      · rw [if_neg e, hR.2 s]
        by_cases c2 : ixK ws s ws.length < 0
        · rw [if_pos c2, if_pos c2]
        · rw [if_neg c2, if_neg c2]
          obtain ⟨j2, hj2⟩ : ∃ j : Nat, ixK ws s ws.length = j := ⟨(ixK ws s ws.length).toNat, by omega⟩
          rw [hj, hj2, Int.toNat_natCast, rd_set hjl, if_neg (fun e2 => e ?_)]
          have a1 := ixK_is (ws := ws) (s := s) (k := ws.length) (by omega)
          have a2 := ixK_is (ws := ws) (s := s0) (k := ws.length) (by omega)
          rw [← a1, ← a2, hj, hj2, e2]
  · intro i hi
    rw [ew, hset, if_neg hi]
  · intro c
    rw [if_pos c] at hls
    rw [if_pos c]
    refine ⟨?_, rfl⟩
    have e0 : mn mo (lk s0) = 0 := by omega
    rw [ew, e0, Int.add_zero]
    apply List.ext_getElem?
    intro i
    rw [List.getElem?_set]
    by_cases e : k = i
    · subst e
      have hk' : k < p.length := by rw [hI.len]; exact hk
      rw [if_pos rfl, if_pos hk', List.getElem?_eq_getElem hk', rd_get hk']
    · rw [if_neg e]
  · intro c
    rw [if_neg (by omega)] at hls ⊢
    rw [hls]
    exact ⟨rfl, rfl⟩

theorem l3_ev {x0 x1 : List S40} {x2 : List ByteArray} {x9 x11 : List Int} {x12 : Int} (i : Nat) (hi : i < x0.length) (h2 : x2.length ≤ 1000) {s0 : ByteArray} (hs : (rd_T40 x0 i).f0 = s0) {r : List S40}
    (he : Ev (fun k => billetref15_Trim.l3 k x0 x1 x2 x9 x11 x12 (i : Int) (ixK x2 s0 x2.length) (x2.length : Int)) r) (d : Nat) : ∀ j : Nat, j ≤ x2.length → x2.length - j = d →
    Ev (fun k => billetref15_Trim.l3 k x0 x1 x2 x9 x11 x12 (i : Int) (ixK x2 s0 j) (j : Int)) r := by
  induction d with
  | zero =>
    intro j hj hd
    obtain rfl : j = x2.length := by omega
    exact he
  | succ d ih =>
    intro j hj hd
    refine Ev.step (fun k => ?_) (ih (j + 1) (by omega) (by omega))
    have hj1 : ((j + 1 : Nat) : Int) = (j : Int) + 1 := by omega
    simp only [billetref15_Trim.l3]
    rw [if_pos (by omega), w64 (n := (j : Int) + 1) (by omega) (by omega), hj1]
    by_cases c : ixK x2 s0 j < 0
    · rw [if_pos c, if_pos (by omega), if_pos (by omega), if_pos (by omega), hs]
      by_cases c2 : rdOf ByteArray.empty x2 j = s0
      · rw [if_pos (by rw [c2])]; simp only [ixK]; rw [if_pos c, if_pos c2]
      · rw [if_neg (fun h => c2 (toList_inj.1 h))]; simp only [ixK]; rw [if_pos c, if_neg c2]
    · rw [if_neg c]; simp only [ixK]; rw [if_neg c]

theorem l4_ev {x0 x1 : List S40} {x2 : List ByteArray} {x9 x11 : List Int} {x12 x14 x16 : Int} (i : Nat) (hi : i < x0.length) (h1 : x1.length ≤ 1000) {s0 s1 : ByteArray} (hs : (rd_T40 x0 i).f0 = s0) (hs1 : (rd_T40 x0 i).f1 = s1) {r : List S40}
    (he : Ev (fun k => billetref15_Trim.l4 k x0 x1 x2 x9 x11 x12 (i : Int) x14 x16 (wasK x1 x1.length s0 s1) (x1.length : Int)) r) (d : Nat) : ∀ j : Nat, j ≤ x1.length → x1.length - j = d →
    Ev (fun k => billetref15_Trim.l4 k x0 x1 x2 x9 x11 x12 (i : Int) x14 x16 (wasK x1 j s0 s1) (j : Int)) r := by
  induction d with
  | zero =>
    intro j hj hd
    obtain rfl : j = x1.length := by omega
    exact he
  | succ d ih =>
    intro j hj hd
    refine Ev.step (fun k => ?_) (ih (j + 1) (by omega) (by omega))
    have hj1 : ((j + 1 : Nat) : Int) = (j : Int) + 1 := by omega
    simp only [billetref15_Trim.l4]
    rw [if_pos (by omega), if_pos (by omega), if_pos (by omega), if_pos (by omega), w64 (n := (j : Int) + 1) (by omega) (by omega), hj1, hs, hs1]
    simp only [wasK, rnum_f, Option.bind_some]
    by_cases c : (rd_T40 x1 j).f0 = s0
    · rw [if_pos (by rw [c])]
      by_cases c2 : (rd_T40 x1 j).f1 = s1
      · rw [if_pos (by rw [c2]), if_pos ⟨c.symm, c2.symm⟩]
      · rw [if_neg (fun h => c2 (toList_inj.1 h)), if_neg (fun h => c2 h.2.symm)]
    · rw [if_neg (fun h => c (toList_inj.1 h)), if_neg (fun h => c h.1.symm)]

theorem l5_ev (x0 : List S40) (x11 : List Int) (h0 : x0.length ≤ 1000) (hl : x11.length = x0.length) (d : Nat) : ∀ j : Nat, j ≤ x0.length → x0.length - j = d →
    Ev (fun k => billetref15_Trim.l5 k x0 x11 (outK x0 x11 j) (j : Int)) (outK x0 x11 x0.length) := by
  induction d with
  | zero =>
    intro j hj hd
    obtain rfl : j = x0.length := by omega
    refine Ev.step (f := fun _ => some _) (fun k => ?_) (Ev.now _)
    simp only [billetref15_Trim.l5]
    rw [if_neg (by omega)]
  | succ d ih =>
    intro j hj hd
    have hlo := outK_len x0 x11 j
    refine Ev.step (fun k => ?_) (ih (j + 1) (by omega) (by omega))
    have hj1 : ((j + 1 : Nat) : Int) = (j : Int) + 1 := by omega
    simp only [billetref15_Trim.l5]
    rw [if_pos (by omega), if_pos (by omega), if_pos (by omega), w64 (n := (j : Int) + 1) (by omega) (by omega), hj1]
    by_cases c : rd x11 j > 0
    · rw [if_pos c, if_pos (by omega)]; simp only [outK]; rw [if_pos c]
    · rw [if_neg c]; simp only [outK]; rw [if_neg c]

theorem was_nn (last : List S40) (hl : last.length ≤ 1000) (a b : ByteArray) : ∀ k, k ≤ last.length → 0 ≤ wasK last k a b ∧ wasK last k a b ≤ 1000 * k
  | 0, _ => by simp [wasK]
  | k + 1, hk => by
    have ih := was_nn last hl a b k (by omega)
    have := num_bd (rd_T40 last k).f2
    simp only [wasK]
    split
    · rw [w64 (by omega) (by omega)]; omega
    · omega

/-- The second turn, from bind i on. -/
theorem turn1_ev {x0 x1 : List S40} {x2 : List ByteArray} (h0 : x0.length ≤ 1000) (h2 : x2.length ≤ 1000) (p0 : List Int) (lk0 : ByteArray → Int) (d : Nat) : ∀ (i : Nat) (rest p : List Int) (lk : ByteArray → Int), i ≤ x0.length → x0.length - i = d → giveK (M3 x0) x0 p0 lk0 i = (p, lk) → InvG x0 p lk → RelL x2 rest lk →
    Ev (fun k => billetref15_Trim.l2 k x0 x1 x2 rest p 1 (i : Int)) (outK x0 (giveK (M3 x0) x0 p0 lk0 x0.length).1 x0.length) := by
  induction d with
  | zero =>
    intro i rest p lk hi hd hg hI hR
    obtain rfl : i = x0.length := by omega
    have e5 := l5_ev x0 p h0 hI.len x0.length 0 (by omega) (by omega)
    rw [hg]
    refine Ev.step (f := fun k => billetref15_Trim.l1 k x0 x1 x2 rest p 2) (fun k => ?_) (Ev.step (fun k => ?_) e5)
    · simp only [billetref15_Trim.l2]
      rw [if_neg (by omega), w64 (by omega) (by omega)]; rfl
    · simp only [billetref15_Trim.l1]
      rw [if_neg (by omega)]; rfl
  | succ d ih =>
    intro i rest p lk hi hd hg hI hR
    have hik : i < x0.length := by omega
    have hp := hI.part i hik
    have hnb := num_bd (rd_T40 x0 i).f2
    have hM : M3 x0 i p = num (rd_T40 x0 i).f2 - rd p i := by unfold M3; exact w64 (by omega) (by omega)
    obtain ⟨p', lk', rest', g1, g2, g3, _, g4, g5⟩ := give_step hg hik hI hM (by omega) (by omega) hR
    have e := ih (i + 1) rest' p' lk' (by omega) (by omega) g1 g2 g3
    generalize hs : (rd_T40 x0 i).f0 = s0 at *
    have hib := ixK_bd x2 s0 x2.length
    refine Ev.step (fun k => ?_) (l3_ev i hik h2 hs (x12 := 1) (x9 := rest) (x11 := p) (x1 := x1) (Ev.step (fun k => ?_) e) x2.length 0 (by omega) (by omega))
    · simp only [billetref15_Trim.l2]
      rw [if_pos (by omega)]; rfl
    · have hi1 : ((i + 1 : Nat) : Int) = (i : Int) + 1 := by omega
      simp only [billetref15_Trim.l3]
      rw [if_neg (by omega), w64 (n := (i : Int) + 1) (by omega) (by omega), hi1]
      by_cases c : ixK x2 s0 x2.length < 0
      · obtain ⟨rfl, rfl⟩ := g4 c
        rw [if_pos c]
      · obtain ⟨rfl, rfl⟩ := g5 (by omega)
        have hpl := hI.len
        have hrl := hR.1
        rw [if_neg c, if_pos (by omega), if_pos (by omega)]
        simp only [rnum_f, Option.bind_some]
        rw [if_pos (by omega), if_neg (by omega), if_pos (by omega), if_pos (by omega), w64 (n := num (rd_T40 x0 i).f2 - rd p i) (by omega) (by omega), Int.toNat_natCast]

/-- The first turn, from bind i on. -/
theorem turn0_ev {x0 x1 : List S40} {x2 : List ByteArray} (h0 : x0.length ≤ 1000) (h1 : x1.length ≤ 1000) (h2 : x2.length ≤ 1000) (p0 : List Int) (lk0 : ByteArray → Int) (d : Nat) : ∀ (i : Nat) (rest p : List Int) (lk : ByteArray → Int), i ≤ x0.length → x0.length - i = d → giveK (M2 x0 (wasK x1 x1.length)) x0 p0 lk0 i = (p, lk) → InvG x0 p lk → RelL x2 rest lk → (∀ j : Nat, i ≤ j → rd p j = 0) →
    Ev (fun k => billetref15_Trim.l2 k x0 x1 x2 rest p 0 (i : Int)) (outK x0 (giveK (M3 x0) x0 (giveK (M2 x0 (wasK x1 x1.length)) x0 p0 lk0 x0.length).1 (giveK (M2 x0 (wasK x1 x1.length)) x0 p0 lk0 x0.length).2 x0.length).1 x0.length) := by
  induction d with
  | zero =>
    intro i rest p lk hi hd hg hI hR _
    obtain rfl : i = x0.length := by omega
    rw [hg]
    refine Ev.step (f := fun k => billetref15_Trim.l1 k x0 x1 x2 rest p 1) (fun k => ?_) (Ev.step (fun k => ?_) (turn1_ev (x1 := x1) h0 h2 p lk x0.length 0 rest p lk (by omega) (by omega) rfl hI hR))
    · simp only [billetref15_Trim.l2]
      rw [if_neg (by omega), w64 (by omega) (by omega)]; rfl
    · simp only [billetref15_Trim.l1]
      rw [if_pos (by omega)]; rfl
  | succ d ih =>
    intro i rest p lk hi hd hg hI hR hz
    have hik : i < x0.length := by omega
    have hp := hI.part i hik
    have hz0 := hz i (Nat.le_refl _)
    have hnb := num_bd (rd_T40 x0 i).f2
    have hw := was_nn x1 h1 (rd_T40 x0 i).f0 (rd_T40 x0 i).f1 x1.length (Nat.le_refl _)
    have hmb : 0 ≤ mn (num (rd_T40 x0 i).f2) (wasK x1 x1.length (rd_T40 x0 i).f0 (rd_T40 x0 i).f1) ∧ mn (num (rd_T40 x0 i).f2) (wasK x1 x1.length (rd_T40 x0 i).f0 (rd_T40 x0 i).f1) ≤ num (rd_T40 x0 i).f2 := by unfold mn; split <;> omega
    obtain ⟨p', lk', rest', g1, g2, g3, g6, g4, g5⟩ := give_step (mo := mn (num (rd_T40 x0 i).f2) (wasK x1 x1.length (rd_T40 x0 i).f0 (rd_T40 x0 i).f1)) hg hik hI rfl (by omega) (by omega) hR
    have e := ih (i + 1) rest' p' lk' (by omega) (by omega) g1 g2 g3 (fun j hj => by rw [g6 j (by omega)]; exact hz j (by omega))
    revert e
    generalize outK x0 (giveK (M3 x0) x0 (giveK (M2 x0 (wasK x1 x1.length)) x0 p0 lk0 x0.length).1 (giveK (M2 x0 (wasK x1 x1.length)) x0 p0 lk0 x0.length).2 x0.length).1 x0.length = res
    intro e
    generalize hs : (rd_T40 x0 i).f0 = s0 at *
    generalize hs1 : (rd_T40 x0 i).f1 = s1 at *
    have hib := ixK_bd x2 s0 x2.length
    have hi1 : ((i + 1 : Nat) : Int) = (i : Int) + 1 := by omega
    have hpl := hI.len
    have hrl := hR.1
    have e3 : Ev (fun k => billetref15_Trim.l3 k x0 x1 x2 rest p 0 (i : Int) (ixK x2 s0 x2.length) (x2.length : Int)) res := by
      by_cases c : ixK x2 s0 x2.length < 0
      · refine Ev.step (fun k => ?_) e
        simp only [billetref15_Trim.l3]
        rw [if_neg (by omega), w64 (n := (i : Int) + 1) (by omega) (by omega), hi1]
        obtain ⟨rfl, rfl⟩ := g4 c
        rw [if_pos c]
      · refine Ev.step (fun k => ?_) (l4_ev i hik h1 hs hs1 (x2 := x2) (x9 := rest) (x11 := p) (x12 := 0) (x14 := ixK x2 s0 x2.length) (x16 := num (rd_T40 x0 i).f2) (Ev.step (fun k => ?_) e) x1.length 0 (by omega) (by omega))
        · simp only [billetref15_Trim.l3, rnum_f, Option.bind_some]
          rw [if_neg (by omega), if_neg c, if_pos (by omega), if_pos (by omega), if_pos (by omega), if_pos trivial, hz0, Int.sub_zero, w64 (n := num (rd_T40 x0 i).f2) (by omega) (by omega)]
          rfl
        · obtain ⟨rfl, rfl⟩ := g5 (by omega)
          simp only [billetref15_Trim.l4]
          rw [if_neg (by omega), if_pos (by omega), if_pos (by omega), if_pos (by omega), if_pos (by omega), w64 (n := (i : Int) + 1) (by omega) (by omega), hi1, Int.toNat_natCast]
    refine Ev.step (fun k => ?_) (l3_ev i hik h2 hs e3 x2.length 0 (by omega) (by omega))
    simp only [billetref15_Trim.l2]
    rw [if_pos (by omega)]; rfl

/-- What is allowed, brought within the ends. -/
def numL (al : List Int) (k : Nat) : List Int := (al.take k).map num ++ List.replicate (al.length - k) 0
theorem numL_succ {al : List Int} {k : Nat} (hk : k < al.length) : (numL al k).set k (num (rd al k)) = numL al (k + 1) := by
  unfold numL
  have e3 : List.replicate (al.length - k) (0 : Int) = 0 :: List.replicate (al.length - (k + 1)) 0 := by
    rw [show al.length - k = (al.length - (k + 1)) + 1 by omega, List.replicate_succ]
  have hl : ((al.take k).map num).length = k := by simp; omega
  have := set_mid ((al.take k).map num) (List.replicate (al.length - (k + 1)) 0) (num (rd al k))
  rw [hl] at this
  rw [e3, this, List.take_succ_eq_append_getElem hk, rd_get hk, List.map_append, List.append_assoc]
  rfl
theorem tl0_ev {x0 x1 : List S40} {x2 : List ByteArray} {x3 : List Int} (h3 : x3.length ≤ 1000) (h0 : x0.length ≤ 1000) {r : List S40} (he : Ev (fun k => billetref15_Trim.l1 k x0 x1 x2 (x3.map num) (List.replicate x0.length 0) 0) r) (d : Nat) : ∀ j : Nat, j ≤ x3.length → x3.length - j = d →
    Ev (fun k => billetref15_Trim.l0 k x0 x1 x2 x3 (numL x3 j) (j : Int)) r := by
  induction d with
  | zero =>
    intro j hj hd
    obtain rfl : j = x3.length := by omega
    refine Ev.step (fun k => ?_) he
    simp only [billetref15_Trim.l0]
    rw [if_neg (by omega), if_pos (by omega), Int.toNat_natCast, if_pos (by omega)]
    congr 1
    simp [numL]
  | succ d ih =>
    intro j hj hd
    refine Ev.step (fun k => ?_) (ih (j + 1) (by omega) (by omega))
    have hj1 : ((j + 1 : Nat) : Int) = (j : Int) + 1 := by omega
    have hln : (numL x3 j).length = x3.length := by simp [numL]; omega
    simp only [billetref15_Trim.l0]
    rw [if_pos (by omega), if_pos (by omega)]
    simp only [rnum_f, Option.bind_some]
    rw [if_pos (by omega), w64 (n := (j : Int) + 1) (by omega) (by omega), hj1, Int.toNat_natCast, numL_succ (by omega)]

theorem rd_rep (n i : Nat) : rd (List.replicate n 0) (i : Int) = 0 := by
  unfold rd; rw [List.getD_eq_getElem?_getD, List.getElem?_replicate]; split <;> rfl
theorem rtrim_ev (x0 x1 : List S40) (x2 : List ByteArray) (x3 : List Int) (h0 : x0.length ≤ 1000) (h1 : x1.length ≤ 1000) (h2 : x2.length ≤ 1000) (hl : x2.length = x3.length) : Ev (fun k => billetref15_Trim.f k x0 x1 x2 x3) (trimS x0 x1 x2 x3) := by
  have hR : RelL x2 (x3.map num) (fun s => (leftK x2 x3 x2.length s).getD 0) := by
    refine ⟨by simp [hl], fun s => ?_⟩
    show (leftK x2 x3 x2.length s).getD 0 = _
    rw [left_ix]
    by_cases c : ixK x2 s x2.length < 0
    · rw [if_pos c, if_pos c]; rfl
    · rw [if_neg c, if_neg c]
      have hib := ixK_bd x2 s x2.length
      obtain ⟨j, hj⟩ : ∃ j : Nat, ixK x2 s x2.length = j := ⟨(ixK x2 s x2.length).toNat, by omega⟩
      rw [hj]
      show num (rd x3 j) = _
      rw [rd_get (l := x3) (by omega), rd_get (l := x3.map num) (by simp; omega)]
      simp
  have hI : InvG x0 (List.replicate x0.length 0) (fun s => (leftK x2 x3 x2.length s).getD 0) := by
    refine ⟨by simp, fun i hi => ?_, fun s => ?_⟩
    · have := num_bd (rd_T40 x0 i).f2
      rw [rd_rep]; omega
    · show 0 ≤ (leftK x2 x3 x2.length s).getD 0 ∧ (leftK x2 x3 x2.length s).getD 0 ≤ 1000
      rw [left_ix]
      have := num_bd (rd x3 (ixK x2 s x2.length))
      split
      · simp
      · simpa using this
  have e0 := turn0_ev h0 h1 h2 (List.replicate x0.length 0) (fun s => (leftK x2 x3 x2.length s).getD 0) x0.length 0 (x3.map num) (List.replicate x0.length 0) (fun s => (leftK x2 x3 x2.length s).getD 0) (by omega) (by omega) rfl hI hR (fun j _ => rd_rep _ _)
  have e1 : Ev (fun k => billetref15_Trim.l1 k x0 x1 x2 (x3.map num) (List.replicate x0.length 0) 0) _ := Ev.step (fun k => by
    simp only [billetref15_Trim.l1]
    rw [if_pos (by omega)]; rfl) e0
  refine Ev.congr (fun k => ?_) (tl0_ev (by omega) h0 e1 x3.length 0 (by omega) (by omega))
  simp only [billetref15_Trim.f]
  rw [if_pos (by omega), if_pos (by omega), Int.toNat_natCast, if_pos (by omega)]
  simp [numL]

/-! ### The law -/
theorem unstep {α : Type} {g : Nat → Option α} {r : α} (h : Ev (fun k => g (k + 1)) r) : Ev g r := Ev.step (fun _ => rfl) h
theorem tells (a : Int) (l1 l2 : List Int) (l3 l4 : List S40) (l5 : List ByteArray) (l6 : List Int) (h3 : ∀ x ∈ l3, x.f0.size ≤ maxLen ∧ x.f1.size ≤ maxLen) (h4 : ∀ x ∈ l4, x.f0.size ≤ maxLen ∧ x.f1.size ≤ maxLen) (h5 : ∀ x ∈ l5, x.size ≤ maxLen) :
    Ev (fun k => billetlaw15_ShareTells.f k a l1 l2 l3 l4 l5 l6) true := by
  have hj : ∀ b, (b = true ∨ (b = false ∧ l1.length ≤ 100 ∧ l3.length ≤ 100 ∧ l4.length ≤ 100 ∧ l5.length ≤ 100)) → Ev (fun k => billetlaw15_ShareTells.j0 k a l1 l2 l3 l4 l5 l6 true b) true := by
    rintro b (rfl | ⟨rfl, b1, b3, b4, b5⟩)
    · refine Ev.step (f := fun _ => some true) (fun k => ?_) (Ev.now _)
      simp only [billetlaw15_ShareTells.j0]; rfl
    · have hSl : (shareS a l1 l2).length ≤ 1000000 := by
        unfold shareS; split
        · rw [shK_len]; omega
        · simp
      have tail : ∀ r : List S40, r.length ≤ 1000000 → Ev (fun k => share_Trim.f k l3 l4 l5 l6) r → Ev (fun k => billetref15_Trim.f k l3 l4 l5 l6) r → Ev (fun k => billetlaw15_ShareTells.j0 k a l1 l2 l3 l4 l5 l6 true false) true := by
        intro r hr e1 e2
        have n1 : ([] : List Int).length + l1.length < 17592186044416 := by simp only [List.length_nil]; omega
        have n2 : ([] : List S40).length + l3.length < 3518437208883 := by simp only [List.length_nil]; omega
        refine unstep ?_
        simp only [billetlaw15_ShareTells.j0, Bool.false_eq_true, if_false, if_pos n1, if_pos n2, Option.bind_some, List.nil_append, if_true]
        refine Ev.bind (share_ev a l1 l2) (Ev.bind (rshare_ev a l1 l2) (Ev.bind e1 (Ev.bind e2 (Ev.bind (ints_ev (shareS a l1 l2) hSl) ?_))))
        simp only [if_true]
        refine Ev.bind (same_ev r hr) ?_
        simp only [if_true]
        refine Ev.bind (ints_ev l1 (by omega)) ?_
        simp only [if_true]
        exact Ev.bind (same_ev l3 (by omega)) (Ev.now true)
      by_cases hl : l5.length = l6.length
      · have e2 := rtrim_ev l3 l4 l5 l6 (by omega) (by omega) (by omega) hl
        refine tail _ ?_ ?_ e2
        · unfold trimS
          have := outK_len l3 (giveK (M3 l3) l3 (giveK (M2 l3 (wasK l4 l4.length)) l3 (List.replicate l3.length 0) (fun s => (leftK l5 l6 l5.length s).getD 0) l3.length).1 (giveK (M2 l3 (wasK l4 l4.length)) l3 (List.replicate l3.length 0) (fun s => (leftK l5 l6 l5.length s).getD 0) l3.length).2 l3.length).1 l3.length
          omega
        · refine Ev.congr (f := fun _ => some (trimS l3 l4 l5 l6)) (fun k => ?_) (Ev.now _)
          simp only [share_Trim.f]
          rw [if_pos hl, if_pos]
          simp only [okT, Bool.and_eq_true, decide_eq_true_eq, List.all_eq_true]
          exact ⟨⟨⟨by omega, h3⟩, h4⟩, h5⟩
      · refine tail [] (by simp) ?_ ?_
        · refine Ev.congr (f := fun _ => some []) (fun k => ?_) (Ev.now _)
          simp only [share_Trim.f]
          rw [if_neg hl]
        · refine Ev.congr (f := fun _ => some []) (fun k => ?_) (Ev.now _)
          simp only [billetref15_Trim.f]
          rw [if_neg (by omega)]
  refine Ev.congr (f := fun k => (billetlaw15_awake.f k).bind fun t => billetlaw15_ShareTells.j0 k a l1 l2 l3 l4 l5 l6 t (if (l1.length : Int) > 100 then true else if (l3.length : Int) > 100 then true else if (l4.length : Int) > 100 then true else decide ((l5.length : Int) > 100))) (fun k => ?_) (Ev.bind awake_ev (hj _ ?_))
  · simp only [billetlaw15_ShareTells.f]
    congr 1
    funext t
    split
    · rfl
    · split
      · rfl
      · split <;> rfl
  · split
    · exact .inl rfl
    · split
      · exact .inl rfl
      · split
        · exact .inl rfl
        · by_cases c : (l5.length : Int) > 100
          · exact .inl (decide_eq_true c)
          · exact .inr ⟨decide_eq_false c, by omega, by omega, by omega, by omega⟩
end Go.Proofs.Ytpdgdogcfmfakaa.St
