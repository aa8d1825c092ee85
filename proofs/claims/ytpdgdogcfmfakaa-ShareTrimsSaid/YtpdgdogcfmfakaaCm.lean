/- Counting in what Trim gives. -/
import Derived.Test.YtpdgdogcfmfakaaCn
namespace Go.Proofs.Ytpdgdogcfmfakaa.Cn
open Go.RowKit Go.Proofs.Ytpdgdogcfmfakaa.P Go.Proofs.YtpdgdogcfmfakaaW.PrintWords Go.Proofs.YtpdgdogcfmfakaaW.PrintLast
open Go.Proofs.Ytpdgdogcfmfakaa.Sh Go.Proofs.Ytpdgdogcfmfakaa.Tr

theorem val_any (w : ByteArray) (x : S40) : val w ⟨#[]⟩ x = if x.f0 = w then x.f2 else 0 := by unfold val; rw [if_pos rfl]
theorem cnt_sumW (t : List S40) (w : ByteArray) : ∀ k, k ≤ t.length → cnt (t.take k) w ⟨#[]⟩ = sumW t w (fun i => (rd_T40 t i).f2) k
  | 0, _ => by simp [cnt, sumW]
  | k + 1, h => by rw [cnt_take (by omega), cnt_sumW t w k (by omega), val_any]; rfl
theorem cnt_all (t : List S40) (w : ByteArray) : cnt t w ⟨#[]⟩ = sumW t w (fun i => (rd_T40 t i).f2) t.length := by
  rw [← cnt_sumW t w t.length (Nat.le_refl _), List.take_length]
theorem cnt_out (t : List S40) (p : List Int) (w : ByteArray) : ∀ k : Nat, (∀ i : Nat, i < k → 0 ≤ rd p i) → cnt (outK t p k) w ⟨#[]⟩ = sumW t w (fun i => rd p i) k
  | 0, _ => by simp [cnt, sumW, outK]
  | k + 1, h => by
    have ih := cnt_out t p w k (fun i hi => h i (by omega))
    have hk := h k (by omega)
    simp only [outK, sumW]
    by_cases c : rd p k > 0
    · rw [if_pos c, cnt_append, ih, val_any]
    · rw [if_neg c, ih]
      split <;> omega
theorem good_ne {t : List S40} (h : Good t) {i j : Nat} (hi : i < t.length) (hj : j < t.length) (e0 : (rd_T40 t i).f0 = (rd_T40 t j).f0) (e1 : (rd_T40 t i).f1 = (rd_T40 t j).f1) : i = j := by
  have hn := h.2.2
  rw [rd_get hi, rd_get hj] at e0 e1
  have hq := List.pairwise_iff_getElem.1 hn
  rcases Nat.lt_trichotomy i j with c | c | c
  · exact absurd (by rw [List.getElem_map, List.getElem_map, e0, e1]) (hq i j (by simpa using hi) (by simpa using hj) c)
  · exact c
  · exact absurd (by rw [List.getElem_map, List.getElem_map, e0, e1]) (hq j i (by simpa using hj) (by simpa using hi) c)
theorem cnt_at {t : List S40} (h : Good t) (p : List Int) {j : Nat} (hj : j < t.length) : ∀ k : Nat, k ≤ t.length → (∀ i : Nat, i < k → 0 ≤ rd p i) → cnt (outK t p k) (rd_T40 t j).f0 (rd_T40 t j).f1 = if j < k then rd p j else 0
  | 0, _, _ => by simp [cnt, outK]
  | k + 1, hk, hp => by
    have ih := cnt_at h p hj k (by omega) (fun i hi => hp i (by omega))
    have hpk := hp k (by omega)
    have hne := ns_ne (h.1.2 _ (rd_mem hj)).2.1
    simp only [outK]
    by_cases e : k = j
    · subst e
      rw [if_neg (by omega)] at ih
      rw [if_pos (show k < k + 1 by omega)]
      by_cases c : rd p k > 0
      · rw [if_pos c, cnt_append, ih]
        unfold val; rw [if_pos rfl, if_neg hne, if_pos rfl, Int.zero_add]
      · rw [if_neg c, ih]; omega
    · have v0 : val (rd_T40 t j).f0 (rd_T40 t j).f1 ⟨(rd_T40 t k).f0, (rd_T40 t k).f1, rd p k⟩ = 0 := by
        unfold val
        by_cases c0 : (rd_T40 t k).f0 = (rd_T40 t j).f0
        · rw [if_pos c0, if_neg hne]
          by_cases c1 : (rd_T40 t k).f1 = (rd_T40 t j).f1
          · exact absurd (good_ne h (by omega) hj c0 c1) e
          · rw [if_neg c1]
        · rw [if_neg c0]
      have e2 : (if j < k + 1 then rd p j else 0) = if j < k then rd p j else 0 := by
        by_cases c : j < k
        · rw [if_pos c, if_pos (by omega)]
        · rw [if_neg c, if_neg (by omega)]
      rw [e2]
      by_cases c : rd p k > 0
      · rw [if_pos c, cnt_append, ih, v0, Int.add_zero]
      · rw [if_neg c, ih]
theorem cnt_was {l : List S40} (h : ∀ x ∈ l, 0 ≤ x.f2 ∧ x.f2 ≤ 1000) (hl : l.length ≤ 1000) (a b : ByteArray) (hb : b ≠ ⟨#[]⟩) : ∀ k, k ≤ l.length → wasK l k a b = cnt (l.take k) a b
  | 0, _ => by simp [wasK, cnt]
  | k + 1, hk => by
    have ih := cnt_was h hl a b hb k (by omega)
    have hx := h _ (rd_mem (show k < l.length by omega))
    have hc := cnt_bd (l := l.take k) (w := a) (n := b) (fun x hx => h x (List.mem_of_mem_take hx))
    rw [List.length_take] at hc
    have b1 : -9223372036854775808 ≤ cnt (l.take k) a b + (rd_T40 l k).f2 := by omega
    have b2 : cnt (l.take k) a b + (rd_T40 l k).f2 ≤ 9223372036854775807 := by omega
    rw [cnt_take (by omega)]
    simp only [wasK, ih]
    rw [num_in hx.1 hx.2, w64 b1 b2]
    unfold val
    by_cases c : a = (rd_T40 l k).f0 ∧ b = (rd_T40 l k).f1
    · rw [if_pos c, if_pos c.1.symm, if_neg hb, if_pos c.2.symm]
    · rw [if_neg c]
      by_cases c0 : (rd_T40 l k).f0 = a
      · rw [if_pos c0, if_neg hb, if_neg (fun e => c ⟨c0.symm, e.symm⟩), Int.add_zero]
      · rw [if_neg c0, Int.add_zero]
theorem was_nn {l : List S40} (h : ∀ x ∈ l, 0 ≤ x.f2 ∧ x.f2 ≤ 1000) (hl : l.length ≤ 1000) (a b : ByteArray) : ∀ k, k ≤ l.length → 0 ≤ wasK l k a b ∧ wasK l k a b ≤ 1000 * k
  | 0, _ => by simp [wasK]
  | k + 1, hk => by
    have ih := was_nn h hl a b k (by omega)
    have hx := h _ (rd_mem (show k < l.length by omega))
    have b1 : -9223372036854775808 ≤ wasK l k a b + (rd_T40 l k).f2 := by omega
    have b2 : wasK l k a b + (rd_T40 l k).f2 ≤ 9223372036854775807 := by omega
    simp only [wasK]
    rw [num_in hx.1 hx.2, w64 b1 b2]
    split <;> omega
/-- What is allowed of the i-th workload, where all are different. -/
theorem left_at {al : List Int} (i : Nat) (hi : i < 8) : leftK ws al 8 (rdOf ByteArray.empty ws (i : Int)) = some (num (rd al (i : Int))) := by
  have key : ∀ a : Nat, a < 8 → ∀ b : Nat, b < 8 → (rdOf ByteArray.empty ws (a : Int) = rdOf ByteArray.empty ws (b : Int)) → a = b := by decide
  have below : ∀ k, k ≤ i → leftK ws al k (rdOf ByteArray.empty ws (i : Int)) = none := by
    intro k
    induction k with
    | zero => intro _; rfl
    | succ k ih =>
      intro hk
      simp only [leftK]
      rw [ih (by omega)]
      simp only
      rw [if_neg (fun e => by have := key _ hi _ (by omega) e; omega)]
  have up : ∀ k, i < k → leftK ws al k (rdOf ByteArray.empty ws (i : Int)) = some (num (rd al (i : Int))) := by
    intro k
    induction k with
    | zero => intro h; omega
    | succ k ih =>
      intro hk
      simp only [leftK]
      by_cases c : i < k
      · rw [ih c]
      · obtain rfl : i = k := by omega
        rw [below i (Nat.le_refl _)]
        simp
  exact up 8 hi
theorem left_bd (wl : List ByteArray) (al : List Int) (s : ByteArray) : ∀ k, 0 ≤ (leftK wl al k s).getD 0 ∧ (leftK wl al k s).getD 0 ≤ 1000
  | 0 => by simp [leftK]
  | k + 1 => by
    have ih := left_bd wl al s k
    simp only [leftK]
    cases hq : leftK wl al k s with
    | some x => rw [hq] at ih; exact ih
    | none =>
      simp only
      have := num_bd (rd al k)
      split <;> simp <;> omega
end Go.Proofs.Ytpdgdogcfmfakaa.Cn
