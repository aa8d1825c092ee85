/- share.Trim in plain terms: what each bind is given, and the sums over one workload. -/
import Derived.Test.YtpdgdogcfmfakaaPx6
import Derived.Test.YtpdgdogcfmfakaaSh
namespace Go.Proofs.Ytpdgdogcfmfakaa.Tr
open Go.RowKit Go.Proofs.Ytpdgdogcfmfakaa.P Go.Proofs.YtpdgdogcfmfakaaW.PrintWords Go.Proofs.YtpdgdogcfmfakaaW.PrintLast
open Go.Proofs.Ytpdgdogcfmfakaa.Sh

/-- The sum of f over those of the first k binds that are of the workload s. -/
def sumW (t : List S40) (s : ByteArray) (f : Nat → Int) : Nat → Int
  | 0 => 0
  | k + 1 => sumW t s f k + if (rd_T40 t k).f0 = s then f k else 0
theorem sumW_le {t : List S40} {s : ByteArray} {f g : Nat → Int} : ∀ {k : Nat}, (∀ i, i < k → f i ≤ g i) → sumW t s f k ≤ sumW t s g k
  | 0, _ => Int.le_refl _
  | k + 1, h => by
    have := sumW_le (t := t) (s := s) (k := k) (fun i hi => h i (by omega))
    have := h k (by omega)
    simp only [sumW]; split <;> omega
theorem sumW_congr {t : List S40} {s : ByteArray} {f g : Nat → Int} : ∀ {k : Nat}, (∀ i, i < k → (rd_T40 t i).f0 = s → f i = g i) → sumW t s f k = sumW t s g k
  | 0, _ => rfl
  | k + 1, h => by
    have := sumW_congr (t := t) (s := s) (k := k) (fun i hi => h i (by omega))
    simp only [sumW, this]
    by_cases c : (rd_T40 t k).f0 = s
    · rw [if_pos c, if_pos c, h k (by omega) c]
    · rw [if_neg c, if_neg c]
theorem sumW_nn {t : List S40} {s : ByteArray} {f : Nat → Int} : ∀ {k : Nat}, (∀ i, i < k → 0 ≤ f i) → 0 ≤ sumW t s f k
  | 0, _ => Int.le_refl _
  | k + 1, h => by
    have := sumW_nn (t := t) (s := s) (k := k) (fun i hi => h i (by omega))
    have := h k (by omega)
    simp only [sumW]; split <;> omega
theorem sumW_add {t : List S40} {s : ByteArray} {f g : Nat → Int} : ∀ k : Nat, sumW t s (fun i => f i + g i) k = sumW t s f k + sumW t s g k
  | 0 => rfl
  | k + 1 => by
    have := sumW_add (t := t) (s := s) (f := f) (g := g) k
    simp only [sumW, this]; split <;> omega
theorem sumW_sub {t : List S40} {s : ByteArray} {f g : Nat → Int} : ∀ k : Nat, sumW t s (fun i => f i - g i) k = sumW t s f k - sumW t s g k
  | 0 => rfl
  | k + 1 => by
    have := sumW_sub (t := t) (s := s) (f := f) (g := g) k
    simp only [sumW, this]; split <;> omega
theorem sumW_bd {t : List S40} {s : ByteArray} {f : Nat → Int} {B : Int} (hB : 0 ≤ B) : ∀ {k : Nat}, (∀ i, i < k → f i ≤ B) → sumW t s f k ≤ B * k
  | 0, _ => by simp [sumW]
  | k + 1, h => by
    have := sumW_bd (t := t) (s := s) hB (k := k) (fun i hi => h i (by omega))
    have := h k (by omega)
    have e : B * ((k + 1 : Nat) : Int) = B * k + B := by rw [Int.natCast_add, Int.mul_add]; simp
    rw [e]
    simp only [sumW]; split <;> omega

theorem mn_le (a b : Int) : mn a b ≤ a ∧ mn a b ≤ b ∧ (mn a b = a ∨ mn a b = b) := by unfold mn; split <;> omega
theorem mn_step {L S c : Int} (hc : 0 ≤ c) : mn L S + mn c (L - mn L S) = mn L (S + c) := by
  unfold mn; split <;> split <;> split <;> omega

/-- What the bind i is given: as much of its own cap as is left for its workload. -/
def gf (t : List S40) (L : ByteArray → Int) (cap : Nat → Int) (i : Nat) : Int := mn (cap i) (L (rd_T40 t i).f0 - mn (L (rd_T40 t i).f0) (sumW t (rd_T40 t i).f0 cap i))
theorem gf_bd {t : List S40} {L : ByteArray → Int} {cap : Nat → Int} {i : Nat} (hc : 0 ≤ cap i) : 0 ≤ gf t L cap i ∧ gf t L cap i ≤ cap i := by
  unfold gf
  have h1 := mn_le (L (rd_T40 t i).f0) (sumW t (rd_T40 t i).f0 cap i)
  have h2 := mn_le (cap i) (L (rd_T40 t i).f0 - mn (L (rd_T40 t i).f0) (sumW t (rd_T40 t i).f0 cap i))
  omega
theorem gf_sum {t : List S40} {L : ByteArray → Int} {cap : Nat → Int} {s : ByteArray} (hL : 0 ≤ L s) : ∀ {k : Nat}, (∀ i, i < k → 0 ≤ cap i) → sumW t s (gf t L cap) k = mn (L s) (sumW t s cap k)
  | 0, _ => by simp only [sumW]; unfold mn; split <;> omega
  | k + 1, h => by
    have ih := gf_sum (t := t) (L := L) (cap := cap) hL (k := k) (fun i hi => h i (by omega))
    have hk := h k (by omega)
    simp only [sumW, ih]
    by_cases c : (rd_T40 t k).f0 = s
    · rw [if_pos c, if_pos c]
      unfold gf
      rw [c]
      exact mn_step hk
    · rw [if_neg c, if_neg c, Int.add_zero, Int.add_zero]

theorem rd_set {l : List Int} {k : Nat} (hk : k < l.length) (x : Int) (i : Nat) : rd (l.set k x) (i : Int) = if i = k then x else rd l (i : Int) := by
  unfold rd
  rw [Int.toNat_natCast, List.getD_eq_getElem?_getD, List.getD_eq_getElem?_getD, List.getElem?_set]
  by_cases c : k = i
  · subst c; simp [hk]
  · rw [if_neg c, if_neg (fun e => c e.symm)]

theorem give_closed {most : Nat → List Int → Int} {t : List S40} {p0 : List Int} {L : ByteArray → Int} {cap : Nat → Int} {n : Nat} (hlen : p0.length = n) (hm : ∀ k p, k < n → rd p k = rd p0 k → most k p = cap k)
    (hc : ∀ i, i < n → 0 ≤ cap i ∧ cap i ≤ 1000) (hp : ∀ i : Nat, i < n → 0 ≤ rd p0 i ∧ rd p0 i ≤ 1000) (hL : ∀ s, 0 ≤ L s ∧ L s ≤ 1000) : ∀ k, k ≤ n →
    (giveK most t p0 L k).1.length = n ∧ (∀ i : Nat, i < n → rd (giveK most t p0 L k).1 i = if i < k then rd p0 i + gf t L cap i else rd p0 i) ∧ ∀ s, (giveK most t p0 L k).2 s = L s - mn (L s) (sumW t s cap k)
  | 0, _ => by
    refine ⟨hlen, fun i _ => by simp [giveK], fun s => ?_⟩
    have := hL s
    simp only [giveK, sumW]; unfold mn; split <;> omega
  | k + 1, hk => by
    obtain ⟨h1, h2, h3⟩ := give_closed hlen hm hc hp hL k (by omega)
    have e0 : rd (giveK most t p0 L k).1 k = rd p0 k := by rw [h2 k (by omega), if_neg (by omega)]
    have e1 : mn (most k (giveK most t p0 L k).1) ((giveK most t p0 L k).2 (rd_T40 t k).f0) = gf t L cap k := by rw [hm k _ (by omega) e0, h3]; rfl
    have hg := gf_bd (t := t) (L := L) (hc k (by omega)).1
    have hck := hc k (by omega)
    have hpk := hp k (by omega)
    have e2 : wrap64 (rd p0 k + gf t L cap k) = rd p0 k + gf t L cap k := w64 (by omega) (by omega)
    have e3 : (giveK most t p0 L (k + 1)).1 = (giveK most t p0 L k).1.set k (rd p0 k + gf t L cap k) := by
      simp only [giveK]; rw [e1, e0, e2]
    refine ⟨by rw [e3, List.length_set, h1], fun i hi => ?_, fun s => ?_⟩
    · rw [e3, rd_set (by omega)]
      by_cases c : i = k
      · subst c; rw [if_pos rfl, if_pos (by omega)]
      · rw [if_neg c, h2 i hi]
        by_cases c2 : i < k
        · rw [if_pos c2, if_pos (by omega)]
        · rw [if_neg c2, if_neg (by omega)]
    · simp only [giveK]
      rw [e1]
      have h3k := h3 (rd_T40 t k).f0
      have hLk := hL (rd_T40 t k).f0
      have hmn := mn_le (L (rd_T40 t k).f0) (sumW t (rd_T40 t k).f0 cap k)
      have hgl : gf t L cap k ≤ L (rd_T40 t k).f0 - mn (L (rd_T40 t k).f0) (sumW t (rd_T40 t k).f0 cap k) := (mn_le _ _).2.1
      have hsn : 0 ≤ sumW t (rd_T40 t k).f0 cap k := sumW_nn (fun i hi => (hc i (by omega)).1)
      by_cases c : s = (rd_T40 t k).f0
      · rw [if_pos c, h3k]
        subst c
        rw [w64 (by omega) (by omega)]
        simp only [sumW]
        rw [if_pos trivial]
        have := mn_step (L := L (rd_T40 t k).f0) (S := sumW t (rd_T40 t k).f0 cap k) hck.1
        have e : gf t L cap k = mn (cap k) (L (rd_T40 t k).f0 - mn (L (rd_T40 t k).f0) (sumW t (rd_T40 t k).f0 cap k)) := rfl
        omega
      · rw [if_neg c, h3 s]
        simp only [sumW]
        rw [if_neg (fun e => c e.symm)]
        simp

/-- What Trim gives, by its sums. -/
theorem trim_part {t : List S40} {was : ByteArray → ByteArray → Int} {L : ByteArray → Int} (hf : ∀ i : Nat, i < t.length → 0 ≤ (rd_T40 t i).f2 ∧ (rd_T40 t i).f2 ≤ 1000) (hw : ∀ a b, 0 ≤ was a b) (hL : ∀ s, 0 ≤ L s ∧ L s ≤ 1000) :
    ∃ p : List Int, p = (giveK (M3 t) t (giveK (M2 t was) t (List.replicate t.length 0) L t.length).1 (giveK (M2 t was) t (List.replicate t.length 0) L t.length).2 t.length).1 ∧
      (∀ i : Nat, i < t.length → 0 ≤ rd p i ∧ rd p i ≤ (rd_T40 t i).f2) ∧
      (∀ s, sumW t s (fun i => rd p i) t.length = mn (L s) (sumW t s (fun i => (rd_T40 t i).f2) t.length)) ∧
      ∀ s, sumW t s (fun i => mn (rd p i) (was (rd_T40 t i).f0 (rd_T40 t i).f1)) t.length = mn (L s) (sumW t s (fun i => mn (rd_T40 t i).f2 (was (rd_T40 t i).f0 (rd_T40 t i).f1)) t.length) := by
  have hr0 : ∀ i : Nat, rd (List.replicate t.length 0) i = 0 := by
    intro i; unfold rd; rw [List.getD_eq_getElem?_getD, List.getElem?_replicate]; split <;> rfl
  have hA : ∀ i, i < t.length → 0 ≤ mn (rd_T40 t i).f2 (was (rd_T40 t i).f0 (rd_T40 t i).f1) ∧ mn (rd_T40 t i).f2 (was (rd_T40 t i).f0 (rd_T40 t i).f1) ≤ 1000 := by
    intro i hi
    have := hf i hi
    have := hw (rd_T40 t i).f0 (rd_T40 t i).f1
    have := mn_le (rd_T40 t i).f2 (was (rd_T40 t i).f0 (rd_T40 t i).f1)
    omega
  obtain ⟨a1, a2, a3⟩ := give_closed (most := M2 t was) (t := t) (p0 := List.replicate t.length 0) (L := L) (cap := fun i : Nat => mn (rd_T40 t i).f2 (was (rd_T40 t i).f0 (rd_T40 t i).f1)) (n := t.length) (by simp)
    (fun k p hk _ => by unfold M2; rw [num_in (hf k hk).1 (hf k hk).2]) hA (fun i _ => by rw [hr0]; omega) hL t.length (Nat.le_refl _)
  generalize hcA : (fun i : Nat => mn (rd_T40 t i).f2 (was (rd_T40 t i).f0 (rd_T40 t i).f1)) = cA at *
  generalize giveK (M2 t was) t (List.replicate t.length 0) L t.length = g1 at *
  have cAe : ∀ i, cA i = mn (rd_T40 t i).f2 (was (rd_T40 t i).f0 (rd_T40 t i).f1) := fun i => by rw [← hcA]
  have hA' : ∀ i, i < t.length → 0 ≤ cA i ∧ cA i ≤ 1000 := fun i hi => by rw [cAe]; exact hA i hi
  have a2' : ∀ i : Nat, i < t.length → rd g1.1 i = gf t L cA i := fun i hi => by rw [a2 i hi, if_pos hi, hr0]; omega
  have ga : ∀ i, i < t.length → 0 ≤ gf t L cA i ∧ gf t L cA i ≤ cA i := fun i hi => gf_bd (hA' i hi).1
  have ca : ∀ i, cA i ≤ (rd_T40 t i).f2 := fun i => by rw [cAe]; exact (mn_le _ _).1
  have hL1 : ∀ s, 0 ≤ g1.2 s ∧ g1.2 s ≤ 1000 := by
    intro s
    rw [a3 s]
    have := hL s
    have h1 := mn_le (L s) (sumW t s cA t.length)
    have h2 : 0 ≤ sumW t s cA t.length := sumW_nn (fun i hi => (hA' i hi).1)
    omega
  obtain ⟨b1, b2, b3⟩ := give_closed (most := M3 t) (t := t) (p0 := g1.1) (L := g1.2) (cap := fun i : Nat => (rd_T40 t i).f2 - gf t L cA i) (n := t.length) a1
    (fun k p hk hp => by
      have := ga k hk; have := ca k; have := hf k hk
      unfold M3; rw [num_in (hf k hk).1 (hf k hk).2, hp, a2' k hk, w64 (by omega) (by omega)])
    (fun i hi => by have := ga i hi; have := ca i; have := hf i hi; omega) (fun i hi => by have := ga i hi; have := hA' i hi; rw [a2' i hi]; omega) hL1 t.length (Nat.le_refl _)
  generalize hcB : (fun i : Nat => (rd_T40 t i).f2 - gf t L cA i) = cB at *
  have cBe : ∀ i, cB i = (rd_T40 t i).f2 - gf t L cA i := fun i => by rw [← hcB]
  have hB : ∀ i, i < t.length → 0 ≤ cB i := fun i hi => by have := ga i hi; have := ca i; rw [cBe]; omega
  have gb : ∀ i, i < t.length → 0 ≤ gf t g1.2 cB i ∧ gf t g1.2 cB i ≤ cB i := fun i hi => gf_bd (hB i hi)
  refine ⟨_, rfl, ?_⟩
  generalize (giveK (M3 t) t g1.1 g1.2 t.length).1 = p at *
  have pe : ∀ i : Nat, i < t.length → rd p i = gf t L cA i + gf t g1.2 cB i := fun i hi => by rw [b2 i hi, if_pos hi, a2' i hi]
  have sA : ∀ s, sumW t s (gf t L cA) t.length = mn (L s) (sumW t s cA t.length) := fun s => gf_sum (hL s).1 (fun i hi => (hA' i hi).1)
  have sB : ∀ s, sumW t s (gf t g1.2 cB) t.length = mn (g1.2 s) (sumW t s cB t.length) := fun s => gf_sum (hL1 s).1 hB
  have sp : ∀ s, sumW t s (fun i => rd p i) t.length = mn (L s) (sumW t s (fun i => (rd_T40 t i).f2) t.length) := by
    intro s
    rw [sumW_congr (g := fun i => gf t L cA i + gf t g1.2 cB i) (fun i hi _ => pe i hi), sumW_add, sA, sB, a3]
    have e : sumW t s cB t.length = sumW t s (fun i => (rd_T40 t i).f2) t.length - sumW t s (gf t L cA) t.length := by rw [← hcB, sumW_sub]
    rw [e, sA]
    have h1 : sumW t s cA t.length ≤ sumW t s (fun i => (rd_T40 t i).f2) t.length := sumW_le (fun i _ => ca i)
    have h2 := hL s
    generalize sumW t s cA t.length = x at *
    generalize sumW t s (fun i => (rd_T40 t i).f2) t.length = y at *
    generalize L s = l at *
    unfold mn; split <;> split <;> split <;> omega
  refine ⟨fun i hi => ?_, sp, fun s => ?_⟩
  · have := ga i hi; have := gb i hi; have := cBe i
    rw [pe i hi]; omega
  · have lo : sumW t s (gf t L cA) t.length ≤ sumW t s (fun i => mn (rd p i) (was (rd_T40 t i).f0 (rd_T40 t i).f1)) t.length := sumW_le (fun i hi => by
      have := ga i hi; have := gb i hi; have := cAe i
      have := mn_le (rd_T40 t i).f2 (was (rd_T40 t i).f0 (rd_T40 t i).f1)
      have := mn_le (rd p i) (was (rd_T40 t i).f0 (rd_T40 t i).f1)
      have := pe i hi
      omega)
    have u1 : sumW t s (fun i => mn (rd p i) (was (rd_T40 t i).f0 (rd_T40 t i).f1)) t.length ≤ sumW t s cA t.length := sumW_le (fun i hi => by
      have := ga i hi; have := gb i hi; have := cAe i; have := cBe i
      have := mn_le (rd_T40 t i).f2 (was (rd_T40 t i).f0 (rd_T40 t i).f1)
      have := mn_le (rd p i) (was (rd_T40 t i).f0 (rd_T40 t i).f1)
      have := pe i hi
      omega)
    have u2 : sumW t s (fun i => mn (rd p i) (was (rd_T40 t i).f0 (rd_T40 t i).f1)) t.length ≤ sumW t s (fun i => rd p i) t.length := sumW_le (fun i _ => (mn_le _ _).1)
    rw [sA] at lo
    rw [sp] at u2
    have u3 := mn_le (L s) (sumW t s (fun i => (rd_T40 t i).f2) t.length)
    have u4 := mn_le (L s) (sumW t s cA t.length)
    omega
end Go.Proofs.Ytpdgdogcfmfakaa.Tr
