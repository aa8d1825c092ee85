/- LeaseHeld of layer 14 in plain terms: grants that were sent since the one that the cell has are in the book, or hold by no clock. -/
import Derived.Test.YtcmaoldklldfmaaBn
import Derived.Test.YtcmaoldklldfmaaC
namespace Go.Proofs.Ytcmaoldklldfmaa.P
open Go.RowKit Go.Proofs.YtcmaoldklldfmaaW.PrintWords Go.Proofs.YtcmaoldklldfmaaW.PrintLast Go.Proofs.YtcmaoldklldfmaaW.PrintMore

theorem rd_app_lt {l : List Int} {x : Int} {k : Nat} (h : k < l.length) : rd (l ++ [x]) (k : Int) = rd l k := by
  unfold rd; rw [Int.toNat_natCast, List.getD_eq_getElem?_getD, List.getD_eq_getElem?_getD, List.getElem?_append_left h]
theorem rd_app_eq {l : List Int} {x : Int} : rd (l ++ [x]) (l.length : Int) = x := by
  unfold rd; rw [Int.toNat_natCast, List.getD_eq_getElem?_getD, List.getElem?_append_right (Nat.le_refl _)]; simp
theorem rdL_app_lt {l : List (List S42)} {x : List S42} {k : Nat} (h : k < l.length) : rd_L3 (l ++ [x]) (k : Int) = rd_L3 l k := by
  unfold rd_L3; rw [Int.toNat_natCast, List.getD_eq_getElem?_getD, List.getD_eq_getElem?_getD, List.getElem?_append_left h]
theorem rdL_app_eq {l : List (List S42)} {x : List S42} : rd_L3 (l ++ [x]) (l.length : Int) = x := by
  unfold rd_L3; rw [Int.toNat_natCast, List.getD_eq_getElem?_getD, List.getElem?_append_right (Nat.le_refl _)]; simp
theorem rd_mem {l : List Int} {k : Nat} (h : k < l.length) : rd l (k : Int) ∈ l := by
  unfold rd; rw [Int.toNat_natCast, List.getD_eq_getElem?_getD, List.getElem?_eq_getElem h]; exact List.getElem_mem h
theorem rdL_mem {l : List (List S42)} {k : Nat} (h : k < l.length) : rd_L3 l (k : Int) ∈ l := by
  unfold rd_L3; rw [Int.toNat_natCast, List.getD_eq_getElem?_getD, List.getElem?_eq_getElem h]; exact List.getElem_mem h

def allC (t : List S42) : ByteArray → Int := cntK t t.length

structure PI (i : Nat) (now : Int) (sent : List (List S42)) (un : List Int) (has : Nat) (gs : List Gr) : Prop where
  len : sent.length = un.length
  hs : has < sent.length
  sz : sent.length ≤ i + 1
  gl : gs.length ≤ i + 1
  raw : ∀ T ∈ sent, Raw T
  nw : 0 ≤ now ∧ now ≤ 8 * i
  bd : ∀ u ∈ un, 0 ≤ u ∧ u ≤ 1000
  inv : ∀ k : Nat, has ≤ k → k < sent.length → (∃ g ∈ gs, g.ver = k ∧ g.til = rd un k ∧ g.cnt = allC (rd_L3 sent k)) ∨ rd un k + 2 ≤ now

theorem unt_in {n : Int} (h0 : -1000 ≤ n) (h1 : n ≤ 1000) : unt n = n + 20 := by unfold unt; rw [whn_in (by omega) (by omega)]

theorem PI.start (t : List S42) (h : Raw t) (s : Int) (hs : -2 ≤ s ∧ s ≤ 2) (m : Nat) : PI 0 0 [t] [unt (0 + s)] 0 [⟨0, unt (0 + s), allC t, m⟩] := by
  have e : unt (0 + s) = 0 + s + 20 := unt_in (by omega) (by omega)
  refine ⟨rfl, by simp, by simp, by simp, fun T hT => ?_, by omega, fun u hu => ?_, fun k hk hk2 => ?_⟩
  · rw [List.mem_singleton] at hT; subst hT; exact h
  · rw [List.mem_singleton] at hu; subst hu; omega
  · obtain rfl : k = 0 := by simp at hk2; omega
    exact .inl ⟨_, List.mem_singleton.2 rfl, rfl, rfl, rfl⟩

section
variable {i : Nat} {now : Int} {sent : List (List S42)} {un : List Int} {has : Nat} {gs : List Gr}
theorem PI.send (h : PI i now sent un has gs) (hi : i < 80) (t : List S42) (ht : Raw t) (s : Int) (hs : -2 ≤ s ∧ s ≤ 2) (m : Nat) :
    PI (i + 1) now (sent ++ [t]) (un ++ [unt (now + s)]) has (gs ++ [⟨(sent.length : Int), unt (now + s), allC t, m⟩]) := by
  have hn := h.nw
  have e : unt (now + s) = now + s + 20 := unt_in (by omega) (by omega)
  have hl := h.len
  refine ⟨by simp [hl], by have := h.hs; simp; omega, by have := h.sz; simp; omega, by have := h.gl; simp; omega, fun T hT => ?_, by omega, fun u hu => ?_, fun k hk hk2 => ?_⟩
  · rcases List.mem_append.1 hT with h1 | h1
    · exact h.raw T h1
    · rw [List.mem_singleton] at h1; subst h1; exact ht
  · rcases List.mem_append.1 hu with h1 | h1
    · exact h.bd u h1
    · rw [List.mem_singleton] at h1; subst h1; omega
  · by_cases e1 : k < sent.length
    · rw [rd_app_lt (by omega), rdL_app_lt e1]
      rcases h.inv k hk e1 with ⟨g, hg, h1⟩ | h1
      · exact .inl ⟨g, List.mem_append_left _ hg, h1⟩
      · exact .inr h1
    · obtain rfl : k = sent.length := by simp at hk2; omega
      refine .inl ⟨_, List.mem_append_right _ (List.mem_singleton.2 rfl), rfl, ?_, ?_⟩
      · rw [hl, rd_app_eq]
      · rw [rdL_app_eq]
theorem PI.come (h : PI i now sent un has gs) (p : Nat) (hp : p < sent.length) : PI (i + 1) now sent un (max has p) gs :=
  ⟨h.len, by have := h.hs; omega, by have := h.sz; omega, by have := h.gl; omega, h.raw, by have := h.nw; omega, h.bd, fun k hk hk2 => h.inv k (by omega) hk2⟩
theorem PI.ack (h : PI i now sent un has gs) (ver : Int) (hv : ver ≤ has) : PI (i + 1) now sent un has (gs.filter fun x => !decide (x.ver < ver)) := by
  refine ⟨h.len, h.hs, by have := h.sz; omega, Nat.le_trans (List.length_filter_le _ _) (by have := h.gl; omega), h.raw, by have := h.nw; omega, h.bd, fun k hk hk2 => ?_⟩
  rcases h.inv k hk hk2 with ⟨g, hg, h1, h2⟩ | h1
  · exact .inl ⟨g, List.mem_filter.2 ⟨hg, by simp; omega⟩, h1, h2⟩
  · exact .inr h1
theorem PI.pass (h : PI i now sent un has gs) (hi : i < 80) (d s : Int) (hd : 0 ≤ d ∧ d ≤ 8) (hs : -2 ≤ s ∧ s ≤ 2) : PI (i + 1) (now + d) sent un has (gs.filter fun x => !ovr (now + d + s) x.til) := by
  have hn := h.nw
  refine ⟨h.len, h.hs, by have := h.sz; omega, Nat.le_trans (List.length_filter_le _ _) (by have := h.gl; omega), h.raw, by omega, h.bd, fun k hk hk2 => ?_⟩
  rcases h.inv k hk hk2 with ⟨g, hg, h1, h2, h3⟩ | h1
  · by_cases c : ovr (now + d + s) g.til = true
    · right
      have hb := h.bd _ (rd_mem (l := un) (k := k) (by have := h.len; omega))
      unfold ovr at c
      rw [h2, whn_in (by omega) (by omega), whn_in (by omega) (by omega)] at c
      simp at c; omega
    · exact .inl ⟨g, List.mem_filter.2 ⟨hg, by simp at c; simp [c]⟩, h1, h2, h3⟩
  · right; omega
theorem PI.holds (h : PI i now sent un has gs) (hi : i ≤ 80) (s : Int) (hs : -2 ≤ s ∧ s ≤ 2) (hh : hld (now + s) (rd un has) = true) (n : ByteArray) : allC (rd_L3 sent has) n ≤ heldB false gs n := by
  have hn := h.nw
  have hb := h.bd _ (rd_mem (l := un) (k := has) (by have := h.len; have := h.hs; omega))
  rcases h.inv has (Nat.le_refl _) h.hs with ⟨g, hg, h1, h2, h3⟩ | h1
  · rw [← h3]
    exact ((held_le gs n _).1 (Int.le_refl _)).2 g hg
  · unfold hld at hh
    rw [whn_in (by omega) (by omega), whn_in (by omega) (by omega)] at hh
    simp at hh; omega
end
end Go.Proofs.Ytcmaoldklldfmaa.P
