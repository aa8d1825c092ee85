/- The document's Cut and Reach in plain terms. -/
import Derived.Test.YtfmfojogcghkkaaRf
import Derived.Test.YtfmfojogcghkkaaPx14
import Derived.Test.YtfmfojogcghkkaaPx18
namespace Go.Proofs.Ytfmfojogcghkkaa.Rf
open Go.RowKit Go.Proofs.Ytfmfojogcghkkaa.P Go.Proofs.YtfmfojogcghkkaaW.PrintWords Go.Proofs.YtfmfojogcghkkaaW.PrintLast
open Go.Proofs.Ytfmfojogcghkkaa.Fl Go.Proofs.Ytfmfojogcghkkaa.Bf Go.Proofs.Ytfmfojogcghkkaa.Pp Go.Proofs.Ytfmfojogcghkkaa.Gp Go.Proofs.Ytfmfojogcghkkaa.Fw
/-! ### Cut -/
theorem cut_loop {N : Int} {l : List S41} {S : List Bool} (hN : NetOk N l) (hS : (S.length : Int) = N) (d : Nat) : ∀ i : Nat, i ≤ l.length → l.length - i = d →
    Ev (fun k => billetref05_Cut.l0 k S (sm (fun i => if sideF S ((nw N l).src i) = true ∧ sideF S ((nw N l).dst i) = false then (nw N l).cap i else 0) i) (i : Int) N l) (cut (nw N l) (sideF S)) := by
  have hlen := hN.len
  have hbd : ∀ i : Nat, i ≤ l.length → 0 ≤ sm (fun i => if sideF S ((nw N l).src i) = true ∧ sideF S ((nw N l).dst i) = false then (nw N l).cap i else 0) i ∧ sm (fun i => if sideF S ((nw N l).src i) = true ∧ sideF S ((nw N l).dst i) = false then (nw N l).cap i else 0) i ≤ 1000 * i := fun i hi => by
    have hc : ∀ j, j < i → 0 ≤ (if sideF S ((nw N l).src j) = true ∧ sideF S ((nw N l).dst j) = false then (nw N l).cap j else 0) ∧ (if sideF S ((nw N l).src j) = true ∧ sideF S ((nw N l).dst j) = false then (nw N l).cap j else 0) ≤ 1000 := fun j hj => by
      have hc : 0 ≤ (nw N l).cap j ∧ (nw N l).cap j ≤ 1000 := hN.cap j (by omega)
      split <;> omega
    exact ⟨sm_nn fun j hj => (hc j hj).1, sm_bd fun j hj => (hc j hj).2⟩
  induction d with
  | zero =>
    intro i hi hd
    obtain rfl : i = l.length := by omega
    refine Ev.step (f := fun _ => some (cut (nw N l) (sideF S))) (fun k => ?_) (Ev.now _)
    simp only [billetref05_Cut.l0]; rw [if_neg (by omega)]; rfl
  | succ d ih =>
    intro i hi hd
    obtain ⟨a, b, c⟩ := hN.ends i (by omega)
    have hc := hN.cap i (by omega)
    have hb := hbd i (by omega)
    have e : sm (fun i => if sideF S ((nw N l).src i) = true ∧ sideF S ((nw N l).dst i) = false then (nw N l).cap i else 0) (i + 1) = sm (fun i => if sideF S ((nw N l).src i) = true ∧ sideF S ((nw N l).dst i) = false then (nw N l).cap i else 0) i + (if rdOf false S (rd_T41 l i).f0 = true ∧ rdOf false S (rd_T41 l i).f1 = false then (rd_T41 l i).f2 else 0) := by
      simp only [sm, sideF]
      show _ + (if rdOf false S (((rd_T41 l i).f0.toNat : Nat) : Int) = true ∧ rdOf false S (((rd_T41 l i).f1.toNat : Nat) : Int) = false then (rd_T41 l i).f2 else 0) = _
      rw [Int.toNat_of_nonneg a.1, Int.toNat_of_nonneg b.1]
    refine Ev.step (fun k => ?_) (ih (i + 1) (by omega) (by omega))
    rw [e]
    clear e
    generalize sm (fun i => if sideF S ((nw N l).src i) = true ∧ sideF S ((nw N l).dst i) = false then (nw N l).cap i else 0) i = X at hb
    simp only [billetref05_Cut.l0]
    rw [if_pos (show (i : Int) < (l.length : Int) by omega), if_pos (show (0 : Int) ≤ (i : Int) by omega), if_pos a.1, if_pos (by omega), w64 (n := (i : Int) + 1) (by omega) (by omega)]
    cases c1 : rdOf false S (rd_T41 l i).f0
    · rw [if_neg (by simp), if_neg (by simp), Int.add_zero]; rfl
    · rw [if_pos rfl, if_pos b.1, if_pos (by omega)]
      cases c2 : rdOf false S (rd_T41 l i).f1
      · rw [if_neg (by simp), if_pos (by simp), w64 (by omega) (by omega)]; rfl
      · rw [if_pos rfl, if_neg (by simp), Int.add_zero]; rfl
theorem cut_ev {N : Int} {l : List S41} {S : List Bool} (hN : NetOk N l) (hS : (S.length : Int) = N) : Ev (fun k => billetref05_Cut.f k N l S) (cut (nw N l) (sideF S)) := by
  obtain ⟨r, h1, h2⟩ := right_ev N l
  rw [h2.2 hN] at h1
  refine Ev.bind h1 (Ev.congr (f := fun k => billetref05_Cut.j0 k S false N l) (fun k => ?_) (Ev.step (fun k => ?_) (cut_loop hN hS l.length 0 (by omega) (by omega))))
  · rw [if_pos rfl, bne_eq_false_iff_eq.2 hS]
  · simp only [billetref05_Cut.j0]; rw [if_neg (by simp)]; rfl

/-! ### Reach -/
structure RInv (N : Int) (l : List S41) (F : List Int) (s : Int) (S : List Bool) : Prop where
  len : (S.length : Int) = N
  base : rdOf false S s = true
  sound : ∀ v : Int, 0 ≤ v → v < N → rdOf false S v = true → Rch (nw N l) (fl F) s.toNat v.toNat
def Shut (l : List S41) (F : List Int) (S : List Bool) (i : Nat) : Prop := ∀ j : Nat, j < i → (rdOf false S (rd_T41 l j).f0 = true → rdOf false S (rd_T41 l j).f1 = false → ¬ rd F j < (rd_T41 l j).f2) ∧ (rdOf false S (rd_T41 l j).f1 = true → rdOf false S (rd_T41 l j).f0 = false → ¬ 0 < rd F j)
theorem RInv.told {N : Int} {l : List S41} {F : List Int} {s : Int} {S : List Bool} (hN : NetOk N l) (hs : 0 ≤ s ∧ s < N) (h : RInv N l F s S) (hc : Shut l F S l.length) : RTold N l F s S := by
  refine ⟨h.len, fun v hv => ⟨fun hx => ?_, fun hx => ?_⟩⟩
  · have := h.sound v (by omega) (by omega) hx
    rwa [Int.toNat_natCast] at this
  · refine Rch.sub (S := sideF S) (by unfold sideF; rw [Int.toNat_of_nonneg hs.1]; exact h.base) (fun u v i hu r => ?_) hx
    obtain ⟨hi, r⟩ := r
    have hi : i < l.length := hi
    obtain ⟨a, b, _⟩ := hN.ends i hi
    obtain ⟨c1, c2⟩ := hc i hi
    rcases r with ⟨e1, e2, e3⟩ | ⟨e1, e2, e3⟩
    · have e1 : (rd_T41 l i).f0.toNat = u := e1
      have e2 : (rd_T41 l i).f1.toNat = v := e2
      have e3 : rd F i < (rd_T41 l i).f2 := e3
      unfold sideF at hu ⊢
      rw [← e1, Int.toNat_of_nonneg a.1] at hu
      rw [← e2, Int.toNat_of_nonneg b.1]
      cases hd : rdOf false S (rd_T41 l i).f1
      · exact absurd e3 (c1 hu hd)
      · rfl
    · have e1 : (rd_T41 l i).f1.toNat = u := e1
      have e2 : (rd_T41 l i).f0.toNat = v := e2
      have e3 : 0 < rd F i := e3
      unfold sideF at hu ⊢
      rw [← e1, Int.toNat_of_nonneg b.1] at hu
      rw [← e2, Int.toNat_of_nonneg a.1]
      cases hd : rdOf false S (rd_T41 l i).f0
      · exact absurd e3 (c2 hu hd)
      · rfl
theorem RInv.set {N : Int} {l : List S41} {F : List Int} {s : Int} {S : List Bool} (hs : 0 ≤ s ∧ s < N) (h : RInv N l F s S) {v : Int} (hv : 0 ≤ v ∧ v < N) (hn : rdOf false S v = false) (hr : Rch (nw N l) (fl F) s.toNat v.toNat) : RInv N l F s (S.set v.toNat true) ∧ cf (S.set v.toNat true) + 1 = cf S := by
  have hl := h.len
  refine ⟨⟨by rw [List.length_set]; exact hl, ?_, fun x h0 h1 hx => ?_⟩, ?_⟩
  · rw [rdO_set hs.1 (by omega), h.base]; simp
  · rw [rdO_set h0 (by omega)] at hx
    by_cases c : x.toNat = v.toNat
    · rw [c]; exact hr
    · rw [if_neg c] at hx; exact h.sound x h0 h1 hx
  · rw [rdO hv.1 (by omega)] at hn
    exact cf_set S _ (by omega) hn

theorem pass_ev {N : Int} {l : List S41} {F : List Int} {s : Int} {R : List Bool → Prop} (hf : FitsP N l F) (hs : 0 ≤ s ∧ s < N) (n : Nat)
    (H : ∀ S again, RInv N l F s S → (again = true ∧ cf S < n ∨ again = false ∧ Shut l F S l.length) → ∃ r, Ev (fun k => billetref05_Reach.l0 k F S again N l) r ∧ R r) (d : Nat) : ∀ (i : Nat) (S : List Bool) (again : Bool), i ≤ l.length → l.length - i = d → RInv N l F s S → (again = true ∧ cf S < n ∨ again = false ∧ cf S ≤ n ∧ Shut l F S i) →
    ∃ r, Ev (fun k => billetref05_Reach.l1 k F S again (i : Int) N l) r ∧ R r := by
  have hlen := hf.net.len
  have hl := hf.len
  induction d with
  | zero =>
    intro i S again hi hd hS ha
    obtain rfl : i = l.length := by omega
    obtain ⟨r, h1, h2⟩ := H S again hS (ha.imp id fun h => ⟨h.1, h.2.2⟩)
    refine ⟨r, Ev.step (fun k => ?_) h1, h2⟩
    simp only [billetref05_Reach.l1]; rw [if_neg (by omega)]
  | succ d ih =>
    intro i S again hi hd hS ha
    obtain ⟨a, b, c⟩ := hf.net.ends i (by omega)
    have hSl := hS.len
    have f0 : (rd_T41 l i).f0 < (S.length : Int) := by omega
    have f1 : (rd_T41 l i).f1 < (S.length : Int) := by omega
    have i0 : (i : Int) < (F.length : Int) := by omega
    have i1 : (0 : Int) ≤ (i : Int) := by omega
    have i2 : (i : Int) < (l.length : Int) := by omega
    have ew0 : ∀ _ : True, wrap64 ((i : Int) + 1) = ((i + 1 : Nat) : Int) := fun _ => (w64 (n := (i : Int) + 1) (by omega) (by omega)).trans (by omega)
    have keep : ∀ (_ : ¬ (rdOf false S (rd_T41 l i).f0 = true ∧ rdOf false S (rd_T41 l i).f1 = false ∧ rd F i < (rd_T41 l i).f2)) (_ : ¬ (rdOf false S (rd_T41 l i).f1 = true ∧ rdOf false S (rd_T41 l i).f0 = false ∧ 0 < rd F i)), ∃ r, Ev (fun k => billetref05_Reach.l1 k F S again ((i + 1 : Nat) : Int) N l) r ∧ R r := fun k1 k2 => by
      refine ih (i + 1) S again (by omega) (by omega) hS (ha.imp id fun h => ⟨h.1, h.2.1, fun j hj => ?_⟩)
      by_cases e : j = i
      · subst e; exact ⟨fun x y z => k1 ⟨x, y, z⟩, fun x y z => k2 ⟨x, y, z⟩⟩
      · exact h.2.2 j (by omega)
    have hn : cf S ≤ n := by rcases ha with h | h <;> omega
    cases c0 : rdOf false S (rd_T41 l i).f0
    · cases c1 : rdOf false S (rd_T41 l i).f1
      · obtain ⟨r, h1, h2⟩ := keep (fun h => by rw [c0] at h; cases h.1) (fun h => by rw [c1] at h; cases h.1)
        refine ⟨r, Ev.step (f := fun k => billetref05_Reach.j3 k F S again (i : Int) false N l (rd_T41 l i).f0 (rd_T41 l i).f1 (rd_T41 l i).f2) (fun k => ?_) (Ev.step (fun k => ?_) h1), h2⟩
        · simp only [billetref05_Reach.l1]; rw [if_pos i0, if_pos i1, if_pos i2, if_pos a.1, if_pos f0, c0, if_neg (by simp)]
        · simp only [billetref05_Reach.j3]; rw [if_neg (by simp), if_pos b.1, if_pos f1, c1, if_neg (by simp), ew0 trivial]
      · by_cases c2 : 0 < rd F i
        · obtain ⟨w1, w2⟩ := hS.set hs a c0 (Rch.step (hS.sound _ b.1 b.2 c1) (i := i) ⟨by show i < l.length; omega, .inr ⟨rfl, rfl, c2⟩⟩)
          obtain ⟨r, h1, h2⟩ := ih (i + 1) _ true (by omega) (by omega) w1 (.inl ⟨rfl, by omega⟩)
          refine ⟨r, Ev.step (f := fun k => billetref05_Reach.j3 k F S again (i : Int) false N l (rd_T41 l i).f0 (rd_T41 l i).f1 (rd_T41 l i).f2) (fun k => ?_) (Ev.step (fun k => ?_) h1), h2⟩
          · simp only [billetref05_Reach.l1]; rw [if_pos i0, if_pos i1, if_pos i2, if_pos a.1, if_pos f0, c0, if_neg (by simp)]
          · simp only [billetref05_Reach.j3]; rw [if_neg (by simp), if_pos b.1, if_pos f1, c1, if_pos rfl, if_pos a.1, if_pos f0, c0, if_neg (by simp), if_pos i1, if_pos i0, if_pos c2, ew0 trivial]
        · obtain ⟨r, h1, h2⟩ := keep (fun h => by rw [c0] at h; cases h.1) (fun h => c2 h.2.2)
          refine ⟨r, Ev.step (f := fun k => billetref05_Reach.j3 k F S again (i : Int) false N l (rd_T41 l i).f0 (rd_T41 l i).f1 (rd_T41 l i).f2) (fun k => ?_) (Ev.step (fun k => ?_) h1), h2⟩
          · simp only [billetref05_Reach.l1]; rw [if_pos i0, if_pos i1, if_pos i2, if_pos a.1, if_pos f0, c0, if_neg (by simp)]
          · simp only [billetref05_Reach.j3]; rw [if_neg (by simp), if_pos b.1, if_pos f1, c1, if_pos rfl, if_pos a.1, if_pos f0, c0, if_neg (by simp), if_pos i1, if_pos i0, if_neg c2, ew0 trivial]
    · cases c1 : rdOf false S (rd_T41 l i).f1
      · by_cases c2 : rd F i < (rd_T41 l i).f2
        · obtain ⟨w1, w2⟩ := hS.set hs b c1 (Rch.step (hS.sound _ a.1 a.2 c0) (i := i) ⟨by show i < l.length; omega, .inl ⟨rfl, rfl, c2⟩⟩)
          obtain ⟨r, h1, h2⟩ := ih (i + 1) _ true (by omega) (by omega) w1 (.inl ⟨rfl, by omega⟩)
          have s1 : rdOf false (S.set (rd_T41 l i).f1.toNat true) (rd_T41 l i).f1 = true := by rw [rdO_set b.1 f1, if_pos rfl]
          have s0 : rdOf false (S.set (rd_T41 l i).f1.toNat true) (rd_T41 l i).f0 = true := by rw [rdO_set a.1 f0, c0]; simp
          refine ⟨r, Ev.step (f := fun k => billetref05_Reach.j3 k F S again (i : Int) true N l (rd_T41 l i).f0 (rd_T41 l i).f1 (rd_T41 l i).f2) (fun k => ?_) (Ev.step (fun k => ?_) h1), h2⟩
          · simp only [billetref05_Reach.l1]; rw [if_pos i0, if_pos i1, if_pos i2, if_pos a.1, if_pos f0, c0, if_pos rfl, if_pos b.1, if_pos f1, c1, if_neg (by simp), decide_eq_true c2]
          · simp only [billetref05_Reach.j3]; rw [if_pos trivial, if_pos b.1, if_pos f1, Option.bind_some, s1, if_pos rfl, if_pos a.1, if_pos f0, s0, if_pos rfl, ew0 trivial]
        · obtain ⟨r, h1, h2⟩ := keep (fun h => c2 h.2.2) (fun h => by rw [c1] at h; cases h.1)
          refine ⟨r, Ev.step (f := fun k => billetref05_Reach.j3 k F S again (i : Int) false N l (rd_T41 l i).f0 (rd_T41 l i).f1 (rd_T41 l i).f2) (fun k => ?_) (Ev.step (fun k => ?_) h1), h2⟩
          · simp only [billetref05_Reach.l1]; rw [if_pos i0, if_pos i1, if_pos i2, if_pos a.1, if_pos f0, c0, if_pos rfl, if_pos b.1, if_pos f1, c1, if_neg (by simp), decide_eq_false c2]
          · simp only [billetref05_Reach.j3]; rw [if_neg (by simp), if_pos b.1, if_pos f1, c1, if_neg (by simp), ew0 trivial]
      · obtain ⟨r, h1, h2⟩ := keep (fun h => by rw [c1] at h; cases h.2.1) (fun h => by rw [c0] at h; cases h.2.1)
        refine ⟨r, Ev.step (f := fun k => billetref05_Reach.j3 k F S again (i : Int) false N l (rd_T41 l i).f0 (rd_T41 l i).f1 (rd_T41 l i).f2) (fun k => ?_) (Ev.step (fun k => ?_) h1), h2⟩
        · simp only [billetref05_Reach.l1]; rw [if_pos i0, if_pos i1, if_pos i2, if_pos a.1, if_pos f0, c0, if_pos rfl, if_pos b.1, if_pos f1, c1, if_pos rfl]
        · simp only [billetref05_Reach.j3]; rw [if_neg (by simp), if_pos b.1, if_pos f1, c1, if_pos rfl, if_pos a.1, if_pos f0, c0, if_pos rfl, ew0 trivial]
theorem reach_loop {N : Int} {l : List S41} {F : List Int} {s : Int} (hf : FitsP N l F) (hs : 0 ≤ s ∧ s < N) (n : Nat) : ∀ S, cf S ≤ n → RInv N l F s S → ∃ r, Ev (fun k => billetref05_Reach.l0 k F S true N l) r ∧ RTold N l F s r := by
  induction n with
  | zero =>
    intro S hn hS
    obtain ⟨r, h1, h2⟩ := pass_ev hf hs 0 (R := RTold N l F s) (fun S again hS ha => by
      rcases ha with h | ⟨rfl, hc⟩
      · omega
      · exact ⟨S, Ev.step (f := fun _ => some S) (fun k => by simp only [billetref05_Reach.l0]; rw [if_neg (by simp)]) (Ev.now _), hS.told hf.net hs hc⟩) l.length 0 S false (by omega) (by omega) hS (.inr ⟨rfl, hn, fun j hj => by omega⟩)
    exact ⟨r, Ev.step (fun k => by simp only [billetref05_Reach.l0]; rfl) h1, h2⟩
  | succ n ih =>
    intro S hn hS
    obtain ⟨r, h1, h2⟩ := pass_ev hf hs (n + 1) (R := RTold N l F s) (fun S again hS ha => by
      rcases ha with ⟨rfl, h⟩ | ⟨rfl, hc⟩
      · exact ih S (by omega) hS
      · exact ⟨S, Ev.step (f := fun _ => some S) (fun k => by simp only [billetref05_Reach.l0]; rw [if_neg (by simp)]) (Ev.now _), hS.told hf.net hs hc⟩) l.length 0 S false (by omega) (by omega) hS (.inr ⟨rfl, hn, fun j hj => by omega⟩)
    exact ⟨r, Ev.step (fun k => by simp only [billetref05_Reach.l0]; rfl) h1, h2⟩
theorem reach_ev {N : Int} {l : List S41} {F : List Int} {s : Int} (hf : FitsP N l F) (hs : 0 ≤ s ∧ s < N) : ∃ S, Ev (fun k => billetref05_Reach.f k N l F s) S ∧ RTold N l F s S := by
  have n0 := hf.net.n0
  have n1 := hf.net.n1
  have h0 : RInv N l F s ((List.replicate N.toNat false).set s.toNat true) := by
    have hl : ((List.replicate N.toNat false).length : Int) = N := by simp; omega
    refine ⟨by rw [List.length_set]; exact hl, by rw [rdO_set hs.1 (by omega), if_pos rfl], fun v h0 h1 hv => ?_⟩
    rw [rdO_set h0 (by omega)] at hv
    by_cases c : v.toNat = s.toNat
    · rw [c]; exact .base
    · rw [if_neg c, rdO h0 (by omega)] at hv; simp at hv
  obtain ⟨r, h1, h2⟩ := reach_loop hf hs _ _ (Nat.le_refl _) h0
  refine ⟨r, Ev.bind (fits_true hf) (Ev.congr (f := fun k => billetref05_Reach.j0 k F s false N l) (fun k => ?_) (Ev.step (fun k => ?_) h1)), h2⟩
  · rw [if_pos rfl, if_neg (by omega), decide_eq_false (by omega)]
  · simp only [billetref05_Reach.j0]
    rw [if_neg (by simp), if_pos (show 0 ≤ N by omega), if_pos (show N.toNat ≤ 281474976710656 by omega), Option.bind_some, if_pos hs.1, if_pos (by simp; omega)]
#print axioms reach_ev
#print axioms cut_ev
#print axioms good_true
end Go.Proofs.Ytfmfojogcghkkaa.Rf
