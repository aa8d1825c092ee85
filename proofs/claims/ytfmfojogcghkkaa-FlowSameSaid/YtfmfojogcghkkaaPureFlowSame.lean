/- FlowSame in plain terms. -/
import Derived.Test.YtfmfojogcghkkaaFn
import Derived.Test.YtfmfojogcghkkaaPx43
namespace Go.Proofs.Ytfmfojogcghkkaa.Ps
open Go.RowKit Go.Proofs.Ytfmfojogcghkkaa.P Go.Proofs.YtfmfojogcghkkaaW.PrintWords Go.Proofs.YtfmfojogcghkkaaW.PrintLast
open Go.Proofs.Ytfmfojogcghkkaa.Fl Go.Proofs.Ytfmfojogcghkkaa.Bf Go.Proofs.Ytfmfojogcghkkaa.Pp Go.Proofs.Ytfmfojogcghkkaa.Gp Go.Proofs.Ytfmfojogcghkkaa.Fw Go.Proofs.Ytfmfojogcghkkaa.Fm

def gen (E : Nat → S41) (p : Nat) : List S41 := (List.range p).map E
theorem gen_len (E : Nat → S41) (p : Nat) : (gen E p).length = p := by simp [gen]
theorem gen_rd (E : Nat → S41) {p i : Nat} (h : i < p) : rd_T41 (gen E p) i = E i := by
  rw [rdE (by rw [gen_len]; exact h)]; simp [gen]
theorem gen_S (E : Nat → S41) (p : Nat) : gen E (p + 1) = gen E p ++ [E p] := by simp [gen, List.range_succ]
/-- The same edges with other Caps. -/
def withC (l : List S41) (C : Nat → Int) : List S41 := gen (fun i => ⟨(rd_T41 l i).f0, (rd_T41 l i).f1, C i⟩) l.length
theorem withC_len (l : List S41) (C : Nat → Int) : (withC l C).length = l.length := gen_len _ _
theorem withC_rd {l : List S41} (C : Nat → Int) {i : Nat} (h : i < l.length) : rd_T41 (withC l C) i = ⟨(rd_T41 l i).f0, (rd_T41 l i).f1, C i⟩ := gen_rd _ h
theorem withC_net {N : Int} {l : List S41} {C : Nat → Int} (h : NetOk N l) (hC : ∀ i, i < l.length → 0 ≤ C i ∧ C i ≤ 1000) : NetOk N (withC l C) := by
  refine ⟨h.n0, h.n1, by rw [withC_len]; exact h.len, fun i hi => ?_, fun i hi => ?_⟩
  · rw [withC_len] at hi
    rw [withC_rd C hi]; exact h.ends i hi
  · rw [withC_len] at hi
    rw [withC_rd C hi]; exact hC i hi
theorem withC_bal (N : Int) (l : List S41) (C : Nat → Int) (f : Nat → Int) (v : Nat) : bal (nw N (withC l C)) f v = bal (nw N l) f v := by
  unfold bal
  show sm _ (withC l C).length = sm _ l.length
  rw [withC_len]
  refine sm_congr fun i hi => ?_
  show (if (rd_T41 (withC l C) i).f0.toNat = v then f i else 0) - (if (rd_T41 (withC l C) i).f1.toNat = v then f i else 0) = _
  rw [withC_rd C hi]; rfl
theorem withC_good {N : Int} {l : List S41} {C : Nat → Int} {f g : Nat → Int} {s t : Nat} (hN : NetOk N (withC l C)) (h : Fl.Good (nw N l) f s t) (hg : ∀ i, i < l.length → 0 ≤ g i ∧ g i ≤ C i) (hb : ∀ v, bal (nw N l) f v = 0 → bal (nw N l) g v = 0) : Fl.Good (nw N (withC l C)) g s t := by
  refine ⟨hN.ok, fun i hi => ?_, h.sN, h.tN, h.ne, fun v h1 h2 h3 => by rw [withC_bal]; exact hb v (h.bal v h1 h2 h3)⟩
  have hi : i < l.length := by have : i < (withC l C).length := hi; rwa [withC_len] at this
  show 0 ≤ g i ∧ g i ≤ (rd_T41 (withC l C) i).f2
  rw [withC_rd C hi]; exact hg i hi
theorem bal_two (N : Int) (l : List S41) (f : Nat → Int) (v : Nat) : bal (nw N l) (fun i => 2 * f i) v = 2 * bal (nw N l) f v := by
  unfold bal
  rw [← sm_mul]
  refine sm_congr fun i _ => ?_
  dsimp only
  split <;> split <;> omega

theorem pk_id {a n : Int} (h0 : 0 ≤ a) (h1 : a < n) : pk a n = a := by
  unfold pk; rw [if_neg (by omega), Int.tmod_eq_of_lt h0 h1]
theorem fitE_id {N : Int} {x : S41} (h0 : 0 ≤ x.f0 ∧ x.f0 < N) (h1 : 0 ≤ x.f1 ∧ x.f1 < N) (hne : x.f0 ≠ x.f1) (h2 : 0 ≤ x.f2 ∧ x.f2 ≤ 9) : fitE N x = x := by
  unfold fitE
  rw [pk_id h0.1 h0.2, pk_id h1.1 h1.2, pk_id h2.1 (by omega), if_neg hne]
theorem fit_mem {N : Int} {l : List S41} (h : FitOk N l) : ∀ x ∈ l, fitE N x = x ∧ Sz x := fun x hx => by
  obtain ⟨i, hi, rfl⟩ := List.getElem_of_mem hx
  rw [← rdE hi]
  obtain ⟨a, b, c⟩ := h.ends i hi
  have d := h.cap i hi
  have n1 := h.n1
  exact ⟨fitE_id a b c d, ⟨by omega, by omega⟩, ⟨by omega, by omega⟩, ⟨by omega, by omega⟩⟩
theorem fit_more {N : Int} {l : List S41} (h : FitOk N l) (x : S41) : fitL N (l ++ [x]) = (l ++ [fitE N x]).take 40 := by
  unfold fitL
  rw [List.map_take, List.map_append]
  congr 2
  exact (List.map_congr_left fun y hy => (fit_mem h y hy).1).trans (List.map_id l)
theorem more_rd {N : Int} {l : List S41} (h : FitOk N l) (x : S41) {i : Nat} (hi : i < l.length) : i < (fitL N (l ++ [x])).length ∧ rd_T41 (fitL N (l ++ [x])) i = rd_T41 l i := by
  have hl := h.len
  have hlen : i < (fitL N (l ++ [x])).length := by rw [fit_more h]; simp; omega
  refine ⟨hlen, ?_⟩
  rw [rdE hlen, rdE hi]
  simp only [fit_more h]
  rw [List.getElem_take, List.getElem_append_left hi]
theorem more_len {N : Int} {l : List S41} (h : FitOk N l) (x : S41) : (fitL N (l ++ [x])).length = l.length ∨ (fitL N (l ++ [x])).length = l.length + 1 := by
  have hl := h.len
  rw [fit_more h]; simp; omega
theorem more_bal {N : Int} {l : List S41} (h : FitOk N l) (x : S41) (f : Nat → Int) (v : Nat) : bal (nw N (fitL N (l ++ [x]))) (fun i => if i < l.length then f i else 0) v = bal (nw N l) f v := by
  have key : sm (fun i => (if (rd_T41 (fitL N (l ++ [x])) i).f0.toNat = v then (if i < l.length then f i else 0) else 0) - (if (rd_T41 (fitL N (l ++ [x])) i).f1.toNat = v then (if i < l.length then f i else 0) else 0)) l.length = bal (nw N l) f v := by
    unfold bal
    refine sm_congr fun i hi => ?_
    rw [(more_rd h x hi).2, if_pos hi]; rfl
  unfold bal
  show sm (fun i => (if (rd_T41 (fitL N (l ++ [x])) i).f0.toNat = v then (if i < l.length then f i else 0) else 0) - (if (rd_T41 (fitL N (l ++ [x])) i).f1.toNat = v then (if i < l.length then f i else 0) else 0)) (fitL N (l ++ [x])).length = _
  rcases more_len h x with e | e
  · rw [e]; exact key
  · rw [e]
    simp only [sm]
    rw [key, if_neg (show ¬ l.length < l.length by omega)]
    show _ = sm _ _
    have : ∀ (P Q : Prop) [Decidable P] [Decidable Q], ((if P then (0 : Int) else 0) - (if Q then 0 else 0)) = 0 := fun P Q _ _ => by split <;> split <;> rfl
    rw [this, Int.add_zero]; rfl

/-- The three networks of the law: twice the Caps, one closed, one edge more. -/
theorem same_key {N : Int} {l : List S41} {kk : Int} {x : S41} (hf : FitOk N l) {F H K Y : List Int} {v w c y : Int}
    (g1 : GoodP N l F 0 1) (b1 : bal (nw N l) (fl F) 0 = v) (r1 : ¬ Rch (nw N l) (fl F) 0 1)
    (g2 : GoodP N (withC l fun i => 2 * (rd_T41 l i).f2) H 0 1) (b2 : bal (nw N (withC l fun i => 2 * (rd_T41 l i).f2)) (fl H) 0 = w) (r2 : ¬ Rch (nw N (withC l fun i => 2 * (rd_T41 l i).f2)) (fl H) 0 1)
    (g3 : GoodP N (withC l fun i => if (i : Int) = kk then 0 else (rd_T41 l i).f2) K 0 1) (b3 : bal (nw N (withC l fun i => if (i : Int) = kk then 0 else (rd_T41 l i).f2)) (fl K) 0 = c)
    (g4 : GoodP N (fitL N (l ++ [x])) Y 0 1) (b4 : bal (nw N (fitL N (l ++ [x]))) (fl Y) 0 = y) (r4 : ¬ Rch (nw N (fitL N (l ++ [x]))) (fl Y) 0 1) :
    w = 2 * v ∧ c ≤ v ∧ v ≤ y := by
  have hcap := hf.cap
  refine ⟨?_, ?_, ?_⟩
  · have a := withC_good (f := fl F) (g := fun i => 2 * fl F i) g2.net g1.good (fun i hi => by have := g1.good.fits i hi; have e : (nw N l).cap i = (rd_T41 l i).f2 := rfl; rw [e] at this; omega) (fun u hu => by rw [bal_two, hu]; rfl)
    have k1 := reach_most g2.good a r2
    have k2 := withC_bal N l (fun i => 2 * (rd_T41 l i).f2) (fun i => 2 * fl F i) 0
    rw [bal_two N l (fl F)] at k2
    have z0 : (0 : Int).toNat = 0 := rfl
    rw [z0] at k1
    classical
    have hS : ∀ u, u < (nw N l).N → ((fun u => decide (Rch (nw N l) (fl F) 0 u)) u = true ↔ Rch (nw N l) (fl F) 0 u) := fun u _ => by simp
    have c1 : bal (nw N l) (fl F) 0 = cut (nw N l) (fun u => decide (Rch (nw N l) (fl F) 0 u)) := reach_cut g1.good hS (by simpa using r1)
    have c2 := val_le_cut g2.good (S := fun u => decide (Rch (nw N l) (fl F) 0 u)) (by simpa using Rch.base) (by simpa using r1)
    have c3 : cut (nw N (withC l fun i => 2 * (rd_T41 l i).f2)) (fun u => decide (Rch (nw N l) (fl F) 0 u)) = 2 * cut (nw N l) (fun u => decide (Rch (nw N l) (fl F) 0 u)) := by
      unfold cut
      rw [← sm_mul]
      show sm _ (withC l fun i => 2 * (rd_T41 l i).f2).length = sm _ l.length
      rw [withC_len]
      refine sm_congr fun i hi => ?_
      show (if (decide (Rch (nw N l) (fl F) 0 (rd_T41 (withC l fun i => 2 * (rd_T41 l i).f2) i).f0.toNat)) = true ∧ (decide (Rch (nw N l) (fl F) 0 (rd_T41 (withC l fun i => 2 * (rd_T41 l i).f2) i).f1.toNat)) = false then (rd_T41 (withC l fun i => 2 * (rd_T41 l i).f2) i).f2 else 0) = 2 * (if (decide (Rch (nw N l) (fl F) 0 (rd_T41 l i).f0.toNat)) = true ∧ (decide (Rch (nw N l) (fl F) 0 (rd_T41 l i).f1.toNat)) = false then (rd_T41 l i).f2 else 0)
      rw [withC_rd _ hi]
      dsimp only
      split <;> omega
    rw [z0] at c2
    omega
  · have a : Fl.Good (nw N l) (fl K) 0 1 := by
      have hk := g3.good
      refine ⟨hf.net.ok, fun i hi => ?_, hk.sN, hk.tN, by decide, fun u h1 h2 h3 => ?_⟩
      · have hi : i < l.length := hi
        have := hk.fits i (by show i < (withC l _).length; rw [withC_len]; exact hi)
        have e : (nw N (withC l fun i => if (i : Int) = kk then 0 else (rd_T41 l i).f2)).cap i = if (i : Int) = kk then 0 else (rd_T41 l i).f2 := by
          show (rd_T41 (withC l _) i).f2 = _
          rw [withC_rd _ hi]
        rw [e] at this
        have := hcap i hi
        show 0 ≤ fl K i ∧ fl K i ≤ (rd_T41 l i).f2
        split at * <;> omega
      · rw [← withC_bal N l (fun i => if (i : Int) = kk then 0 else (rd_T41 l i).f2)]; exact hk.bal u h1 h2 h3
    have k1 := reach_most g1.good a r1
    have k2 := withC_bal N l (fun i => if (i : Int) = kk then 0 else (rd_T41 l i).f2) (fl K) 0
    have z0 : (0 : Int).toNat = 0 := rfl
    rw [z0] at k1
    omega
  · have a : Fl.Good (nw N (fitL N (l ++ [x]))) (fun i => if i < l.length then fl F i else 0) 0 1 := by
      have hk := g1.good
      refine ⟨g4.net.ok, fun i hi => ?_, hk.sN, hk.tN, by decide, fun u h1 h2 h3 => by rw [more_bal hf]; exact hk.bal u h1 h2 h3⟩
      by_cases c : i < l.length
      · have := hk.fits i c
        show 0 ≤ (if i < l.length then fl F i else 0) ∧ (if i < l.length then fl F i else 0) ≤ (rd_T41 (fitL N (l ++ [x])) i).f2
        rw [if_pos c, (more_rd hf x c).2]; exact this
      · have := g4.net.cap i hi
        show 0 ≤ (if i < l.length then fl F i else 0) ∧ (if i < l.length then fl F i else 0) ≤ (rd_T41 (fitL N (l ++ [x])) i).f2
        rw [if_neg c]; omega
    have k1 := reach_most g4.good a r4
    have z0 : (0 : Int).toNat = 0 := rfl
    rw [z0] at k1
    rw [more_bal hf, b1, b4] at k1
    exact k1
theorem dbl_gen {l : List S41} (C : Nat → Int) : gen (fun i => ⟨(rd_T41 l i).f0, (rd_T41 l i).f1, C i⟩) l.length = withC l C := rfl
theorem loop_ev {N : Int} {l : List S41} {a1 v a2_0 a2_1 a2_2 : Int} {r : Bool} (hf : FitOk N l) (ha : I64 a1)
    (he : Ev (fun k => (billetlaw05_Fit.f k (wrap64 (N - 2)) (l ++ [(⟨a2_0, a2_1, a2_2⟩ : S41)])).bind fun bt309 => ((flow_Max.f k N (withC l fun i => 2 * (rd_T41 l i).f2) 0 1).bind fun bt314 => ((flow_Max.f k N (withC l fun i => if (i : Int) = pk a1 l.length then 0 else (rd_T41 l i).f2) 0 1).bind fun bt319 => ((flow_Max.f k bt309.1 bt309.2 0 1).bind fun bt324 => (if bt314.2.2 = 0 then (if bt319.2.2 = 0 then (if bt324.2.2 = 0 then (if bt314.2.1 = (wrap64 (2 * v)) then (if bt319.2.1 ≤ v then (some (decide (bt324.2.1 ≥ v))) else (none)) else (none)) else (none)) else (none)) else (none)))))) r) (d : Nat) :
    ∀ i : Nat, i ≤ l.length → l.length - i = d → Ev (fun k => billetlaw06_FlowSame.l0 k a1 true v 0 (i : Int) a2_0 a2_1 a2_2 N l N (gen (fun i => ⟨(rd_T41 l i).f0, (rd_T41 l i).f1, 2 * (rd_T41 l i).f2⟩) i) N (gen (fun i => ⟨(rd_T41 l i).f0, (rd_T41 l i).f1, if (i : Int) = pk a1 l.length then 0 else (rd_T41 l i).f2⟩) i)) r := by
  have hlen := hf.len
  induction d with
  | zero =>
    intro i hi hd
    obtain rfl : i = l.length := by omega
    refine Ev.step (fun k => ?_) he
    simp only [billetlaw06_FlowSame.l0, Option.bind_some, if_true, dbl_gen]
    rw [if_neg (by omega), if_pos (by simp only [List.length_nil]; omega), if_pos (by simp only [List.length_nil, List.length_append, List.length_singleton]; omega), List.nil_append]
  | succ d ih =>
    intro i hi hd
    refine Ev.step (fun k => ?_) (ih (i + 1) (by omega) (by omega))
    have hc := hf.cap i (by omega)
    have hp : billetlaw06_pick.f a1 (l.length : Int) = some (pk a1 l.length) := pick_ev ha (by omega)
    have e1 : gen (fun i => ⟨(rd_T41 l i).f0, (rd_T41 l i).f1, 2 * (rd_T41 l i).f2⟩) (i + 1) = gen (fun i => ⟨(rd_T41 l i).f0, (rd_T41 l i).f1, 2 * (rd_T41 l i).f2⟩) i ++ [⟨(rd_T41 l i).f0, (rd_T41 l i).f1, wrap64 (2 * (rd_T41 l i).f2)⟩] := by
      rw [gen_S, w64 (by omega) (by omega)]
    simp only [billetlaw06_FlowSame.l0, hp, Option.bind_some]
    rw [if_pos (by omega), if_pos (by omega), if_pos (by simp only [gen_len, List.length_singleton]; omega), e1, w64 (n := (i : Int) + 1) (by omega) (by omega)]
    by_cases c : (i : Int) = pk a1 l.length
    · have e2 : gen (fun i => ⟨(rd_T41 l i).f0, (rd_T41 l i).f1, if (i : Int) = pk a1 l.length then 0 else (rd_T41 l i).f2⟩) (i + 1) = gen (fun i => ⟨(rd_T41 l i).f0, (rd_T41 l i).f1, if (i : Int) = pk a1 l.length then 0 else (rd_T41 l i).f2⟩) i ++ [⟨(rd_T41 l i).f0, (rd_T41 l i).f1, 0⟩] := by
        rw [gen_S, if_pos c]
      rw [if_pos c, if_pos (by simp only [gen_len, List.length_singleton]; omega), e2]; rfl
    · have e2 : gen (fun i => ⟨(rd_T41 l i).f0, (rd_T41 l i).f1, if (i : Int) = pk a1 l.length then 0 else (rd_T41 l i).f2⟩) (i + 1) = gen (fun i => ⟨(rd_T41 l i).f0, (rd_T41 l i).f1, if (i : Int) = pk a1 l.length then 0 else (rd_T41 l i).f2⟩) i ++ [⟨(rd_T41 l i).f0, (rd_T41 l i).f1, (rd_T41 l i).f2⟩] := by
        rw [gen_S, if_neg c]
      rw [if_neg c, if_pos (by simp only [gen_len, List.length_singleton]; omega), e2]; rfl
theorem same {a0 : Int} {l0 : List S41} {a1 a2_0 a2_1 a2_2 : Int} (h0 : I64 a0) (hl : ∀ x ∈ l0, Sz x) (h1 : I64 a1) (h2 : I64 a2_0) (h3 : I64 a2_1) (h4 : I64 a2_2) : Ev (fun k => billetlaw06_FlowSame.f k a0 l0 a1 a2_0 a2_1 a2_2) true := by
  have hf := fit_ok (fitN_bd a0).1 (fitN_bd a0).2 l0
  have ef := fit_ev h0 hl
  generalize fitN a0 = N at hf ef
  generalize fitL N l0 = l at hf ef
  have n0 := hf.n0
  have n1 := hf.n1
  have hcap := hf.cap
  obtain ⟨F, v, e1, g1, b1, bd1, r1⟩ := max_ev hf.net (s := 0) (t := 1) (by omega) (by omega) (by omega)
  have hn2 : NetOk N (withC l fun i => 2 * (rd_T41 l i).f2) := withC_net hf.net fun i hi => by have := hcap i hi; omega
  have hn3 : NetOk N (withC l fun i => if (i : Int) = pk a1 l.length then 0 else (rd_T41 l i).f2) := withC_net hf.net fun i hi => by have := hcap i hi; split <;> omega
  obtain ⟨H, w, e2, g2, b2, bd2, r2⟩ := max_ev hn2 (s := 0) (t := 1) (by omega) (by omega) (by omega)
  obtain ⟨K, c, e3, g3, b3, bd3, r3⟩ := max_ev hn3 (s := 0) (t := 1) (by omega) (by omega) (by omega)
  have hN2 : fitN (N - 2) = N := by unfold fitN; rw [pk_id (by omega) (by omega)]; omega
  have hl2 : ∀ x ∈ l ++ [(⟨a2_0, a2_1, a2_2⟩ : S41)], Sz x := fun x hx => by
    rw [List.mem_append] at hx
    rcases hx with hx | hx
    · exact (fit_mem hf x hx).2
    · rw [List.mem_singleton] at hx
      subst hx
      exact ⟨h2, h3, h4⟩
  have ef4 := fit_ev (N := N - 2) ⟨by omega, by omega⟩ hl2
  rw [hN2] at ef4
  have hf4 := fit_ok hf.n0 hf.n1 (l ++ [(⟨a2_0, a2_1, a2_2⟩ : S41)])
  obtain ⟨Y, y, e4, g4, b4, bd4, r4⟩ := max_ev hf4.net (s := 0) (t := 1) (by omega) (by omega) (by omega)
  obtain ⟨q1, q2, q3⟩ := same_key hf g1 b1 r1 g2 b2 r2 g3 b3 g4 b4 r4
  have hv : v ≤ 256000 := by
    have h := (bal_bd (G := nw N l) (f := fl F) (B := 1000) (fun i hi => good_bd hf.net g1.good.fits i hi) (0 : Int).toNat).2
    have em : (nw N l).m = l.length := rfl
    have hlen := hf.len
    rw [em, b1] at h
    omega
  refine Ev.bind awake_ev (Ev.bind ef (Ev.bind e1 (loop_ev (v := v) hf h1 ?_ l.length 0 (by omega) (by omega))))
  rw [w64 (n := N - 2) (by omega) (by omega), w64 (n := 2 * v) (by omega) (by omega)]
  refine Ev.bind ef4 (Ev.bind e2 (Ev.bind e3 (Ev.bind e4 (Ev.congr (fun k => ?_) (Ev.now true)))))
  show (if (0 : Int) = 0 then (if (0 : Int) = 0 then (if (0 : Int) = 0 then (if w = 2 * v then (if c ≤ v then (some (decide (y ≥ v))) else none) else none) else none) else none) else none) = some true
  rw [if_pos rfl, if_pos rfl, if_pos rfl, if_pos q1, if_pos q2, decide_eq_true q3]
#print axioms same
end Go.Proofs.Ytfmfojogcghkkaa.Ps
