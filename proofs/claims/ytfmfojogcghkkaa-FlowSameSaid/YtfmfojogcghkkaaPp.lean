/- Push in plain terms: way by way; what it comes to is good, has so much more, and as much as can. -/
import Derived.Test.YtfmfojogcghkkaaBf
namespace Go.Proofs.Ytfmfojogcghkkaa.Pp
open Go.RowKit Go.Proofs.Ytfmfojogcghkkaa.P Go.Proofs.YtfmfojogcghkkaaW.PrintWords Go.Proofs.YtfmfojogcghkkaaW.PrintLast Go.Proofs.YtfmfojogcghkkaaW.PrintMore Go.Proofs.Ytfmfojogcghkkaa.Fl Go.Proofs.Ytfmfojogcghkkaa.Bf

def z66 : S66 := ⟨0, 0, false⟩
def rd66 (xs : List S66) (i : Int) : S66 := xs.getD i.toNat z66
def stepRoom (l : List S41) (F : List Int) (p : S66) : Int := if p.f2 = true then rd F p.f1 else wrap64 ((rd_T41 l p.f1).f2 - rd F p.f1)
def moreK (l : List S41) (F : List Int) (W : List S66) (m : Int) : Nat → Int
  | 0 => m
  | k + 1 => mn (moreK l F W m k) (stepRoom l F (rd66 W k))
def upd1 (F : List Int) (c : Int) (p : S66) : List Int := F.set p.f1.toNat (if p.f2 = true then wrap64 (rd F p.f1 - c) else wrap64 (rd F p.f1 + c))
def updK (F : List Int) (W : List S66) (c : Int) : Nat → List Int
  | 0 => F
  | k + 1 => upd1 (updK F W c k) c (rd66 W k)
def wayOf (N : Int) (l : List S41) (F : List Int) (s t : Int) : List S66 := if ((bfs l F s N).2 t).isSome = true then wayL (bfs l F s N).2 s N.toNat t else []
def pushL (N : Int) (l : List S41) (s t most : Int) : Nat → List Int → Int → Option (List Int × Int)
  | 0, _, _ => none
  | k + 1, F, sum => if sum < most then (if (wayOf N l F s t).isEmpty = true then some (F, sum) else
      pushL N l s t most k (updK F (wayOf N l F s t) (moreK l F (wayOf N l F s t) (wrap64 (most - sum)) (wayOf N l F s t).length) (wayOf N l F s t).length) (wrap64 (sum + moreK l F (wayOf N l F s t) (wrap64 (most - sum)) (wayOf N l F s t).length))) else some (F, sum)
theorem pushL_mono (N : Int) (l : List S41) (s t most : Int) : ∀ (k : Nat) (F : List Int) (sum : Int) r, pushL N l s t most k F sum = some r → pushL N l s t most (k + 1) F sum = some r
  | 0, F, sum, r, h => by simp [pushL] at h
  | k + 1, F, sum, r, h => by
    simp only [pushL] at h ⊢
    by_cases c1 : sum < most
    · rw [if_pos c1] at h ⊢
      by_cases c2 : (wayOf N l F s t).isEmpty = true
      · rw [if_pos c2] at h ⊢; exact h
      · rw [if_neg c2] at h ⊢
        have := pushL_mono N l s t most k _ _ r h
        simp only [pushL] at this
        exact this
    · rw [if_neg c1] at h ⊢; exact h

theorem w64 {n : Int} (h0 : -9223372036854775808 ≤ n) (h1 : n ≤ 9223372036854775807) : wrap64 n = n := by unfold wrap64; omega
theorem rd_set {l : List Int} {k : Nat} (hk : k < l.length) (x : Int) (i : Nat) : rd (l.set k x) (i : Int) = if i = k then x else rd l (i : Int) := by
  unfold rd
  rw [Int.toNat_natCast, List.getD_eq_getElem?_getD, List.getD_eq_getElem?_getD, List.getElem?_set]
  by_cases c : k = i
  · subst c; simp [hk]
  · rw [if_neg c, if_neg (fun e => c e.symm)]
theorem rd66_get {W : List S66} {k : Nat} (h : k < W.length) : rd66 W (k : Int) = W[k] := by
  unfold rd66; rw [Int.toNat_natCast, List.getD_eq_getElem?_getD, List.getElem?_eq_getElem h]; rfl
theorem rd66_mem {W : List S66} {k : Nat} (h : k < W.length) : rd66 W (k : Int) ∈ W := by rw [rd66_get h]; exact List.getElem_mem h
theorem upd1_len (F : List Int) (c : Int) (p : S66) : (upd1 F c p).length = F.length := by unfold upd1; rw [List.length_set]
theorem updK_len (F : List Int) (W : List S66) (c : Int) : ∀ k, (updK F W c k).length = F.length
  | 0 => rfl
  | k + 1 => by simp only [updK]; rw [upd1_len, updK_len F W c k]

/-- What a network of this layer may be. -/
structure NetOk (N : Int) (l : List S41) : Prop where
  n0 : 2 ≤ N
  n1 : N ≤ 64
  len : l.length ≤ 256
  ends : Bf.Ends l N
  cap : ∀ i : Nat, i < l.length → 0 ≤ (rd_T41 l i).f2 ∧ (rd_T41 l i).f2 ≤ 1000
theorem NetOk.ok {N : Int} {l : List S41} (h : NetOk N l) : (nw N l).Ok := by
  refine ⟨fun i hi => ?_, fun i hi => ?_, fun i hi => ?_, fun i hi => (h.cap i hi).1⟩
  · have := h.ends i hi; show (rd_T41 l i).f0.toNat < N.toNat; omega
  · have := h.ends i hi; show (rd_T41 l i).f1.toNat < N.toNat; omega
  · have := h.ends i hi; show (rd_T41 l i).f0.toNat ≠ (rd_T41 l i).f1.toNat; omega

theorem push_append (c : Int) (p : Nat × Bool) : ∀ (L : List (Nat × Bool)) (f : Nat → Int), push f c (L ++ [p]) = push1 (push f c L) c p
  | [], f => rfl
  | q :: L, f => by simp only [List.cons_append, push]; exact push_append c p L _
theorem push_bd {c B : Int} (h0 : 0 ≤ c) : ∀ (L : List (Nat × Bool)) (f : Nat → Int) (i : Nat), -B ≤ f i → f i ≤ B → -(B + c * L.length) ≤ push f c L i ∧ push f c L i ≤ B + c * L.length
  | [], f, i, h1, h2 => by simp [push]; omega
  | p :: L, f, i, h1, h2 => by
    have e : push1 f c p i = f i ∨ push1 f c p i = f i - c ∨ push1 f c p i = f i + c := by unfold push1; split <;> (try split) <;> simp
    have := push_bd (B := B + c) h0 L (push1 f c p) i (by omega) (by omega)
    simp only [push, List.length_cons]
    rw [show c * ((L.length + 1 : Nat) : Int) = c * (L.length : Int) + c by rw [Int.natCast_add, Int.mul_add]; simp]
    omega

/-- What the list of flows comes to behind the first k steps. -/
theorem upd_push {l : List S41} {F : List Int} {W : List S66} {c : Int} (hl : F.length = l.length) (hF : ∀ i : Nat, i < l.length → 0 ≤ rd F i ∧ rd F i ≤ 1000) (hW : ∀ x ∈ W, 0 ≤ x.f1 ∧ x.f1 < l.length) (h0 : 0 ≤ c) (h1 : c ≤ 1000) (hWl : W.length ≤ 64) : ∀ k, k ≤ W.length →
    ∀ i : Nat, i < l.length → rd (updK F W c k) i = push (fl F) c ((W.take k).map stp) i
  | 0, _, i, _ => by simp [updK, push, fl]
  | k + 1, hk, i, hi => by
    have ih := upd_push hl hF hW h0 h1 hWl k (by omega)
    have hx := hW _ (rd66_mem (W := W) (k := k) (by omega))
    simp only [updK, upd1]
    rw [List.take_succ_eq_append_getElem (by omega), List.map_append, List.map_cons, List.map_nil, push_append, ← rd66_get (by omega)]
    generalize rd66 W (k : Int) = p at *
    obtain ⟨j, hj⟩ : ∃ j : Nat, p.f1 = j := ⟨p.f1.toNat, by omega⟩
    have hjl : j < l.length := by omega
    have hlen : (updK F W c k).length = l.length := by rw [updK_len, hl]
    have hb := push_bd (B := 1000) h0 ((W.take k).map stp) (fl F) j (by have := hF j hjl; show -1000 ≤ rd F j; omega) (by have := hF j hjl; show rd F j ≤ 1000; omega)
    have hc : c * (((W.take k).map stp).length : Int) ≤ 1000 * 64 := by
      have hk2 : (((W.take k).map stp).length : Int) ≤ 64 := by simp; omega
      have h3 : (0 : Int) ≤ (((W.take k).map stp).length : Int) := by omega
      calc c * (((W.take k).map stp).length : Int) ≤ 1000 * (((W.take k).map stp).length : Int) := Int.mul_le_mul_of_nonneg_right h1 h3
        _ ≤ 1000 * 64 := by omega
    rw [hj, Int.toNat_natCast, rd_set (by omega), ih j hjl]
    show (if i = j then _ else rd (updK F W c k) i) = if i = (stp p).1 then _ else _
    have e : (stp p).1 = j := by show p.f1.toNat = j; omega
    rw [e]
    by_cases ci : i = j
    · rw [if_pos ci, if_pos ci, ci]
      show _ = if p.f2 = true then _ else _
      cases p.f2
      · simp only [Bool.false_eq_true, if_false]; exact w64 (by omega) (by omega)
      · simp only [if_true]; exact w64 (by omega) (by omega)
    · rw [if_neg ci, if_neg ci]; exact ih i hi

theorem mn_le (a b : Int) : mn a b ≤ a ∧ mn a b ≤ b ∧ (mn a b = a ∨ mn a b = b) := by unfold mn; split <;> omega
theorem moreK_ok {l : List S41} {F : List Int} {W : List S66} {m : Int} (hm : 1 ≤ m) (hr : ∀ x ∈ W, 1 ≤ stepRoom l F x) : ∀ k, k ≤ W.length → 1 ≤ moreK l F W m k ∧ moreK l F W m k ≤ m ∧ ∀ j, j < k → moreK l F W m k ≤ stepRoom l F (rd66 W j)
  | 0, _ => ⟨hm, Int.le_refl _, fun j hj => absurd hj (Nat.not_lt_zero _)⟩
  | k + 1, hk => by
    obtain ⟨h1, h2, h3⟩ := moreK_ok hm hr k (by omega)
    have h4 := hr _ (rd66_mem (W := W) (k := k) (by omega))
    have h5 := mn_le (moreK l F W m k) (stepRoom l F (rd66 W k))
    simp only [moreK]
    refine ⟨by omega, by omega, fun j hj => ?_⟩
    by_cases c : j = k
    · subst c; omega
    · have := h3 j (by omega); omega

/-- A flow's numbers, where it is good. -/
theorem good_bd {N : Int} {l : List S41} {F : List Int} (hN : NetOk N l) (hf : Fits (nw N l) (fl F)) (i : Nat) (hi : i < l.length) : 0 ≤ rd F i ∧ rd F i ≤ 1000 := by
  have h1 := hf i hi
  have h2 := hN.cap i hi
  have : fl F i ≤ (rd_T41 l i).f2 := h1.2
  exact ⟨h1.1, by show fl F i ≤ 1000; omega⟩
theorem stepAt_room {N : Int} {l : List S41} {F : List Int} (hN : NetOk N l) (hf : Fits (nw N l) (fl F)) {st : St} {p : Nat} {x : S66} (h : StepAt l F st p x) : 0 ≤ x.f1 ∧ x.f1 < l.length ∧ 1 ≤ stepRoom l F x ∧ stepRoom l F x = room (nw N l) (fl F) (stp x) ∧ stepRoom l F x ≤ 1000 := by
  obtain ⟨_, _, r, i, _, hi, _, e1, _, hc⟩ := h
  have hends := cand_ends hc
  have hb := good_bd hN hf i hi
  have hcap := hN.cap i hi
  have hfi : rd F i ≤ (rd_T41 l i).f2 := (hf i hi).2
  refine ⟨by omega, by omega, ?_⟩
  unfold stepRoom room
  show 1 ≤ (if x.f2 = true then _ else _) ∧ (if x.f2 = true then _ else _) = (if x.f2 = true then rd F (x.f1.toNat : Nat) else (rd_T41 l (x.f1.toNat : Nat)).f2 - rd F (x.f1.toNat : Nat)) ∧ (if x.f2 = true then _ else _) ≤ (1000 : Int)
  have e : ((x.f1.toNat : Nat) : Int) = x.f1 := by omega
  rw [e, e1]
  cases hx : x.f2
  · simp only [hx, Bool.false_eq_true, if_false] at hends ⊢
    rw [w64 (by omega) (by omega)]; omega
  · simp only [hx, if_true] at hends ⊢
    exact ⟨by omega, trivial, by omega⟩

/-- The way that is taken, where there is one. -/
theorem wayOf_ok {N : Int} {l : List S41} {F : List Int} {s t : Int} (hN : NetOk N l) (hs : 0 ≤ s ∧ s < N) (ht : 0 ≤ t ∧ t < N) (hne : s ≠ t) :
    ((wayOf N l F s t).isEmpty = true ↔ ¬ Rch (nw N l) (fl F) s.toNat t.toNat) ∧ (wayOf N l F s t).length ≤ 64 ∧ ((wayOf N l F s t).isEmpty = false → Fl.Way (nw N l) (fl F) s.toNat t.toNat ((wayOf N l F s t).map stp)) ∧
      (∀ x ∈ wayOf N l F s t, ∃ st p, StepAt l F st p x) ∧ ((wayOf N l F s t).map fun x => (stp x).1).Nodup := by
  have hI := bfs_inv (F := F) hN.ends hs
  have hr := bfs_reach (F := F) hN.ends hs t.toNat
  rw [show ((t.toNat : Nat) : Int) = t by omega] at hr
  unfold wayOf
  by_cases c : ((bfs l F s N).2 t).isSome = true
  · rw [if_pos c]
    obtain ⟨p, hp, e⟩ := (hI.mem t).1 c
    have hle := hI.le
    have hn1 := hN.n1
    have hp0 : 0 < p := by
      rcases Nat.eq_zero_or_pos p with h0 | h0
      · subst h0; exact absurd (hI.head.symm.trans e) hne
      · exact h0
    obtain ⟨w1, w2, w3, w4, w5, _⟩ := wayL_ok hI N.toNat p (by omega) hp
    rw [e] at w1 w2 w3 w4 w5
    have hne2 : (wayL (bfs l F s N).2 s N.toNat t).isEmpty = false := by
      cases hw : wayL (bfs l F s N).2 s N.toNat t with
      | nil => exact absurd hw (w5 hp0)
      | cons => rfl
    refine ⟨⟨fun h => (by rw [hne2] at h; cases h), fun h => absurd (hr.1 c) h⟩, by omega, fun _ => w1, fun x hx => ?_, w3⟩
    obtain ⟨r, _, hr⟩ := w2 x hx
    exact ⟨_, r, hr⟩
  · rw [if_neg c]
    exact ⟨⟨fun _ h => c (hr.2 h), fun _ => rfl⟩, by simp, fun h => (by cases h), fun x hx => (by cases hx), by simp⟩

/-- One round: along the way so much as can. -/
theorem round_ok {N : Int} {l : List S41} {F : List Int} {s t m : Int} (hN : NetOk N l) (hl : F.length = l.length) (hs : 0 ≤ s ∧ s < N) (ht : 0 ≤ t ∧ t < N) (hg : Fl.Good (nw N l) (fl F) s.toNat t.toNat) (hm : 1 ≤ m) (hw : (wayOf N l F s t).isEmpty = false) :
    ∃ c, c = moreK l F (wayOf N l F s t) m (wayOf N l F s t).length ∧ 1 ≤ c ∧ c ≤ m ∧ c ≤ 1000 ∧ (updK F (wayOf N l F s t) c (wayOf N l F s t).length).length = l.length ∧
      Fl.Good (nw N l) (fl (updK F (wayOf N l F s t) c (wayOf N l F s t).length)) s.toNat t.toNat ∧ bal (nw N l) (fl (updK F (wayOf N l F s t) c (wayOf N l F s t).length)) s.toNat = bal (nw N l) (fl F) s.toNat + c := by
  have hne : s ≠ t := fun e => hg.ne (by rw [e])
  obtain ⟨_, w2, w3, w4, w5⟩ := wayOf_ok (F := F) hN hs ht hne
  have w3 := w3 hw
  generalize wayOf N l F s t = W at *
  have hroom : ∀ x ∈ W, 0 ≤ x.f1 ∧ x.f1 < l.length ∧ 1 ≤ stepRoom l F x ∧ stepRoom l F x = room (nw N l) (fl F) (stp x) ∧ stepRoom l F x ≤ 1000 := fun x hx => by
    obtain ⟨st, p, h⟩ := w4 x hx
    exact stepAt_room hN hg.fits h
  obtain ⟨m1, m2, m3⟩ := moreK_ok (F := F) (W := W) hm (fun x hx => (hroom x hx).2.2.1) W.length (Nat.le_refl _)
  have hWpos : 0 < W.length := by cases W with
    | nil => cases hw
    | cons => simp
  have hc1 : moreK l F W m W.length ≤ 1000 := by
    have h1 := m3 0 hWpos
    have h2 := (hroom _ (rd66_mem (W := W) (k := 0) hWpos)).2.2.2.2
    omega
  refine ⟨_, rfl, m1, m2, hc1, by rw [updK_len, hl], ?_⟩
  generalize moreK l F W m W.length = c at *
  have hup : ∀ i : Nat, i < l.length → rd (updK F W c W.length) i = push (fl F) c (W.map stp) i := fun i hi => by
    have := upd_push hl (good_bd hN hg.fits) (fun x hx => ⟨(hroom x hx).1, (hroom x hx).2.1⟩) (by omega) hc1 w2 W.length (Nat.le_refl _) i hi
    rwa [List.take_length] at this
  obtain ⟨g1, g2⟩ := push_good hg w3 (c := c) (by omega) (by rw [List.map_map]; exact w5) (fun p hp => by
    obtain ⟨x, hx, rfl⟩ := List.mem_map.1 hp
    obtain ⟨j, hj, rfl⟩ := List.getElem_of_mem hx
    have h1 := m3 j hj
    rw [rd66_get hj] at h1
    rw [← (hroom _ hx).2.2.2.1]; exact h1)
  have hb : ∀ v, bal (nw N l) (fl (updK F W c W.length)) v = bal (nw N l) (push (fl F) c (W.map stp)) v := fun v => bal_congr fun i hi => hup i hi
  refine ⟨⟨g1.ok, fun i hi => ?_, g1.sN, g1.tN, g1.ne, fun v h1 h2 h3 => ?_⟩, ?_⟩
  · have := g1.fits i hi
    show 0 ≤ rd (updK F W c W.length) i ∧ rd (updK F W c W.length) i ≤ _
    rw [hup i hi]; exact this
  · rw [hb]; exact g1.bal v h1 h2 h3
  · rw [hb]; exact g2

/-- Push's end. -/
structure Pushed (N : Int) (l : List S41) (F : List Int) (s t most sum : Int) (F' : List Int) (sum' : Int) : Prop where
  len : F'.length = l.length
  good : Fl.Good (nw N l) (fl F') s.toNat t.toNat
  bal : bal (nw N l) (fl F') s.toNat = bal (nw N l) (fl F) s.toNat + (sum' - sum)
  lo : sum ≤ sum'
  hi : sum' ≤ most
  most : sum' = most ∨ ¬ Rch (nw N l) (fl F') s.toNat t.toNat

theorem push_ok {N : Int} {l : List S41} {s t most : Int} (hN : NetOk N l) (hs : 0 ≤ s ∧ s < N) (ht : 0 ≤ t ∧ t < N) (hm : most ≤ 9223372036854775807) : ∀ (d : Nat) (F : List Int) (sum : Int), F.length = l.length → Fl.Good (nw N l) (fl F) s.toNat t.toNat → 0 ≤ sum → sum ≤ most → 256000 - bal (nw N l) (fl F) s.toNat ≤ d →
    ∃ F' sum', pushL N l s t most (d + 1) F sum = some (F', sum') ∧ Pushed N l F s t most sum F' sum' := by
  intro d
  induction d with
  | zero =>
    intro F sum hl hg h0 h1 hd
    have hne : s ≠ t := fun e => hg.ne (by rw [e])
    have stay : ∀ h : sum = most ∨ ¬ Rch (nw N l) (fl F) s.toNat t.toNat, Pushed N l F s t most sum F sum := fun h => ⟨hl, hg, by omega, Int.le_refl _, h1, h⟩
    simp only [pushL]
    by_cases c1 : sum < most
    · rw [if_pos c1]
      by_cases c2 : (wayOf N l F s t).isEmpty = true
      · rw [if_pos c2]
        exact ⟨F, sum, rfl, stay (.inr ((wayOf_ok (F := F) hN hs ht hne).1.1 c2))⟩
      · exfalso
        obtain ⟨c, _, k1, k2, k3, k4, k5, k6⟩ := round_ok hN hl hs ht hg (m := wrap64 (most - sum)) (by rw [w64 (by omega) (by omega)]; omega) (by simpa using c2)
        have := (bal_bd (G := nw N l) (f := fl (updK F (wayOf N l F s t) c (wayOf N l F s t).length)) (B := 1000) (fun i hi => good_bd hN k5.fits i hi) s.toNat).2
        have hlen := hN.len
        have e : (nw N l).m = l.length := rfl
        rw [e, k6] at this
        omega
    · rw [if_neg c1]
      exact ⟨F, sum, rfl, stay (.inl (by omega))⟩
  | succ d ih =>
    intro F sum hl hg h0 h1 hd
    have hne : s ≠ t := fun e => hg.ne (by rw [e])
    have stay : ∀ h : sum = most ∨ ¬ Rch (nw N l) (fl F) s.toNat t.toNat, Pushed N l F s t most sum F sum := fun h => ⟨hl, hg, by omega, Int.le_refl _, h1, h⟩
    rw [pushL]
    by_cases c1 : sum < most
    · rw [if_pos c1]
      by_cases c2 : (wayOf N l F s t).isEmpty = true
      · rw [if_pos c2]
        exact ⟨F, sum, rfl, stay (.inr ((wayOf_ok (F := F) hN hs ht hne).1.1 c2))⟩
      · rw [if_neg c2]
        have ew : wrap64 (most - sum) = most - sum := w64 (by omega) (by omega)
        obtain ⟨c, hc, k1, k2, k3, k4, k5, k6⟩ := round_ok hN hl hs ht hg (m := wrap64 (most - sum)) (by rw [ew]; omega) (by simpa using c2)
        rw [← hc]
        rw [ew] at k2
        rw [w64 (n := sum + c) (by omega) (by omega)]
        obtain ⟨F', sum', e, p⟩ := ih _ (sum + c) k4 k5 (by omega) (by omega) (by omega)
        exact ⟨F', sum', e, p.len, p.good, by rw [p.bal, k6]; omega, by have := p.lo; omega, p.hi, p.most⟩
    · rw [if_neg c1]
      exact ⟨F, sum, rfl, stay (.inl (by omega))⟩
end Go.Proofs.Ytfmfojogcghkkaa.Pp
