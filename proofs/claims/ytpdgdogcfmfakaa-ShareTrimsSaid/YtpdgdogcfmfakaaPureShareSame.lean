/- ShareSame, over lists and numbers alone. -/
import Derived.Test.YtpdgdogcfmfakaaCm
import Derived.Test.YtpdgdogcfmfakaaPx22
namespace Go.Proofs.Ytpdgdogcfmfakaa.Pure
open Go.RowKit Go.Proofs.Ytpdgdogcfmfakaa.P Go.Proofs.YtpdgdogcfmfakaaW.PrintWords Go.Proofs.YtpdgdogcfmfakaaW.PrintLast
open Go.Proofs.Ytpdgdogcfmfakaa.Sh Go.Proofs.Ytpdgdogcfmfakaa.Tr Go.Proofs.Ytpdgdogcfmfakaa.Cn

theorem names_size {t : List S40} (h : ∀ x ∈ t, x.f0 ∈ ws ∧ x.f1 ∈ ns ∧ 0 ≤ x.f2 ∧ x.f2 ≤ 4) : t.all (fun x => decide (x.f0.size ≤ maxLen) && decide (x.f1.size ≤ maxLen)) = true := by
  have h0 : ∀ b ∈ ws, b.size ≤ maxLen := by decide
  have h1 : ∀ b ∈ ns, b.size ≤ maxLen := by decide
  rw [List.all_eq_true]
  intro x hx
  have := h x hx
  simp [h0 _ this.1, h1 _ this.2.1]

theorem ws_at {b : ByteArray} (h : b ∈ ws) : ∃ a : Nat, a < 8 ∧ b = rdOf ByteArray.empty ws (a : Int) := by
  simp only [ws, List.mem_cons, List.not_mem_nil, or_false] at h
  rcases h with rfl | rfl | rfl | rfl | rfl | rfl | rfl | rfl
  · exact ⟨0, by decide, rfl⟩
  · exact ⟨1, by decide, rfl⟩
  · exact ⟨2, by decide, rfl⟩
  · exact ⟨3, by decide, rfl⟩
  · exact ⟨4, by decide, rfl⟩
  · exact ⟨5, by decide, rfl⟩
  · exact ⟨6, by decide, rfl⟩
  · exact ⟨7, by decide, rfl⟩

theorem trim_ev {t l : List S40} {al : List Int} (ht : Cn.Good t) (hl : Cn.Raw l) (ha : al.length = 8) : ∃ p : List Int, (∀ i : Nat, i < t.length → 0 ≤ rd p i ∧ rd p i ≤ (rd_T40 t i).f2) ∧
    (∀ a : Nat, a < 8 → sumW t (rdOf ByteArray.empty ws a) (fun i => rd p i) t.length = mn (num (rd al a)) (sumW t (rdOf ByteArray.empty ws a) (fun i => (rd_T40 t i).f2) t.length)) ∧
    (∀ a : Nat, a < 8 → sumW t (rdOf ByteArray.empty ws a) (fun i => mn (rd p i) (cnt l (rd_T40 t i).f0 (rd_T40 t i).f1)) t.length = mn (num (rd al a)) (sumW t (rdOf ByteArray.empty ws a) (fun i => mn (rd_T40 t i).f2 (cnt l (rd_T40 t i).f0 (rd_T40 t i).f1)) t.length)) ∧
    ∀ k, share_Trim.f k t l ws al = some (outK t p t.length) := by
  obtain ⟨p, hp, h1, h2, h3⟩ := trim_part (t := t) (was := wasK l l.length) (L := fun s => (leftK ws al ws.length s).getD 0) (fun i hi => ht.1.small _ (rd_mem hi))
    (fun a b => (was_nn hl.small (Nat.le_trans hl.1 (by decide)) a b l.length (Nat.le_refl _)).1) (fun s => left_bd ws al s _)
  have hL : ∀ a : Nat, a < 8 → (leftK ws al ws.length (rdOf ByteArray.empty ws a)).getD 0 = num (rd al a) := by
    intro a h
    rw [show ws.length = 8 from rfl, left_at a h]; rfl
  have hw : ∀ i : Nat, i < t.length → wasK l l.length (rd_T40 t i).f0 (rd_T40 t i).f1 = cnt l (rd_T40 t i).f0 (rd_T40 t i).f1 := by
    intro i hi
    rw [cnt_was hl.small (Nat.le_trans hl.1 (by decide)) _ _ (ns_ne (ht.1.2 _ (rd_mem hi)).2.1) _ (Nat.le_refl _), List.take_length]
  refine ⟨p, h1, fun a h => ?_, fun a h => ?_, fun k => ?_⟩
  · rw [h2, hL a h]
  · have := h3 (rdOf ByteArray.empty ws a)
    rw [hL a h] at this
    rw [sumW_congr (f := fun i => mn (rd p i) (cnt l (rd_T40 t i).f0 (rd_T40 t i).f1)) (g := fun i => mn (rd p i) (wasK l l.length (rd_T40 t i).f0 (rd_T40 t i).f1)) (fun i hi _ => by rw [hw i hi]),
      sumW_congr (f := fun i => mn (rd_T40 t i).f2 (cnt l (rd_T40 t i).f0 (rd_T40 t i).f1)) (g := fun i => mn (rd_T40 t i).f2 (wasK l l.length (rd_T40 t i).f0 (rd_T40 t i).f1)) (fun i hi _ => by rw [hw i hi])]
    exact this
  · unfold share_Trim.f
    rw [if_pos (by rw [ha]; rfl)]
    have ok : okT t l ws = true := by
      have h3 : ws.all (fun x => decide (x.size ≤ maxLen)) = true := by decide
      have h4 := ht.1.1
      have h5 := hl.1
      have h6 : t.length + l.length + ws.length < 1099511627776 := by rw [show ws.length = 8 from rfl]; omega
      unfold okT
      rw [names_size ht.1.2, names_size hl.2, h3, decide_eq_true h6]; rfl
    rw [if_pos ok]
    unfold trimS
    rw [← hp]

theorem sumW_eq {t : List S40} {s : ByteArray} {f g : Nat → Int} : ∀ {k : Nat}, (∀ i, i < k → f i ≤ g i) → sumW t s f k = sumW t s g k → ∀ i, i < k → (rd_T40 t i).f0 = s → f i = g i
  | 0, _, _, i, hi, _ => by omega
  | k + 1, h, e, i, hi, hs => by
    have h1 := sumW_le (t := t) (s := s) (k := k) (fun i hi => h i (by omega))
    have h2 := h k (by omega)
    simp only [sumW] at e
    by_cases c : i = k
    · subst c
      rw [if_pos hs, if_pos hs] at e
      omega
    · refine sumW_eq (t := t) (s := s) (f := f) (g := g) (k := k) (fun i hi => h i (by omega)) ?_ i (by omega) hs
      by_cases c2 : (rd_T40 t k).f0 = s
      · rw [if_pos c2, if_pos c2] at e; omega
      · rw [if_neg c2, if_neg c2] at e; omega

theorem out_take {t : List S40} {p : List Int} (h : ∀ i : Nat, i < t.length → rd p i = (rd_T40 t i).f2 ∧ 1 ≤ (rd_T40 t i).f2) : ∀ k, k ≤ t.length → outK t p k = t.take k
  | 0, _ => by simp [outK]
  | k + 1, hk => by
    have ih := out_take h k (by omega)
    obtain ⟨h1, h2⟩ := h k (by omega)
    simp only [outK]
    rw [if_pos (by omega), ih, h1, List.take_succ_eq_append_getElem (by omega), rd_get (show k < t.length by omega)]

theorem same_ev {t : List S40} (ht : t.length ≤ 1000) : Ev (fun k => billetlaw08_Same.f k t t) true := by
  have main : ∀ d i : Nat, t.length - i = d → Ev (fun k => billetlaw08_Same.l0 k t t (i : Int)) true := by
    intro d
    induction d with
    | zero =>
      intro i hd
      refine Ev.step (f := fun _ => some true) (fun k => ?_) (Ev.now _)
      simp only [billetlaw08_Same.l0]
      rw [if_neg (by omega)]
    | succ d ih =>
      intro i hd
      have p1 : (i : Int) < (t.length : Int) := by omega
      have p2 : 0 ≤ (i : Int) := by omega
      have bi : -9223372036854775808 ≤ (i : Int) + 1 ∧ (i : Int) + 1 ≤ 9223372036854775807 := by omega
      have ih' := ih (i + 1) (by omega)
      have e1 : wrap64 ((i : Int) + 1) = ((i + 1 : Nat) : Int) := by rw [w64 bi.1 bi.2]; rfl
      refine Ev.step (fun k => ?_) ih'
      simp only [billetlaw08_Same.l0, e1]
      rw [if_pos p1, if_pos p2, if_pos p1]
      simp
  refine Ev.congr (fun k => ?_) (main t.length 0 (by omega))
  simp [billetlaw08_Same.f]

theorem ShareSame : billetlaw15_ShareSame.Pure := by
  intro raw _ _ hw
  refine Ev.rounds (r := true) ?_
  obtain ⟨b, hb, heb⟩ := binds_ev raw hw
  obtain ⟨t, ht, het⟩ := once_ev hb
  unfold billetlaw15_ShareSame.f
  refine Ev.bind awake_ev (Ev.bind heb (Ev.bind het ?_))
  show Ev (fun k => billetlaw15_ShareSame.l0 k true t ws [] ((0 : Nat) : Int)) true
  have ht0 : t.length ≤ 20 := ht.1.1
  -- whatever was last, all of it is given
  have keep : ∀ (l : List S40), Cn.Raw l → ∀ k, share_Trim.f k t l ws ((List.range 8).map fun (a : Nat) => cnt t (rdOf ByteArray.empty ws (a : Int)) ⟨#[]⟩) = some t := by
    intro l hl k
    obtain ⟨p, h1, h2, _, h4⟩ := trim_ev (al := (List.range 8).map fun (a : Nat) => cnt t (rdOf ByteArray.empty ws (a : Int)) ⟨#[]⟩) ht hl (by simp)
    rw [h4 k, out_take (fun i hi => ?_) _ (Nat.le_refl _), List.take_length]
    have hm := ht.1.2 _ (rd_mem hi)
    obtain ⟨a, ha, hae⟩ := ws_at hm.1
    refine ⟨?_, ht.2.1 _ (rd_mem hi)⟩
    refine sumW_eq (s := rdOf ByteArray.empty ws (a : Int)) (f := fun i => rd p i) (g := fun i => (rd_T40 t i).f2) (k := t.length) (fun i hi => (h1 i hi).2) ?_ i hi hae
    have hr : rd ((List.range 8).map fun (a : Nat) => cnt t (rdOf ByteArray.empty ws (a : Int)) ⟨#[]⟩) (a : Int) = cnt t (rdOf ByteArray.empty ws (a : Int)) ⟨#[]⟩ := by
      unfold rd; rw [Int.toNat_natCast, List.getD_eq_getElem?_getD, List.getElem?_map, List.getElem?_range ha]; rfl
    rw [h2 a ha, hr, ← cnt_all]
    have hc := cnt_bd (l := t) (w := rdOf ByteArray.empty ws (a : Int)) (n := ⟨#[]⟩) ht.1.small
    have hc2 : cnt t (rdOf ByteArray.empty ws (a : Int)) ⟨#[]⟩ ≤ 4 * (t.length : Int) := by
      rw [cnt_all]
      exact sumW_bd (by omega) (fun i hi => (ht.1.2 _ (rd_mem hi)).2.2.2)
    rw [num_in hc.1 (by omega)]
    unfold mn; split <;> omega
  have main : ∀ d i : Nat, 8 - i = d → i ≤ 8 → Ev (fun k => billetlaw15_ShareSame.l0 k true t ws ((List.range i).map fun (a : Nat) => cnt t (rdOf ByteArray.empty ws (a : Int)) ⟨#[]⟩) (i : Int)) true := by
    intro d
    induction d with
    | zero =>
      intro i hd hi
      obtain rfl : i = 8 := by omega
      refine Ev.step (f := fun k => (share_Trim.f k t t ws ((List.range 8).map fun (a : Nat) => cnt t (rdOf ByteArray.empty ws (a : Int)) ⟨#[]⟩)).bind fun t465 => ((billetlaw08_Same.f k t465 t).bind fun t468 => (if t468 = true then ((share_Trim.f k t ([] : List S40) ws ((List.range 8).map fun (a : Nat) => cnt t (rdOf ByteArray.empty ws (a : Int)) ⟨#[]⟩)).bind fun t469 => ((billetlaw08_Same.f k t469 t).bind fun t472 => (some t472))) else (some false)))) (fun k => ?_) ?_
      · simp only [billetlaw15_ShareSame.l0]
        rw [if_neg (by omega), if_pos trivial]
      · simp only [keep t ht.1, keep [] ⟨by simp, by simp⟩, Option.bind_some]
        refine Ev.bind (same_ev (by omega)) ?_
        exact Ev.congr (fun k => if_pos rfl) (Ev.bind (same_ev (by omega)) (Ev.now _))
    | succ d ih =>
      intro i hd hi
      have p1 : (i : Int) < 8 := by omega
      have p2 : 0 ≤ (i : Int) := by omega
      have p3 : (i : Int) < (ws.length : Int) := p1
      have p4 : ((List.range i).map fun (a : Nat) => cnt t (rdOf ByteArray.empty ws (a : Int)) ⟨#[]⟩).length < 17592186044416 := by simp; omega
      have ih' := ih (i + 1) (by omega) (by omega)
      have bi : -9223372036854775808 ≤ (i : Int) + 1 ∧ (i : Int) + 1 ≤ 9223372036854775807 := by omega
      have hc := count_ev (l := t) (rdOf ByteArray.empty ws (i : Int)) ⟨#[]⟩ ht.1.small (by omega)
      have e1 : wrap64 ((i : Int) + 1) = ((i + 1 : Nat) : Int) := by rw [w64 bi.1 bi.2]; rfl
      refine Ev.step (f := fun k => (billetlaw15_count.f k t (rdOf ByteArray.empty ws (i : Int)) ⟨#[]⟩).bind fun q => billetlaw15_ShareSame.l0 k true t ws (((List.range i).map fun (a : Nat) => cnt t (rdOf ByteArray.empty ws (a : Int)) ⟨#[]⟩) ++ [q]) ((i + 1 : Nat) : Int)) (fun k => ?_) (Ev.bind hc ?_)
      · simp only [billetlaw15_ShareSame.l0, e1]
        rw [if_pos p1, if_pos p2, if_pos p3]
        simp only [if_pos p4]
      · rw [List.range_succ, List.map_append] at ih'
        exact ih'
  exact main 8 0 (by omega) (by omega)
end Go.Proofs.Ytpdgdogcfmfakaa.Pure
