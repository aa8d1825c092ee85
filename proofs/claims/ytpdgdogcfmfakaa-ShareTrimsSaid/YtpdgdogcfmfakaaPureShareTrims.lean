/- ShareTrims, over lists and numbers alone. -/
import Derived.Test.YtpdgdogcfmfakaaPureShareSame
import Derived.Test.YtpdgdogcfmfakaaPx21
namespace Go.Proofs.Ytpdgdogcfmfakaa.Pure
open Go.RowKit Go.Proofs.Ytpdgdogcfmfakaa.P Go.Proofs.YtpdgdogcfmfakaaW.PrintWords Go.Proofs.YtpdgdogcfmfakaaW.PrintLast
open Go.Proofs.Ytpdgdogcfmfakaa.Sh Go.Proofs.Ytpdgdogcfmfakaa.Tr Go.Proofs.Ytpdgdogcfmfakaa.Cn

theorem out_mem {t : List S40} {p : List Int} (hr : Cn.Raw t) (h : ∀ i : Nat, i < t.length → 0 ≤ rd p i ∧ rd p i ≤ (rd_T40 t i).f2) : ∀ k, k ≤ t.length → ∀ x ∈ outK t p k, x.f0 ∈ ws ∧ 1 ≤ x.f2 ∧ x.f2 ≤ 4
  | 0, _, x, hx => by simp [outK] at hx
  | k + 1, hk, x, hx => by
    have hm := hr.2 _ (rd_mem (show k < t.length by omega))
    have hp := h k (by omega)
    simp only [outK] at hx
    by_cases c : rd p k > 0
    · rw [if_pos c] at hx
      rcases List.mem_append.1 hx with hx | hx
      · exact out_mem hr h k (by omega) x hx
      · rw [List.mem_singleton] at hx
        subst hx
        exact ⟨hm.1, c, Int.le_trans hp.2 hm.2.2.2⟩
    · rw [if_neg c] at hx
      exact out_mem hr h k (by omega) x hx

def tot (l : List S40) : Int := (l.map fun x => x.f2).sum
def s8 (l : List S40) : Nat → Int
  | 0 => 0
  | m + 1 => s8 l m + cnt l (rdOf ByteArray.empty ws (m : Int)) ⟨#[]⟩
theorem ws_key : ∀ a : Nat, a < 8 → ∀ b : Nat, b < 8 → (rdOf ByteArray.empty ws (a : Int) = rdOf ByteArray.empty ws (b : Int)) → a = b := by decide
theorem s8_cons {x : S40} {l : List S40} {b : Nat} (hb : b < 8) (hx : x.f0 = rdOf ByteArray.empty ws (b : Int)) : ∀ m, m ≤ 8 → s8 (x :: l) m = s8 l m + if b < m then x.f2 else 0
  | 0, _ => by simp [s8]
  | m + 1, hm => by
    have ih := s8_cons (l := l) hb hx m (by omega)
    have e : cnt (x :: l) (rdOf ByteArray.empty ws (m : Int)) ⟨#[]⟩ = val (rdOf ByteArray.empty ws (m : Int)) ⟨#[]⟩ x + cnt l (rdOf ByteArray.empty ws (m : Int)) ⟨#[]⟩ := by simp [cnt]
    simp only [s8]
    rw [ih, e, val_any, hx]
    by_cases c : b = m
    · subst c
      rw [if_neg (show ¬ b < b by omega), if_pos rfl, if_pos (show b < b + 1 by omega)]
      generalize x.f2 = f
      omega
    · rw [if_neg (fun e => c (ws_key b hb m (by omega) e))]
      by_cases c2 : b < m
      · rw [if_pos c2, if_pos (show b < m + 1 by omega)]
        generalize x.f2 = f
        omega
      · rw [if_neg c2, if_neg (show ¬ b < m + 1 by omega)]; omega
theorem s8_tot : ∀ {l : List S40}, (∀ x ∈ l, x.f0 ∈ ws) → s8 l 8 = tot l
  | [], _ => by simp [s8, tot, cnt]
  | x :: l, h => by
    obtain ⟨b, hb, hx⟩ := ws_at (h x (List.mem_cons_self ..))
    rw [s8_cons hb hx 8 (by omega), if_pos hb, s8_tot (fun y hy => h y (List.mem_cons_of_mem _ hy))]
    simp only [tot, List.map_cons, List.sum_cons]
    omega
theorem tot_take {l : List S40} {i : Nat} (hi : i < l.length) : tot (l.take (i + 1)) = tot (l.take i) + (rd_T40 l (i : Int)).f2 := by
  rw [List.take_succ_eq_append_getElem hi, rd_get hi, tot, tot, List.map_append, List.sum_append]
  simp only [List.map_cons, List.map_nil, List.sum_cons, List.sum_nil]
  omega
theorem tot_bd {l : List S40} (h : ∀ x ∈ l, x.f0 ∈ ws ∧ 1 ≤ x.f2 ∧ x.f2 ≤ 4) : 0 ≤ tot l ∧ tot l ≤ 4 * l.length := by
  induction l with
  | nil => simp [tot]
  | cons x l ih =>
    have h1 := ih (fun y hy => h y (List.mem_cons_of_mem _ hy))
    have h2 := h x (List.mem_cons_self ..)
    have e : tot (x :: l) = x.f2 + tot l := by simp [tot]
    rw [e, List.length_cons]
    omega
theorem wr1 {i : Nat} (h : i ≤ 1000) : wrap64 ((i : Int) + 1) = ((i + 1 : Nat) : Int) := by rw [w64 (by omega) (by omega)]; rfl

theorem trims_l4 {o : List S40} (ho : ∀ x ∈ o, x.f0 ∈ ws ∧ 1 ≤ x.f2 ∧ x.f2 ≤ 4) (hl : o.length ≤ 20) : ∀ d i : Nat, 8 - i = d → i ≤ 8 → Ev (fun k => billetlaw15_ShareTrims.l4 k true ws o (tot o) (s8 o i) (i : Int)) true := by
  have bd : ∀ i : Nat, 0 ≤ s8 o i ∧ s8 o i ≤ 20000 * i := by
    intro i
    induction i with
    | zero => simp [s8]
    | succ i ih =>
      have := cnt_bd (l := o) (w := rdOf ByteArray.empty ws (i : Int)) (n := ⟨#[]⟩) (fun x hx => by have := ho x hx; omega)
      simp only [s8]; omega
  intro d
  induction d with
  | zero =>
    intro i hd hi
    obtain rfl : i = 8 := by omega
    refine Ev.step (f := fun _ => some true) (fun k => ?_) (Ev.now _)
    simp only [billetlaw15_ShareTrims.l4]
    rw [if_neg (by omega), if_pos trivial, s8_tot (fun x hx => (ho x hx).1)]
    simp
  | succ d ih =>
    intro i hd hi
    have p1 : (i : Int) < 8 := by omega
    have p2 : 0 ≤ (i : Int) := by omega
    have p3 : (i : Int) < (ws.length : Int) := p1
    have ih' := ih (i + 1) (by omega) (by omega)
    have b1 := bd (i + 1)
    have hc := count_ev (l := o) (rdOf ByteArray.empty ws (i : Int)) ⟨#[]⟩ (fun x hx => by have := ho x hx; omega) (by omega)
    have b2 : -9223372036854775808 ≤ s8 o i + cnt o (rdOf ByteArray.empty ws (i : Int)) ⟨#[]⟩ := by
      have e : s8 o (i + 1) = s8 o i + cnt o (rdOf ByteArray.empty ws (i : Int)) ⟨#[]⟩ := rfl
      omega
    have b3 : s8 o i + cnt o (rdOf ByteArray.empty ws (i : Int)) ⟨#[]⟩ ≤ 9223372036854775807 := by
      have e : s8 o (i + 1) = s8 o i + cnt o (rdOf ByteArray.empty ws (i : Int)) ⟨#[]⟩ := rfl
      omega
    have e1 := wr1 (i := i) (by omega)
    refine Ev.step (f := fun k => (billetlaw15_count.f k o (rdOf ByteArray.empty ws (i : Int)) ⟨#[]⟩).bind fun q => billetlaw15_ShareTrims.l4 k true ws o (tot o) (wrap64 (s8 o i + q)) ((i + 1 : Nat) : Int)) (fun k => ?_) (Ev.bind hc ?_)
    · simp only [billetlaw15_ShareTrims.l4, e1]
      rw [if_pos p1, if_pos p2, if_pos p3]
    · rw [w64 b2 b3]
      exact ih'

theorem trims_l3 {o : List S40} (ho : ∀ x ∈ o, x.f0 ∈ ws ∧ 1 ≤ x.f2 ∧ x.f2 ≤ 4) (hl : o.length ≤ 20) : ∀ d i : Nat, o.length - i = d → i ≤ o.length → Ev (fun k => billetlaw15_ShareTrims.l3 k true ws o (tot (o.take i)) (i : Int)) true := by
  intro d
  induction d with
  | zero =>
    intro i hd hi
    obtain rfl : i = o.length := by omega
    refine Ev.step (fun k => ?_) (trims_l4 ho hl 8 0 (by omega) (by omega))
    simp only [billetlaw15_ShareTrims.l3]
    rw [if_neg (by omega), List.take_length]
    rfl
  | succ d ih =>
    intro i hd hi
    have p1 : (i : Int) < (o.length : Int) := by omega
    have p2 : 0 ≤ (i : Int) := by omega
    have hx := ho _ (rd_mem (show i < o.length by omega))
    have p3 : ¬ (rd_T40 o (i : Int)).f2 < 1 := by omega
    have ih' := ih (i + 1) (by omega) (by omega)
    have tb := tot_bd (l := o.take i) (fun x hx => ho x (List.mem_of_mem_take hx))
    rw [List.length_take] at tb
    have b2 : -9223372036854775808 ≤ tot (o.take i) + (rd_T40 o (i : Int)).f2 := by omega
    have b3 : tot (o.take i) + (rd_T40 o (i : Int)).f2 ≤ 9223372036854775807 := by omega
    rw [tot_take (by omega)] at ih'
    have e1 := wr1 (i := i) (by omega)
    refine Ev.step (fun k => ?_) ih'
    simp only [billetlaw15_ShareTrims.l3, e1]
    rw [if_pos p1, if_pos p2, if_neg p3, w64 b2 b3]

theorem trims_l2 {t l o : List S40} {most : List Int} {p : List Int} (ht : Cn.Good t) (hl : Cn.Raw l) (hp : ∀ i : Nat, i < t.length → 0 ≤ rd p i ∧ rd p i ≤ (rd_T40 t i).f2) (ho : o = outK t p t.length) (hos : ∀ x ∈ o, x.f0 ∈ ws ∧ 1 ≤ x.f2 ∧ x.f2 ≤ 4) (hol : o.length ≤ 20)
    (hm : most.length = 8) (a : Nat) (ha : a < 8) (hmn : rd most a = num (rd most a))
    (hk : sumW t (rdOf ByteArray.empty ws a) (fun i => mn (rd p i) (cnt l (rd_T40 t i).f0 (rd_T40 t i).f1)) t.length = mn (num (rd most a)) (sumW t (rdOf ByteArray.empty ws a) (fun i => mn (rd_T40 t i).f2 (cnt l (rd_T40 t i).f0 (rd_T40 t i).f1)) t.length))
    (he : Ev (fun k => billetlaw15_ShareTrims.l1 k true t l ws most o ((a + 1 : Nat) : Int)) true) : ∀ d j : Nat, t.length - j = d → j ≤ t.length →
    Ev (fun k => billetlaw15_ShareTrims.l2 k true t l ws most o (a : Int) (sumW t (rdOf ByteArray.empty ws a) (fun i => mn (rd p i) (cnt l (rd_T40 t i).f0 (rd_T40 t i).f1)) j) (sumW t (rdOf ByteArray.empty ws a) (fun i => mn (rd_T40 t i).f2 (cnt l (rd_T40 t i).f0 (rd_T40 t i).f1)) j) (j : Int)) true := by
  have q1 : 0 ≤ (a : Int) := by omega
  have q2 : (a : Int) < (ws.length : Int) := by have : (ws.length : Int) = 8 := rfl; omega
  have q3 : (a : Int) < (most.length : Int) := by omega
  intro d
  induction d with
  | zero =>
    intro j hd hj
    obtain rfl : j = t.length := by omega
    have e1 := wr1 (i := a) (by omega)
    refine Ev.step (fun k => ?_) he
    simp only [billetlaw15_ShareTrims.l2, e1]
    rw [if_neg (by omega), if_pos q1, if_pos q3, if_pos (by rw [hk, ← hmn])]
  | succ d ih =>
    intro j hd hj
    have hj' : j < t.length := by omega
    have p1 : (j : Int) < (t.length : Int) := by omega
    have p2 : 0 ≤ (j : Int) := by omega
    have hpj := hp j hj'
    have hx := ht.1.2 _ (rd_mem hj')
    have ht0 := ht.1.1
    have ih' := ih (j + 1) (by omega) (by omega)
    by_cases c : (rd_T40 t (j : Int)).f0 = rdOf ByteArray.empty ws a
    · have hc1 := count_ev (l := o) (rdOf ByteArray.empty ws a) (rd_T40 t (j : Int)).f1 (fun x hx => by have := hos x hx; omega) (by omega)
      have hat : cnt o (rdOf ByteArray.empty ws a) (rd_T40 t (j : Int)).f1 = rd p j := by
        have := cnt_at ht p hj' t.length (Nat.le_refl _) (fun i hi => (hp i hi).1)
        rw [if_pos hj', ← ho, c] at this
        exact this
      rw [hat] at hc1
      have hl0 := hl.1
      have hc2 := count_ev (l := l) (rdOf ByteArray.empty ws a) (rd_T40 t (j : Int)).f1 hl.small (by omega)
      have cb := cnt_bd (l := l) (w := rdOf ByteArray.empty ws a) (n := (rd_T40 t (j : Int)).f1) hl.small
      have s1 : 0 ≤ sumW t (rdOf ByteArray.empty ws a) (fun i => mn (rd p i) (cnt l (rd_T40 t i).f0 (rd_T40 t i).f1)) j := sumW_nn (fun i hi => by
        have := hp i (by omega); have := cnt_bd (l := l) (w := (rd_T40 t i).f0) (n := (rd_T40 t i).f1) hl.small; have := mn_le (rd p i) (cnt l (rd_T40 t i).f0 (rd_T40 t i).f1); omega)
      have s2 : sumW t (rdOf ByteArray.empty ws a) (fun i => mn (rd p i) (cnt l (rd_T40 t i).f0 (rd_T40 t i).f1)) j ≤ 4 * j := sumW_bd (by omega) (fun i hi => by
        have := hp i (by omega); have := ht.1.2 _ (rd_mem (show i < t.length by omega)); have := mn_le (rd p i) (cnt l (rd_T40 t i).f0 (rd_T40 t i).f1); omega)
      have s3 : 0 ≤ sumW t (rdOf ByteArray.empty ws a) (fun i => mn (rd_T40 t i).f2 (cnt l (rd_T40 t i).f0 (rd_T40 t i).f1)) j := sumW_nn (fun i hi => by
        have := ht.1.2 _ (rd_mem (show i < t.length by omega)); have := cnt_bd (l := l) (w := (rd_T40 t i).f0) (n := (rd_T40 t i).f1) hl.small; have := mn_le (rd_T40 t i).f2 (cnt l (rd_T40 t i).f0 (rd_T40 t i).f1); omega)
      have s4 : sumW t (rdOf ByteArray.empty ws a) (fun i => mn (rd_T40 t i).f2 (cnt l (rd_T40 t i).f0 (rd_T40 t i).f1)) j ≤ 4 * j := sumW_bd (by omega) (fun i hi => by
        have := ht.1.2 _ (rd_mem (show i < t.length by omega)); have := mn_le (rd_T40 t i).f2 (cnt l (rd_T40 t i).f0 (rd_T40 t i).f1); omega)
      simp only [sumW] at ih'
      rw [if_pos c, if_pos c, c] at ih'
      generalize sumW t (rdOf ByteArray.empty ws a) (fun i => mn (rd p i) (cnt l (rd_T40 t i).f0 (rd_T40 t i).f1)) j = S1 at *
      generalize sumW t (rdOf ByteArray.empty ws a) (fun i => mn (rd_T40 t i).f2 (cnt l (rd_T40 t i).f0 (rd_T40 t i).f1)) j = S2 at *
      generalize cnt l (rdOf ByteArray.empty ws a) (rd_T40 t (j : Int)).f1 = C at *
      have m1 := mn_le (rd p j) C
      have m2 := mn_le (rd_T40 t (j : Int)).f2 C
      have m3 : 0 ≤ mn (rd p j) C := by omega
      have m4 : 0 ≤ mn (rd_T40 t (j : Int)).f2 C := by omega
      have b1 : -9223372036854775808 ≤ S1 + mn (rd p j) C ∧ S1 + mn (rd p j) C ≤ 9223372036854775807 := by omega
      have b2 : -9223372036854775808 ≤ S2 + mn (rd_T40 t (j : Int)).f2 C ∧ S2 + mn (rd_T40 t (j : Int)).f2 C ≤ 9223372036854775807 := by omega
      have nb : ¬ rd p j > (rd_T40 t (j : Int)).f2 := by omega
      have e1 := wr1 (i := j) (by omega)
      refine Ev.step (f := fun k => (billetlaw15_count.f k o (rdOf ByteArray.empty ws a) (rd_T40 t (j : Int)).f1).bind fun t437 => (if t437 > (rd_T40 t (j : Int)).f2 then (some false) else ((billetlaw15_count.f k l (rdOf ByteArray.empty ws a) (rd_T40 t (j : Int)).f1).bind fun t441 => ((billetlaw15_count.f k l (rdOf ByteArray.empty ws a) (rd_T40 t (j : Int)).f1).bind fun t445 => (billetlaw15_ShareTrims.l2 k true t l ws most o a (wrap64 (S1 + (mn t437 t441))) (wrap64 (S2 + (mn (rd_T40 t (j : Int)).f2 t445))) ((j + 1 : Nat) : Int)))))) (fun k => ?_) (Ev.bind hc1 (Ev.congr (fun k => if_neg nb) (Ev.bind hc2 (Ev.bind hc2 ?_))))
      · simp only [billetlaw15_ShareTrims.l2, e1]
        rw [if_pos p1, if_pos p2, if_pos q1, if_pos q2, if_pos (by rw [c])]
      · rw [w64 b1.1 b1.2, w64 b2.1 b2.2]
        exact ih'
    · simp only [sumW] at ih'
      rw [if_neg c, if_neg c, Int.add_zero, Int.add_zero] at ih'
      have e1 := wr1 (i := j) (by omega)
      refine Ev.step (fun k => ?_) ih'
      simp only [billetlaw15_ShareTrims.l2, e1]
      rw [if_pos p1, if_pos p2, if_pos q1, if_pos q2, if_neg (fun e => c (toList_inj.1 e))]

theorem trims_j1 {t l : List S40} {most : List Int} (ht : Cn.Good t) (hl : Cn.Raw l) (hm : most.length = 8) (hb : ∀ a : Nat, 0 ≤ rd most a ∧ rd most a ≤ 1000) :
    Ev (fun k => billetlaw15_ShareTrims.j1 k true t l ws most) true := by
  obtain ⟨p, h1, h2, h3, h4⟩ := trim_ev ht hl hm
  have ht0 := ht.1.1
  have hos := out_mem ht.1 h1 t.length (Nat.le_refl _)
  have hol : (outK t p t.length).length ≤ 20 := Nat.le_trans (outK_len t p t.length) ht0
  have hall := fun w : ByteArray => cnt_all t w
  have hout := fun w : ByteArray => cnt_out t p w t.length (fun i hi => (h1 i hi).1)
  generalize ho : outK t p t.length = o at *
  have main : ∀ d i : Nat, 8 - i = d → i ≤ 8 → Ev (fun k => billetlaw15_ShareTrims.l1 k true t l ws most o (i : Int)) true := by
    intro d
    induction d with
    | zero =>
      intro i hd hi
      obtain rfl : i = 8 := by omega
      refine Ev.step (fun k => ?_) (trims_l3 hos hol o.length 0 (by omega) (by omega))
      simp only [billetlaw15_ShareTrims.l1]
      rw [if_neg (by omega)]
      rfl
    | succ d ih =>
      intro i hd hi
      have p1 : (i : Int) < 8 := by omega
      have p2 : 0 ≤ (i : Int) := by omega
      have p3 : (i : Int) < (ws.length : Int) := p1
      have p4 : (i : Int) < (most.length : Int) := by omega
      have ih' := ih (i + 1) (by omega) (by omega)
      have hn : rd most i = num (rd most i) := (num_in (hb i).1 (hb i).2).symm
      have hc1 := count_ev (l := o) (rdOf ByteArray.empty ws i) ⟨#[]⟩ (fun x hx => by have := hos x hx; omega) (by omega)
      have hc2 := count_ev (l := t) (rdOf ByteArray.empty ws i) ⟨#[]⟩ ht.1.small (by omega)
      have e : cnt o (rdOf ByteArray.empty ws i) ⟨#[]⟩ = mn (rd most i) (cnt t (rdOf ByteArray.empty ws i) ⟨#[]⟩) := by
        rw [hout, h2 i (by omega), hall, ← hn]
      have l2 := trims_l2 ht hl h1 ho.symm hos hol hm i (by omega) hn (h3 i (by omega)) ih' t.length 0 (by omega) (by omega)
      refine Ev.step (f := fun k => (billetlaw15_count.f k o (rdOf ByteArray.empty ws i) ⟨#[]⟩).bind fun q => (billetlaw15_count.f k t (rdOf ByteArray.empty ws i) ⟨#[]⟩).bind fun s => if q = mn (rd most i) s then billetlaw15_ShareTrims.l2 k true t l ws most o i 0 0 0 else some false) (fun k => ?_) (Ev.bind hc1 (Ev.bind hc2 (Ev.congr (fun k => if_pos e) l2)))
      simp only [billetlaw15_ShareTrims.l1]
      rw [if_pos p1, if_pos p2, if_pos p3]
      simp only [if_pos p4]
  refine Ev.step (f := fun k => billetlaw15_ShareTrims.l1 k true t l ws most o ((0 : Nat) : Int)) (fun k => ?_) (main 8 0 (by omega) (by omega))
  simp only [billetlaw15_ShareTrims.j1, h4, Option.bind_some]
  rfl

theorem trims_l0 {t l : List S40} {al : List Int} (ht : Cn.Good t) (hl : Cn.Raw l) (hw : ∀ x ∈ al, (Lit.int .i64 x).wf = true) : ∀ (d i : Nat) (most : List Int), 8 - i = d → i ≤ 8 → most.length = 8 → (∀ a : Nat, 0 ≤ rd most a ∧ rd most a ≤ 1000) →
    Ev (fun k => billetlaw15_ShareTrims.l0 k al true t l ws most (i : Int)) true := by
  intro d
  induction d with
  | zero =>
    intro i most hd hi hm hb
    refine Ev.step (fun k => ?_) (trims_j1 ht hl hm hb)
    simp only [billetlaw15_ShareTrims.l0]
    rw [if_neg (by omega)]
  | succ d ih =>
    intro i most hd hi hm hb
    by_cases c : (i : Int) < (al.length : Int)
    · obtain ⟨r, hr, r0, r1⟩ := pick_in (rd al (i : Int)) 9 (by omega) (rd_wf hw _)
      have p1 : (i : Int) < 8 := by omega
      have p2 : 0 ≤ (i : Int) := by omega
      have p4 : (i : Int) < (most.length : Int) := by omega
      have ih' := ih (i + 1) (most.set i r) (by omega) (by omega) (by simp [hm]) (fun a => by
        rw [rd_set (by omega)]
        split
        · omega
        · exact hb a)
      have e1 := wr1 (i := i) (by omega)
      refine Ev.step (fun k => ?_) ih'
      simp only [billetlaw15_ShareTrims.l0, hr, e1, Option.bind_some, Int.toNat_natCast]
      rw [if_pos p1, if_pos c, if_pos p2, if_pos p4]
    · have p1 : (i : Int) < 8 := by omega
      refine Ev.step (fun k => ?_) (trims_j1 ht hl hm hb)
      simp only [billetlaw15_ShareTrims.l0]
      rw [if_pos p1, if_neg c]

theorem ShareTrims : billetlaw15_ShareTrims.Pure := by
  intro raw rawl al _ _ hw _ _ hwl _ _ hwa
  refine Ev.rounds (r := true) ?_
  obtain ⟨b, hb, heb⟩ := binds_ev raw hw
  obtain ⟨t, ht, het⟩ := once_ev hb
  obtain ⟨c, hc, hec⟩ := binds_ev rawl hwl
  obtain ⟨l, hl, hel⟩ := once_ev hc
  unfold billetlaw15_ShareTrims.f
  refine Ev.bind awake_ev (Ev.bind heb (Ev.bind het (Ev.bind hec (Ev.bind hel ?_))))
  refine Ev.congr (f := fun k => billetlaw15_ShareTrims.l0 k al true t l ws (List.replicate 8 0) ((0 : Nat) : Int)) (fun k => ?_) (trims_l0 ht hl.1 hwa 8 0 _ (by omega) (by omega) (by simp) (fun a => ?_))
  · rw [if_pos (by decide)]; rfl
  · have : rd (List.replicate 8 0) (a : Int) = 0 := by
      unfold rd; rw [List.getD_eq_getElem?_getD, List.getElem?_replicate]; split <;> rfl
    rw [this]; omega
end Go.Proofs.Ytpdgdogcfmfakaa.Pure
