/- Counting in a placement. -/
import Derived.Test.YtpdgdogcfmfakaaTr
import Derived.Test.YtpdgdogcfmfakaaPx17
import Derived.Test.YtpdgdogcfmfakaaPx18
import Derived.Test.YtpdgdogcfmfakaaPx20
namespace Go.Proofs.Ytpdgdogcfmfakaa.Cn
open Go.RowKit Go.Proofs.Ytpdgdogcfmfakaa.P Go.Proofs.YtpdgdogcfmfakaaW.PrintWords Go.Proofs.YtpdgdogcfmfakaaW.PrintLast
open Go.Proofs.Ytpdgdogcfmfakaa.Sh Go.Proofs.Ytpdgdogcfmfakaa.Tr

theorem loop_eq (b : ByteArray) (d : Nat) : ∀ (i : Nat) (acc : List UInt8), b.size - i = d → ByteArray.toList.loop b i acc = acc.reverse ++ b.data.toList.drop i := by
  induction d with
  | zero =>
    intro i acc h
    rw [ByteArray.toList.loop]
    rw [if_neg (by omega), List.drop_eq_nil_of_le (by have : b.data.toList.length = b.size := data_length b; omega), List.append_nil]
  | succ d ih =>
    intro i acc h
    have hl : b.data.toList.length = b.size := data_length b
    rw [ByteArray.toList.loop]
    rw [if_pos (by omega), ih (i + 1) _ (by omega), List.drop_eq_getElem_cons (i := i) (by omega)]
    have e : b.get! i = b.data.toList[i]'(by omega) := by
      show b.data[i]! = _
      rw [getElem!_pos b.data i (by have : b.data.size = b.size := rfl; omega)]
      simp
    rw [e]
    simp
theorem toList_data (b : ByteArray) : b.toList = b.data.toList := by
  rw [ByteArray.toList, loop_eq b b.size 0 [] (by omega)]; simp
theorem toList_inj {a b : ByteArray} : a.toList = b.toList ↔ a = b := by
  constructor
  · intro h
    rw [toList_data, toList_data] at h
    cases a; cases b
    simp at h
    rw [h]
  · intro h; rw [h]
theorem toList_nil {a : ByteArray} : a.toList = ([] : List UInt8) ↔ a = ⟨#[]⟩ := by
  have : (⟨#[]⟩ : ByteArray).toList = ([] : List UInt8) := by rw [toList_data]
  exact ⟨fun h => toList_inj.1 (h.trans this.symm), fun h => by rw [h, this]⟩

/-- What one bind counts. -/
def val (w n : ByteArray) (x : S40) : Int := if x.f0 = w then (if n = ⟨#[]⟩ then x.f2 else if x.f1 = n then x.f2 else 0) else 0
def cnt (l : List S40) (w n : ByteArray) : Int := (l.map (val w n)).sum
theorem cnt_nil (w n : ByteArray) : cnt [] w n = 0 := rfl
theorem cnt_append (l : List S40) (x : S40) (w n : ByteArray) : cnt (l ++ [x]) w n = cnt l w n + val w n x := by
  simp [cnt]
theorem val_bd {w n : ByteArray} {x : S40} {B : Int} (hB : 0 ≤ B) (h0 : 0 ≤ x.f2) (h1 : x.f2 ≤ B) : 0 ≤ val w n x ∧ val w n x ≤ B := by
  unfold val; split <;> (try split) <;> (try split) <;> omega
theorem cnt_bd {l : List S40} {w n : ByteArray} (h : ∀ x ∈ l, 0 ≤ x.f2 ∧ x.f2 ≤ 1000) : 0 ≤ cnt l w n ∧ cnt l w n ≤ 1000 * l.length := by
  induction l with
  | nil => simp [cnt]
  | cons x l ih =>
    have h1 := ih (fun y hy => h y (List.mem_cons_of_mem _ hy))
    have h2 := h x (List.mem_cons_self ..)
    have h3 := val_bd (w := w) (n := n) (B := 1000) (by omega) h2.1 h2.2
    have e : cnt (x :: l) w n = val w n x + cnt l w n := by simp [cnt]
    rw [e, List.length_cons]
    omega
theorem rd_get {l : List S40} {i : Nat} (hi : i < l.length) : rd_T40 l (i : Int) = l[i] := by
  unfold rd_T40; rw [Int.toNat_natCast, List.getD_eq_getElem?_getD, List.getElem?_eq_getElem hi]; rfl
theorem rd_mem {l : List S40} {i : Nat} (hi : i < l.length) : rd_T40 l (i : Int) ∈ l := by rw [rd_get hi]; exact List.getElem_mem hi
theorem cnt_take {l : List S40} {w n : ByteArray} {i : Nat} (hi : i < l.length) : cnt (l.take (i + 1)) w n = cnt (l.take i) w n + val w n (rd_T40 l (i : Int)) := by
  rw [List.take_succ_eq_append_getElem hi, cnt_append, rd_get hi]

theorem count_ev {l : List S40} (w n : ByteArray) (h : ∀ x ∈ l, 0 ≤ x.f2 ∧ x.f2 ≤ 1000) (hl : l.length ≤ 1000) : Ev (fun k => billetlaw15_count.f k l w n) (cnt l w n) := by
  have main : ∀ d i : Nat, l.length - i = d → i ≤ l.length → Ev (fun k => billetlaw15_count.l0 k l w n (cnt (l.take i) w n) (i : Int)) (cnt l w n) := by
    intro d
    induction d with
    | zero =>
      intro i hd hi
      obtain rfl : i = l.length := by omega
      refine Ev.step (f := fun _ => some (cnt l w n)) (fun k => ?_) (Ev.now _)
      simp only [billetlaw15_count.l0]
      rw [if_neg (by omega), List.take_length]
    | succ d ih =>
      intro i hd hi
      have hi' : i < l.length := by omega
      have hx := h _ (rd_mem hi')
      have hv := val_bd (w := w) (n := n) (B := 1000) (by omega) hx.1 hx.2
      have hc := cnt_bd (l := l.take i) (w := w) (n := n) (fun x hx => h x (List.mem_of_mem_take hx))
      rw [List.length_take] at hc
      have p1 : (i : Int) < (l.length : Int) := by omega
      have p2 : 0 ≤ (i : Int) := by omega
      have b1 : -9223372036854775808 ≤ cnt (l.take i) w n + (rd_T40 l i).f2 := by omega
      have b2 : cnt (l.take i) w n + (rd_T40 l i).f2 ≤ 9223372036854775807 := by omega
      have ih' := ih (i + 1) (by omega) (by omega)
      have e1 : wrap64 ((i : Int) + 1) = ((i + 1 : Nat) : Int) := by rw [w64 (by omega) (by omega)]; omega
      have e2 : wrap64 (cnt (l.take i) w n + (rd_T40 l i).f2) = cnt (l.take i) w n + (rd_T40 l i).f2 := w64 b1 b2
      refine Ev.step (f := fun k => billetlaw15_count.l0 k l w n (cnt (l.take (i + 1)) w n) ((i + 1 : Nat) : Int)) (fun k => ?_) ih'
      rw [cnt_take hi']
      simp only [billetlaw15_count.l0, e1, e2, toList_inj, toList_nil]
      rw [if_pos p1, if_pos p2]
      unfold val
      by_cases c1 : (rd_T40 l i).f0 = w
      · rw [if_pos c1, if_pos c1]
        by_cases c2 : n = ⟨#[]⟩
        · rw [if_pos c2, if_pos c2]
        · rw [if_neg c2, if_neg c2]
          by_cases c3 : (rd_T40 l i).f1 = n
          · rw [if_pos c3, if_pos c3]
          · rw [if_neg c3, if_neg c3, Int.add_zero]
      · rw [if_neg c1, if_neg c1, Int.add_zero]
  have := main l.length 0 (by omega) (by omega)
  simpa [billetlaw15_count.f, cnt] using this

def ws : List ByteArray := [⟨#[119, 97]⟩, ⟨#[119, 98]⟩, ⟨#[119, 99]⟩, ⟨#[119, 100]⟩, ⟨#[119, 101]⟩, ⟨#[119, 102]⟩, ⟨#[119, 103]⟩, ⟨#[119, 104]⟩]
def ns : List ByteArray := [⟨#[110, 97]⟩, ⟨#[110, 98]⟩, ⟨#[110, 99]⟩, ⟨#[110, 100]⟩, ⟨#[110, 101]⟩, ⟨#[110, 102]⟩, ⟨#[110, 103]⟩, ⟨#[110, 104]⟩]
/-- A raw placement. -/
def Raw (t : List S40) : Prop := t.length ≤ 20 ∧ ∀ x ∈ t, x.f0 ∈ ws ∧ x.f1 ∈ ns ∧ 0 ≤ x.f2 ∧ x.f2 ≤ 4
/-- Each pair once, and at least one of it. -/
def Good (t : List S40) : Prop := Raw t ∧ (∀ x ∈ t, 1 ≤ x.f2) ∧ (t.map fun x => (x.f0, x.f1)).Nodup
theorem Raw.small {t : List S40} (h : Raw t) : ∀ x ∈ t, 0 ≤ x.f2 ∧ x.f2 ≤ 1000 := fun x hx => by have := h.2 x hx; omega
theorem ns_ne {n : ByteArray} (h : n ∈ ns) : n ≠ ⟨#[]⟩ := by
  intro e; subst e
  simp [ns] at h

theorem pick08_in (c : Int) (hc : (Lit.int .i64 c).wf = true) : ∃ r, billetlaw08_pick.f c 1048576 = some r ∧ 0 ≤ r ∧ r < 1048576 := pick_in c 1048576 (by omega) hc

theorem binds_ev (raw : List Int) (hw : ∀ x ∈ raw, (Lit.int .i64 x).wf = true) : ∃ t, Raw t ∧ Ev (fun k => billetlaw08_Binds.f k raw) t := by
  have names : ∀ r : Int, 0 ≤ r → r < 8 → ∀ c : UInt8, (⟨#[c]⟩ : ByteArray) ++ rdOf ByteArray.empty ([(⟨#[97]⟩ : ByteArray), (⟨#[98]⟩ : ByteArray), (⟨#[99]⟩ : ByteArray), (⟨#[100]⟩ : ByteArray), (⟨#[101]⟩ : ByteArray), (⟨#[102]⟩ : ByteArray), (⟨#[103]⟩ : ByteArray), (⟨#[104]⟩ : ByteArray)] : List ByteArray) r ∈ ([⟨#[c, 97]⟩, ⟨#[c, 98]⟩, ⟨#[c, 99]⟩, ⟨#[c, 100]⟩, ⟨#[c, 101]⟩, ⟨#[c, 102]⟩, ⟨#[c, 103]⟩, ⟨#[c, 104]⟩] : List ByteArray) ∧
      (rdOf ByteArray.empty ([(⟨#[97]⟩ : ByteArray), (⟨#[98]⟩ : ByteArray), (⟨#[99]⟩ : ByteArray), (⟨#[100]⟩ : ByteArray), (⟨#[101]⟩ : ByteArray), (⟨#[102]⟩ : ByteArray), (⟨#[103]⟩ : ByteArray), (⟨#[104]⟩ : ByteArray)] : List ByteArray) r).size = 1 := by
    intro r h0 h1 c
    obtain rfl | rfl | rfl | rfl | rfl | rfl | rfl | rfl : r = 0 ∨ r = 1 ∨ r = 2 ∨ r = 3 ∨ r = 4 ∨ r = 5 ∨ r = 6 ∨ r = 7 := by omega
    · exact ⟨.head _, rfl⟩
    · exact ⟨.tail _ (.head _), rfl⟩
    · exact ⟨.tail _ (.tail _ (.head _)), rfl⟩
    · exact ⟨.tail _ (.tail _ (.tail _ (.head _))), rfl⟩
    · exact ⟨.tail _ (.tail _ (.tail _ (.tail _ (.head _)))), rfl⟩
    · exact ⟨.tail _ (.tail _ (.tail _ (.tail _ (.tail _ (.head _))))), rfl⟩
    · exact ⟨.tail _ (.tail _ (.tail _ (.tail _ (.tail _ (.tail _ (.head _)))))), rfl⟩
    · exact ⟨.tail _ (.tail _ (.tail _ (.tail _ (.tail _ (.tail _ (.tail _ (.head _))))))), rfl⟩
  unfold billetlaw08_Binds.f
  generalize hnm : ([(⟨#[97]⟩ : ByteArray), (⟨#[98]⟩ : ByteArray), (⟨#[99]⟩ : ByteArray), (⟨#[100]⟩ : ByteArray), (⟨#[101]⟩ : ByteArray), (⟨#[102]⟩ : ByteArray), (⟨#[103]⟩ : ByteArray), (⟨#[104]⟩ : ByteArray)] : List ByteArray) = nm at *
  have hn8 : nm.length = 8 := by rw [← hnm]; rfl
  have main : nm.length = 8 → ∀ (d i : Nat) (t : List S40), 20 - i = d → i ≤ 20 → t.length ≤ i → (∀ x ∈ t, x.f0 ∈ ws ∧ x.f1 ∈ ns ∧ 0 ≤ x.f2 ∧ x.f2 ≤ 4) → ∃ t', Raw t' ∧ Ev (fun k => billetlaw08_Binds.l0 k raw t nm (i : Int)) t' := by
    intro hn d
    induction d with
    | zero =>
      intro i t hd hi ht hx
      refine ⟨t, ⟨by omega, hx⟩, Ev.step (f := fun _ => some t) (fun k => ?_) (Ev.now _)⟩
      have p : ¬ (i : Int) < 20 := by omega
      simp only [billetlaw08_Binds.l0]
      rw [if_neg p]; split <;> rfl
    | succ d ih =>
      intro i t hd hi ht hx
      by_cases c : (i : Int) < (raw.length : Int)
      · obtain ⟨r, hr, r0, r1⟩ := pick08_in (rd raw (i : Int)) (rd_wf hw _)
        have p2 : (i : Int) < 20 := by omega
        have p3 : 0 ≤ (i : Int) := by omega
        have q0 : 0 ≤ Int.tmod r 8 := Int.tmod_nonneg _ r0
        have q1 : Int.tmod r 8 < 8 := Int.tmod_lt_of_pos _ (by omega)
        have d0 : 0 ≤ Int.tdiv r 8 ∧ Int.tdiv r 8 ≤ 1048576 := by rw [Int.tdiv_eq_ediv_of_nonneg r0]; omega
        have d1 : 0 ≤ Int.tdiv r 64 ∧ Int.tdiv r 64 ≤ 1048576 := by rw [Int.tdiv_eq_ediv_of_nonneg r0]; omega
        have s0 : 0 ≤ Int.tmod (Int.tdiv r 8) 8 := Int.tmod_nonneg _ d0.1
        have s1 : Int.tmod (Int.tdiv r 8) 8 < 8 := Int.tmod_lt_of_pos _ (by omega)
        have g0 : 0 ≤ Int.tmod (Int.tdiv r 64) 5 := Int.tmod_nonneg _ d1.1
        have g1 : Int.tmod (Int.tdiv r 64) 5 < 5 := Int.tmod_lt_of_pos _ (by omega)
        have n1 := names _ q0 q1 119
        have n2 := names _ s0 s1 110
        obtain ⟨t', ht', he'⟩ := ih (i + 1) (t ++ [⟨(⟨#[119]⟩ : ByteArray) ++ rdOf ByteArray.empty nm (Int.tmod r 8), (⟨#[110]⟩ : ByteArray) ++ rdOf ByteArray.empty nm (Int.tmod (Int.tdiv r 8) 8), Int.tmod (Int.tdiv r 64) 5⟩]) (by omega) (by omega) (by simp; omega) (fun x hxm => by
          rcases List.mem_append.1 hxm with h | h
          · exact hx x h
          · rw [List.mem_singleton] at h
            subst h
            exact ⟨n1.1, n2.1, g0, Int.le_of_lt_add_one g1⟩)
        refine ⟨t', ht', Ev.step (fun k => ?_) he'⟩
        have z1 : Int.tmod r 8 < (nm.length : Int) := by omega
        have z2 : Int.tmod (Int.tdiv r 8) 8 < (nm.length : Int) := by omega
        have z3 : 1 + (rdOf ByteArray.empty nm (Int.tmod r 8)).size ≤ 9223372036854775807 := by omega
        have z4 : 1 + (rdOf ByteArray.empty nm (Int.tmod (Int.tdiv r 8) 8)).size ≤ 9223372036854775807 := by omega
        have z5 : t.length < 3518437208883 := by omega
        have b8 : -9223372036854775808 ≤ Int.tdiv r 8 ∧ Int.tdiv r 8 ≤ 9223372036854775807 := ⟨Int.le_trans (by decide) d0.1, Int.le_trans d0.2 (by decide)⟩
        have b64 : -9223372036854775808 ≤ Int.tdiv r 64 ∧ Int.tdiv r 64 ≤ 9223372036854775807 := ⟨Int.le_trans (by decide) d1.1, Int.le_trans d1.2 (by decide)⟩
        have bi : -9223372036854775808 ≤ (i : Int) + 1 ∧ (i : Int) + 1 ≤ 9223372036854775807 := by omega
        have e1 : wrap64 ((i : Int) + 1) = ((i + 1 : Nat) : Int) := by rw [w64 bi.1 bi.2]; rfl
        have f0 : wrap64 (Int.tdiv r 8) = Int.tdiv r 8 := w64 b8.1 b8.2
        have f1 : wrap64 (Int.tdiv r 64) = Int.tdiv r 64 := w64 b64.1 b64.2
        simp only [billetlaw08_Binds.l0, hr, f0, f1, e1, Option.bind_some]
        rw [if_pos c, if_pos p2, if_pos p3, if_pos q0, if_pos z1, if_pos z3, if_pos s0, if_pos z2, if_pos z4, if_pos z5]
      · refine ⟨t, ⟨by omega, hx⟩, Ev.step (f := fun _ => some t) (fun k => ?_) (Ev.now _)⟩
        simp only [billetlaw08_Binds.l0]
        rw [if_neg c]
  exact main hn8 20 0 [] (by omega) (by omega) (by simp) (by simp)

theorem cnt_mem {l : List S40} {x : S40} (hx : x ∈ l) (h1 : ∀ y ∈ l, 1 ≤ y.f2) : 1 ≤ cnt l x.f0 x.f1 := by
  induction l with
  | nil => simp at hx
  | cons y l ih =>
    have e : cnt (y :: l) x.f0 x.f1 = val x.f0 x.f1 y + cnt l x.f0 x.f1 := by simp [cnt]
    rw [e]
    have hy := h1 y (List.mem_cons_self ..)
    have nn : 0 ≤ cnt l x.f0 x.f1 := by
      have : ∀ m : List S40, (∀ z ∈ m, 1 ≤ z.f2) → 0 ≤ cnt m x.f0 x.f1 := by
        intro m
        induction m with
        | nil => intro _; simp [cnt]
        | cons z m ihm =>
          intro hz
          have h2 := ihm (fun u hu => hz u (List.mem_cons_of_mem _ hu))
          have h3 := hz z (List.mem_cons_self ..)
          have h4 := val_bd (w := x.f0) (n := x.f1) (x := z) (B := z.f2) (by omega) (by omega) (Int.le_refl _)
          have e : cnt (z :: m) x.f0 x.f1 = val x.f0 x.f1 z + cnt m x.f0 x.f1 := by simp [cnt]
          rw [e]; omega
      exact this l (fun z hz => h1 z (List.mem_cons_of_mem _ hz))
    rcases List.mem_cons.1 hx with h | h
    · subst h
      have : val x.f0 x.f1 x = x.f2 := by unfold val; rw [if_pos rfl]; split <;> simp
      omega
    · have h4 := val_bd (w := x.f0) (n := x.f1) (x := y) (B := y.f2) (by omega) (by omega) (Int.le_refl _)
      have := ih h (fun z hz => h1 z (List.mem_cons_of_mem _ hz))
      omega

theorem once_ev {t : List S40} (ht : Raw t) : ∃ o, Good o ∧ Ev (fun k => billetlaw15_once.f k t) o := by
  have main : ∀ (d i : Nat) (o : List S40), t.length - i = d → i ≤ t.length → o.length ≤ i → Good o → ∃ o', Good o' ∧ Ev (fun k => billetlaw15_once.l0 k t o (i : Int)) o' := by
    intro d
    induction d with
    | zero =>
      intro i o hd hi ho hg
      refine ⟨o, hg, Ev.step (f := fun _ => some o) (fun k => ?_) (Ev.now _)⟩
      have p : ¬ (i : Int) < (t.length : Int) := by omega
      simp only [billetlaw15_once.l0]
      rw [if_neg p]
    | succ d ih =>
      intro i o hd hi ho hg
      have hi' : i < t.length := by omega
      have ht1 := ht.1
      have p1 : (i : Int) < (t.length : Int) := by omega
      have p2 : 0 ≤ (i : Int) := by omega
      have p3 : o.length < 3518437208883 := by omega
      have hx := ht.2 _ (rd_mem hi')
      have bi : -9223372036854775808 ≤ (i : Int) + 1 ∧ (i : Int) + 1 ≤ 9223372036854775807 := by omega
      have e1 : wrap64 ((i : Int) + 1) = ((i + 1 : Nat) : Int) := by rw [w64 bi.1 bi.2]; rfl
      generalize hxe : rd_T40 t (i : Int) = x at *
      by_cases c : x.f2 > 0
      · have hc := count_ev (l := o) x.f0 x.f1 (hg.1.small) (Nat.le_trans hg.1.1 (by decide))
        by_cases c2 : cnt o x.f0 x.f1 = 0
        · have hg' : Good (o ++ [x]) := by
            refine ⟨⟨?_, ?_⟩, ?_, ?_⟩
            · have : t.length ≤ 20 := ht1
              simp; clear e1; omega
            · intro y hy
              rcases List.mem_append.1 hy with h | h
              · exact hg.1.2 y h
              · rw [List.mem_singleton] at h; subst h; exact hx
            · intro y hy
              rcases List.mem_append.1 hy with h | h
              · exact hg.2.1 y h
              · rw [List.mem_singleton] at h; subst h; exact c
            · rw [List.map_append, List.nodup_append]
              refine ⟨hg.2.2, by simp, ?_⟩
              intro a ha b hb hab
              rw [List.map_singleton, List.mem_singleton] at hb
              obtain ⟨y, hy, rfl⟩ := List.mem_map.1 ha
              rw [hb] at hab
              injection hab with h1 h2
              have := cnt_mem hy hg.2.1
              rw [h1, h2, c2] at this
              exact absurd this (by decide)
          obtain ⟨o', ho', he'⟩ := ih (i + 1) (o ++ [x]) (by clear e1; omega) hi' (by simp; clear e1; omega) hg'
          refine ⟨o', ho', Ev.step (f := fun k => (billetlaw15_count.f k o x.f0 x.f1).bind fun q => if q = 0 then billetlaw15_once.l0 k t (o ++ [x]) ((i + 1 : Nat) : Int) else billetlaw15_once.l0 k t o ((i + 1 : Nat) : Int)) (fun k => ?_) (Ev.bind hc ?_)⟩
          · simp only [billetlaw15_once.l0, hxe, e1]
            rw [if_pos p1, if_pos p2, if_pos c]
            simp only [if_pos p3]
          · exact Ev.congr (fun k => if_pos c2) he'
        · obtain ⟨o', ho', he'⟩ := ih (i + 1) o (by clear e1; omega) hi' (by clear e1; omega) hg
          refine ⟨o', ho', Ev.step (f := fun k => (billetlaw15_count.f k o x.f0 x.f1).bind fun q => if q = 0 then billetlaw15_once.l0 k t (o ++ [x]) ((i + 1 : Nat) : Int) else billetlaw15_once.l0 k t o ((i + 1 : Nat) : Int)) (fun k => ?_) (Ev.bind hc ?_)⟩
          · simp only [billetlaw15_once.l0, hxe, e1]
            rw [if_pos p1, if_pos p2, if_pos c]
            simp only [if_pos p3]
          · exact Ev.congr (fun k => if_neg c2) he'
      · obtain ⟨o', ho', he'⟩ := ih (i + 1) o (by clear e1; omega) hi' (by clear e1; omega) hg
        refine ⟨o', ho', Ev.step (fun k => ?_) he'⟩
        simp only [billetlaw15_once.l0, hxe, e1]
        rw [if_pos p1, if_pos p2, if_neg c]
  exact main t.length 0 [] (by omega) (by omega) (by simp) ⟨⟨by simp, by simp⟩, by simp, by simp⟩
end Go.Proofs.Ytpdgdogcfmfakaa.Cn
