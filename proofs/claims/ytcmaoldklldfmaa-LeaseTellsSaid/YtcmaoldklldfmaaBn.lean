/- Binds of raw numbers; Held in plain terms. -/
import Derived.Test.YtcmaoldklldfmaaPx20
import Derived.Test.YtcmaoldklldfmaaBw
namespace Go.Proofs.Ytcmaoldklldfmaa.P
open Go.RowKit Go.Proofs.YtcmaoldklldfmaaW.PrintWords Go.Proofs.YtcmaoldklldfmaaW.PrintLast Go.Proofs.YtcmaoldklldfmaaW.PrintMore
set_option linter.unusedSimpArgs false
set_option linter.unusedVariables false
theorem w64 {n : Int} (h0 : -9223372036854775808 ≤ n) (h1 : n ≤ 9223372036854775807) : wrap64 n = n := by unfold wrap64; omega
theorem pick_in (c n : Int) (hn : 1 ≤ n) (hc : (Lit.int .i64 c).wf = true) : ∃ r, billetlaw08_pick.f c n = some r ∧ 0 ≤ r ∧ r < n := by
  have hb : -9223372036854775808 ≤ c ∧ c ≤ 9223372036854775807 := by simp only [Lit.wf, Bool.and_eq_true, decide_eq_true_eq] at hc; exact hc
  unfold billetlaw08_pick.f
  by_cases h : c < 0
  · rw [if_pos h, if_neg (by omega), w64 (n := c + 1) (by omega) (by omega), w64 (by omega) (by omega)]
    exact ⟨_, rfl, Int.tmod_nonneg _ (by omega), Int.tmod_lt_of_pos _ (by omega)⟩
  · rw [if_neg h, if_neg (by omega)]
    exact ⟨_, rfl, Int.tmod_nonneg _ (by omega), Int.tmod_lt_of_pos _ (by omega)⟩

theorem rd_wf {l : List Int} (h : ∀ x ∈ l, (Lit.int .i64 x).wf = true) (i : Int) : (Lit.int .i64 (rd l i)).wf = true := by
  unfold rd
  rw [List.getD_eq_getElem?_getD]
  by_cases hi : i.toNat < l.length
  · rw [List.getElem?_eq_getElem hi]; exact h _ (List.getElem_mem hi)
  · rw [List.getElem?_eq_none (by omega)]; decide

def ws : List ByteArray := [⟨#[119, 97]⟩, ⟨#[119, 98]⟩, ⟨#[119, 99]⟩, ⟨#[119, 100]⟩, ⟨#[119, 101]⟩, ⟨#[119, 102]⟩, ⟨#[119, 103]⟩, ⟨#[119, 104]⟩]
def ns : List ByteArray := [⟨#[110, 97]⟩, ⟨#[110, 98]⟩, ⟨#[110, 99]⟩, ⟨#[110, 100]⟩, ⟨#[110, 101]⟩, ⟨#[110, 102]⟩, ⟨#[110, 103]⟩, ⟨#[110, 104]⟩]
/-- A raw placement. -/
def Raw (t : List S42) : Prop := t.length ≤ 20 ∧ ∀ x ∈ t, x.f0 ∈ ws ∧ x.f1 ∈ ns ∧ 0 ≤ x.f2 ∧ x.f2 ≤ 4
theorem pick08_in (c : Int) (hc : (Lit.int .i64 c).wf = true) : ∃ r, billetlaw08_pick.f c 1048576 = some r ∧ 0 ≤ r ∧ r < 1048576 := pick_in c 1048576 (by omega) hc

theorem binds_ev (raw : List Int) (hw : ∀ x ∈ raw, (Lit.int .i64 x).wf = true) : ∃ t, Raw t ∧ Ev (fun k => billetlaw08_Binds.f k raw) t := by
  have names : ∀ r : Int, 0 ≤ r → r < 8 → ∀ c : UInt8, (⟨#[c]⟩ : ByteArray) ++ rdOf ByteArray.empty ([(⟨#[97]⟩ : ByteArray), (⟨#[98]⟩ : ByteArray), (⟨#[99]⟩ : ByteArray), (⟨#[100]⟩ : ByteArray), (⟨#[101]⟩ : ByteArray), (⟨#[102]⟩ : ByteArray), (⟨#[103]⟩ : ByteArray), (⟨#[104]⟩ : ByteArray)] : List ByteArray) r ∈ ([⟨#[c, 97]⟩, ⟨#[c, 98]⟩, ⟨#[c, 99]⟩, ⟨#[c, 100]⟩, ⟨#[c, 101]⟩, ⟨#[c, 102]⟩, ⟨#[c, 103]⟩, ⟨#[c, 104]⟩] : List ByteArray) ∧
      (rdOf ByteArray.empty ([(⟨#[97]⟩ : ByteArray), (⟨#[98]⟩ : ByteArray), (⟨#[99]⟩ : ByteArray), (⟨#[100]⟩ : ByteArray), (⟨#[101]⟩ : ByteArray), (⟨#[102]⟩ : ByteArray), (⟨#[103]⟩ : ByteArray), (⟨#[104]⟩ : ByteArray)] : List ByteArray) r).size = 1 := by
    intro r h0 h1 c
    obtain rfl | rfl | rfl | rfl | rfl | rfl | rfl | rfl : r = 0 ∨ r = 1 ∨ r = 2 ∨ r = 3 ∨ r = 4 ∨ r = 5 ∨ r = 6 ∨ r = 7 := by omega
    · exact ⟨.head _, rfl⟩
    · exact ⟨.tail _ (.head _), rfl⟩
    · exact ⟨.tail _ (.tail _ (.head _)), rfl⟩
    · exact ⟨.tail _ (.tail _ (.tail _ (.head _))), rfl⟩
    · exact ⟨.tail _ (.tail _ (.tail _ (.tail _ (.head _)))), rfl⟩
    · exact ⟨.tail _ (.tail _ (.tail _ (.tail _ (.tail _ (.head _))))), rfl⟩
    · exact ⟨.tail _ (.tail _ (.tail _ (.tail _ (.tail _ (.tail _ (.head _)))))), rfl⟩
    · exact ⟨.tail _ (.tail _ (.tail _ (.tail _ (.tail _ (.tail _ (.tail _ (.head _))))))), rfl⟩
  unfold billetlaw08_Binds.f
  generalize hnm : ([(⟨#[97]⟩ : ByteArray), (⟨#[98]⟩ : ByteArray), (⟨#[99]⟩ : ByteArray), (⟨#[100]⟩ : ByteArray), (⟨#[101]⟩ : ByteArray), (⟨#[102]⟩ : ByteArray), (⟨#[103]⟩ : ByteArray), (⟨#[104]⟩ : ByteArray)] : List ByteArray) = nm at *
  have hn8 : nm.length = 8 := by rw [← hnm]; rfl
  have main : nm.length = 8 → ∀ (d i : Nat) (t : List S42), 20 - i = d → i ≤ 20 → t.length ≤ i → (∀ x ∈ t, x.f0 ∈ ws ∧ x.f1 ∈ ns ∧ 0 ≤ x.f2 ∧ x.f2 ≤ 4) → ∃ t', Raw t' ∧ Ev (fun k => billetlaw08_Binds.l0 k raw t nm (i : Int)) t' := by
    intro hn d
    induction d with
    | zero =>
      intro i t hd hi ht hx
      refine ⟨t, ⟨by omega, hx⟩, Ev.step (f := fun _ => some t) (fun k => ?_) (Ev.now _)⟩
      have p : ¬ (i : Int) < 20 := by omega
      simp only [billetlaw08_Binds.l0]
      rw [if_neg p]; split <;> rfl
    | succ d ih =>
      intro i t hd hi ht hx
      by_cases c : (i : Int) < (raw.length : Int)
      · obtain ⟨r, hr, r0, r1⟩ := pick08_in (rd raw (i : Int)) (rd_wf hw _)
        have p2 : (i : Int) < 20 := by omega
        have p3 : 0 ≤ (i : Int) := by omega
        have q0 : 0 ≤ Int.tmod r 8 := Int.tmod_nonneg _ r0
        have q1 : Int.tmod r 8 < 8 := Int.tmod_lt_of_pos _ (by omega)
        have d0 : 0 ≤ Int.tdiv r 8 ∧ Int.tdiv r 8 ≤ 1048576 := by rw [Int.tdiv_eq_ediv_of_nonneg r0]; omega
        have d1 : 0 ≤ Int.tdiv r 64 ∧ Int.tdiv r 64 ≤ 1048576 := by rw [Int.tdiv_eq_ediv_of_nonneg r0]; omega
        have s0 : 0 ≤ Int.tmod (Int.tdiv r 8) 8 := Int.tmod_nonneg _ d0.1
        have s1 : Int.tmod (Int.tdiv r 8) 8 < 8 := Int.tmod_lt_of_pos _ (by omega)
        have g0 : 0 ≤ Int.tmod (Int.tdiv r 64) 5 := Int.tmod_nonneg _ d1.1
        have g1 : Int.tmod (Int.tdiv r 64) 5 < 5 := Int.tmod_lt_of_pos _ (by omega)
        have n1 := names _ q0 q1 119
        have n2 := names _ s0 s1 110
        obtain ⟨t', ht', he'⟩ := ih (i + 1) (t ++ [⟨(⟨#[119]⟩ : ByteArray) ++ rdOf ByteArray.empty nm (Int.tmod r 8), (⟨#[110]⟩ : ByteArray) ++ rdOf ByteArray.empty nm (Int.tmod (Int.tdiv r 8) 8), Int.tmod (Int.tdiv r 64) 5⟩]) (by omega) (by omega) (by simp; omega) (fun x hxm => by
          rcases List.mem_append.1 hxm with h | h
          · exact hx x h
          · rw [List.mem_singleton] at h
            subst h
            exact ⟨n1.1, n2.1, g0, Int.le_of_lt_add_one g1⟩)
        refine ⟨t', ht', Ev.step (fun k => ?_) he'⟩
        have z1 : Int.tmod r 8 < (nm.length : Int) := by omega
        have z2 : Int.tmod (Int.tdiv r 8) 8 < (nm.length : Int) := by omega
        have z3 : 1 + (rdOf ByteArray.empty nm (Int.tmod r 8)).size ≤ 9223372036854775807 := by omega
        have z4 : 1 + (rdOf ByteArray.empty nm (Int.tmod (Int.tdiv r 8) 8)).size ≤ 9223372036854775807 := by omega
        have z5 : t.length < 3518437208883 := by omega
        have b8 : -9223372036854775808 ≤ Int.tdiv r 8 ∧ Int.tdiv r 8 ≤ 9223372036854775807 := ⟨Int.le_trans (by decide) d0.1, Int.le_trans d0.2 (by decide)⟩
        have b64 : -9223372036854775808 ≤ Int.tdiv r 64 ∧ Int.tdiv r 64 ≤ 9223372036854775807 := ⟨Int.le_trans (by decide) d1.1, Int.le_trans d1.2 (by decide)⟩
        have bi : -9223372036854775808 ≤ (i : Int) + 1 ∧ (i : Int) + 1 ≤ 9223372036854775807 := by omega
        have e1 : wrap64 ((i : Int) + 1) = ((i + 1 : Nat) : Int) := by rw [w64 bi.1 bi.2]; rfl
        have f0 : wrap64 (Int.tdiv r 8) = Int.tdiv r 8 := w64 b8.1 b8.2
        have f1 : wrap64 (Int.tdiv r 64) = Int.tdiv r 64 := w64 b64.1 b64.2
        simp only [billetlaw08_Binds.l0, hr, f0, f1, e1, Option.bind_some]
        rw [if_pos c, if_pos p2, if_pos p3, if_pos q0, if_pos z1, if_pos z3, if_pos s0, if_pos z2, if_pos z4, if_pos z5]
      · refine ⟨t, ⟨by omega, hx⟩, Ev.step (f := fun _ => some t) (fun k => ?_) (Ev.now _)⟩
        simp only [billetlaw08_Binds.l0]
        rw [if_neg c]
  exact main hn8 20 0 [] (by omega) (by omega) (by simp) (by simp)


theorem binds_any (A : Option Addr) (c : Nat) (raw : List Int) (hw : ∀ x ∈ raw, (Lit.int .i64 x).wf = true) : ∃ t, Raw t ∧ ∀ w, Kd.C (Kd.int .i64) w A raw.length raw → raw.length ≤ c →
    Calls Try.prog 23 #[.slice A raw.length c] w fun e w' => ∃ v, e = .returned v ∧ Kd.R k42 42 w' w.heap.size (fun _ => True) v t ∧ Below w.heap.size w w' := by
  obtain ⟨t, ht, he⟩ := binds_ev raw hw
  obtain ⟨k, hk⟩ := he.rounds
  exact ⟨t, ht, fun w hr hc => billetlaw08_Binds.calls k A c raw t w hr hc hk⟩
theorem rdT_mem {t : List S42} {k : Nat} (h : k < t.length) : rd_T42 t k ∈ t := by
  unfold rd_T42; rw [Int.toNat_natCast, List.getD_eq_getElem?_getD, List.getElem?_eq_getElem h]; exact List.getElem_mem h
theorem ws_size {s : ByteArray} (h : s ∈ ws) : s.size = 2 := by
  simp only [ws, List.mem_cons, List.not_mem_nil, or_false] at h
  rcases h with rfl | rfl | rfl | rfl | rfl | rfl | rfl | rfl <;> rfl
theorem Raw.size {t : List S42} (h : Raw t) (i : Nat) : (rd_T42 t i).f0.size ≤ maxLen := by
  by_cases hi : i < t.length
  · have := ws_size (h.2 _ (rdT_mem hi)).1
    unfold maxLen; omega
  · unfold rd_T42; rw [Int.toNat_natCast, List.getD_eq_getElem?_getD, List.getElem?_eq_none (by omega)]
    decide
theorem Raw.num {t : List S42} (h : Raw t) {i : Nat} (hi : i < t.length) : num (rd_T42 t i).f2 = (rd_T42 t i).f2 ∧ 0 ≤ (rd_T42 t i).f2 ∧ (rd_T42 t i).f2 ≤ 4 := by
  have := h.2 _ (rdT_mem hi)
  refine ⟨?_, this.2.2.1, this.2.2.2⟩
  unfold P.num mn mx
  split <;> (try split) <;> omega

theorem loop_eq (b : ByteArray) (d : Nat) : ∀ (i : Nat) (acc : List UInt8), b.size - i = d → ByteArray.toList.loop b i acc = acc.reverse ++ b.data.toList.drop i := by
  induction d with
  | zero =>
    intro i acc h
    rw [ByteArray.toList.loop]
    rw [if_neg (by omega), List.drop_eq_nil_of_le (by have : b.data.toList.length = b.size := data_length b; omega), List.append_nil]
  | succ d ih =>
    intro i acc h
    have hl : b.data.toList.length = b.size := data_length b
    rw [ByteArray.toList.loop]
    rw [if_pos (by omega), ih (i + 1) _ (by omega), List.drop_eq_getElem_cons (i := i) (by omega)]
    have e : b.get! i = b.data.toList[i]'(by omega) := by
      show b.data[i]! = _
      rw [getElem!_pos b.data i (by have : b.data.size = b.size := rfl; omega)]
      simp
    rw [e]
    simp
theorem toList_data (b : ByteArray) : b.toList = b.data.toList := by
  rw [ByteArray.toList, loop_eq b b.size 0 [] (by omega)]; simp
theorem toList_inj {a b : ByteArray} : a.toList = b.toList ↔ a = b := by
  constructor
  · intro h
    rw [toList_data, toList_data] at h
    cases a; cases b
    simp at h
    rw [h]
  · intro h; rw [h]
theorem mx_le {a b c : Int} : mx a b ≤ c ↔ a ≤ c ∧ b ≤ c := by unfold mx; split <;> omega
theorem le_mx {a b c : Int} : c ≤ mx a b ↔ c ≤ a ∨ c ≤ b := by unfold mx; split <;> omega
theorem heldK_le (gs : List Gr) (s : ByteArray) (x : Int) : ∀ k, k ≤ gs.length → (heldK gs s k ≤ x ↔ 0 ≤ x ∧ ∀ j : Nat, j < k → (rdG gs j).cnt s ≤ x)
  | 0, _ => by simp [heldK]
  | k + 1, h => by
    simp only [heldK]
    rw [mx_le, heldK_le gs s x k (by omega)]
    constructor
    · rintro ⟨⟨h1, h2⟩, h3⟩
      refine ⟨h1, fun j hj => ?_⟩
      rcases Nat.lt_succ_iff_lt_or_eq.1 hj with h | rfl
      · exact h2 j h
      · exact h3
    · rintro ⟨h1, h2⟩
      exact ⟨⟨h1, fun j hj => h2 j (by omega)⟩, h2 k (by omega)⟩
theorem rdG_get {gs : List Gr} {k : Nat} (h : k < gs.length) : rdG gs k = gs[k] := by unfold rdG; rw [Int.toNat_natCast, List.getD_eq_getElem?_getD, List.getElem?_eq_getElem h]; rfl
/-- Held is the least number that is no less than nought and than each grant's count. -/
theorem held_le (gs : List Gr) (s : ByteArray) (x : Int) : heldB false gs s ≤ x ↔ 0 ≤ x ∧ ∀ g ∈ gs, g.cnt s ≤ x := by
  have e : heldB false gs s = heldK gs s gs.length := rfl
  rw [e, heldK_le gs s x _ (Nat.le_refl _)]
  constructor
  · rintro ⟨h1, h2⟩
    refine ⟨h1, fun g hg => ?_⟩
    obtain ⟨j, hj, rfl⟩ := List.getElem_of_mem hg
    have := h2 j hj
    rwa [rdG_get hj] at this
  · rintro ⟨h1, h2⟩
    exact ⟨h1, fun j hj => by rw [rdG_get hj]; exact h2 _ (List.getElem_mem hj)⟩
theorem held_app (gs : List Gr) (g : Gr) (s : ByteArray) : heldB false (gs ++ [g]) s = mx (heldB false gs s) (g.cnt s) := by
  have h1 := held_le (gs ++ [g]) s
  have h2 := held_le gs s
  apply Int.le_antisymm
  · rw [h1]
    have a := (h2 (heldB false gs s)).1 (Int.le_refl _)
    refine ⟨le_mx.2 (.inl a.1), fun x hx => ?_⟩
    rcases List.mem_append.1 hx with hx | hx
    · exact le_mx.2 (.inl (a.2 x hx))
    · rw [List.mem_singleton] at hx; subst hx
      exact le_mx.2 (.inr (Int.le_refl _))
  · have a := (h1 (heldB false (gs ++ [g]) s)).1 (Int.le_refl _)
    rw [mx_le, h2]
    exact ⟨⟨a.1, fun x hx => a.2 x (List.mem_append_left _ hx)⟩, a.2 g (by simp)⟩
theorem held_filter (gs : List Gr) (p : Gr → Bool) (s : ByteArray) : heldB false (gs.filter p) s ≤ heldB false gs s := by
  have a := (held_le gs s (heldB false gs s)).1 (Int.le_refl _)
  exact (held_le _ s _).2 ⟨a.1, fun x hx => a.2 x (List.mem_filter.1 hx).1⟩
theorem held_one (g : Gr) (s : ByteArray) (h : 0 ≤ g.cnt s) : heldB false [g] s = g.cnt s := by
  have h1 := held_app [] g s
  rw [List.nil_append] at h1
  rw [h1]
  have : heldB false [] s = 0 := rfl
  rw [this]; unfold mx; split <;> omega
theorem held_bd (gs : List Gr) (s : ByteArray) : 0 ≤ heldB false gs s := ((held_le gs s _).1 (Int.le_refl _)).1
end Go.Proofs.Ytcmaoldklldfmaa.P
