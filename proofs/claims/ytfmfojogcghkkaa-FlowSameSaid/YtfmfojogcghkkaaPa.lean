/- Push's parts: slices.Clone, slices.Clip, a step's room. -/
import Derived.Test.YtfmfojogcghkkaaPp
import Derived.Lib.Hide
import Derived.Deep.QuietTactic
import Derived.BigQuiet
import Derived.Lib.SliceRun
namespace Go.Proofs.Ytfmfojogcghkkaa.P
open Go.RowKit Go.Proofs.YtfmfojogcghkkaaW.PrintWords Go.Proofs.YtfmfojogcghkkaaW.PrintLast Go.Proofs.YtfmfojogcghkkaaW.PrintMore
open Go.Proofs.Ytfmfojogcghkkaa.Bf (S66)
open Go.Proofs.Ytfmfojogcghkkaa.Pp (stepRoom)

set_option maxHeartbeats 800000 in
theorem room_any (p : S66) (N : Int) (A : Option Addr) (c : Nat) (l : List S41) (A1 : Option Addr) (c1 : Nat) (F : List Int) (w : World) (hr : Kd.C k41 w A l.length l) (hr1 : Kd.C (Kd.int .i64) w A1 F.length F) (hl : F.length = l.length) (h0 : 0 ≤ p.f1) (h1 : p.f1 < l.length) :
    Calls Try.prog 54 #[.agg #[.int .i64 p.f0, .int .i64 p.f1, .bool p.f2], .agg #[.int .i64 N, .slice A l.length c], .slice A1 F.length c1] w fun e w' => e = .returned (.int .i64 (stepRoom l F p)) ∧ Below w.heap.size w w' := by
  have hm := Kd.C_max hr
  have hb0 : Below w.heap.size w ((w.alloc (.cells #[.int .i64 p.f0, .int .i64 p.f1, .bool p.f2] 66)).alloc (.cells #[.int .i64 N, .slice A l.length c] 24)) := ((Below.refl _ _).alloc (Nat.le_refl _) _).alloc (by simp) _
  obtain ⟨ad, rfl, hx0, hx1, hx2⟩ := at_T41 (Kd.C_below hr hb0) p.f1 h0 (by omega)
  obtain ⟨ad1, rfl, hy⟩ := Kd.at_int (Kd.C_below hr1 hb0) p.f1 h0 (by omega)
  rw [hl] at *
  have HB0 := Lib.hid hb0
  clear hr hr1 hb0
  unfold stepRoom
  obtain ⟨u, e, b⟩ := p
  simp only at *
  cases b
  · rw [if_neg (by simp)]
    go_enter Try.func54, Try.ntmps54
    go_wp2_with fail
    go_quiet (fail)
    go_wp2
    go_ret
    exact ⟨by simp, pw_below_drewN HB0.out nq⟩
  · rw [if_pos rfl]
    go_enter Try.func54, Try.ntmps54
    go_wp2_with fail
    go_ret
    exact ⟨rfl, HB0.out⟩

set_option maxHeartbeats 800000 in
theorem clip_any (A : Option Addr) (n c : Nat) (hn : n ≤ c) (hnil : A = none → n = 0 ∧ c = 0) (hm : n ≤ maxLen) (w : World) :
    Calls Try.prog 51 #[.slice A n c] w fun e w' => e = .returned (.slice A n n) ∧ w = w' := by
  unfold maxLen at hm
  cases A with
  | none =>
    obtain ⟨rfl, rfl⟩ := hnil rfl
    go_enter Try.func51, Try.ntmps51
    go_wp2
    go_ret
    exact ⟨rfl, rfl⟩
  | some a =>
    go_enter Try.func51, Try.ntmps51
    go_wp2
    go_ret
    exact ⟨rfl, rfl⟩

set_option maxHeartbeats 800000 in
theorem clone_any (A : Option Addr) (c : Nat) (l : List Int) (w : World) (hr : Kd.C (Kd.int .i64) w A l.length l) (hm : l.length ≤ 1000) :
    Calls Try.prog 52 #[.slice A l.length c] w fun e w' => ∃ v, e = .returned v ∧ Kd.R (Kd.int .i64) 3 w' w.heap.size (fun _ => True) v l ∧ Below w.heap.size w w' := by
  have en : ∀ w, (binOp .eql 25 (.slice none 0 c) (.slice none 0 0)).run Try.prog w = .ok (.bool true) w := fun w => Lib.run_eql_slice_nil w 25 3 none 0 c 0 0 Try.underlying25
  cases A with
  | none =>
    have h1 : l.length = 0 := by
      rcases Nat.eq_zero_or_pos l.length with h | h
      · exact h
      · obtain ⟨ad, e, _⟩ := hr.2.2 h; cases e
    obtain rfl := List.eq_nil_of_length_eq_zero h1
    clear hr hm h1
    go_enter Try.func52, Try.ntmps52
    go_wp2
    refine bodyPost_ret (v := .slice none 0 0) (by simp [results, Try.results52, go_sem]) rfl ?_
    exact ⟨_, rfl, Kd.R_nil _ _ _ _ _, Below.refl _ _⟩
  | some a =>
    have es : ∀ w, (binOp .eql 25 (.slice (some a) l.length c) (.slice none 0 0)).run Try.prog w = .ok (.bool false) w := fun w => Lib.run_eql_slice_nil w 25 3 (some a) _ _ 0 0 Try.underlying25
    have HR := Lib.hid hr
    clear hr
    go_enter Try.func52, Try.ntmps52
    have hb1 : Below w.heap.size w (w.alloc (.cells #[] 3)) := (Below.refl _ _).alloc (Nat.le_refl _) _
    have HB1 := Lib.hid hb1
    have HR1 := Lib.hid (Kd.C_below HR.out hb1)
    clear hb1
    go_wp2_with (at_builtin; refine Kd.R_append_rows (Kd.int .i64) (w0 := w) w.heap.size rfl (.tmp 5) (.tmp 6) 25 3 (.int .i64 0) 8 rfl Try.underlying25 info3 rfl (by decide) (by omega) (.slice (some ⟨w.heap.size, 0, none⟩) 0 0) ([] : List Int) l _ _ _ (fun _ => True) (fun _ => False) rfl rfl ?aO HR1.out (fun _ _ h => h) (fun _ h => h.elim) (fun _ _ => trivial) HB1.out HB1.out.size (by simp; omega) ?_; (case aO => exact ⟨fun _ _ => trivial, [], ⟨rfl, .inr ⟨w.heap.size, 0, #[], rfl, Nat.le_refl _, heap_alloc_new _ _, Nat.le_refl _, Nat.zero_le _, rfl, rfl⟩⟩, rfl, fun j p hj => by simp at hj⟩); intro v1 w1 ho hb hg hat; have HO := Lib.hid ho; have HB2 := Lib.hid hb; clear ho hb hg hat)
    obtain ⟨A1, c1, e1⟩ := Kd.R_slice HO.out
    subst e1
    go_ret
    exact ⟨_, rfl, by simpa using HO.out, HB2.out⟩
end Go.Proofs.Ytfmfojogcghkkaa.P
