/- The book of layer 14 without grants, and the examples of the chapter: awake returns true. -/
import Derived.Test.YtcmaoldklldfmaaA
import Derived.Lib.Hide
import Derived.Deep.QuietTactic
import Derived.BigQuiet
import Derived.StillTailTactics
import Derived.Deep.RegionWith
import Derived.Deep.Draws
import Derived.Maps.AppendAt
namespace Go.Proofs.Ytcmaoldklldfmaa
open Go.RowKit

set_option maxHeartbeats 400000 in
theorem New_any (c : Int) (w : World) :
    Calls Try.prog 16 #[.int .i64 c] w fun e w' => e = .returned (.pointer (some ⟨w.heap.size, 0, none⟩)) ∧ w' = w.alloc (.cells #[.bool true, .int .i64 (unt c + 4), .slice none 0 0] 52) := by
  have hb := whn_bd c
  have hb2 : unt c = whn c + 20 := rfl
  have hb3 : -1099511627776 + 20 ≤ unt c ∧ unt c ≤ 1099511627776 + 20 := by unfold unt; omega
  clear hb2
  go_enter Try.func16, Try.ntmps16
  go_wp2_with (go_at_call 11; refine (Until_any _ _).mono ?_; rintro e w' ⟨rfl, rfl⟩)
  go_ret
  exact ⟨rfl, rfl⟩

set_option maxHeartbeats 400000 in
theorem index_nil (A : Option Addr) (c : Nat) (f : Value) (w : World) :
    Calls Try.prog 42 #[.slice A 0 c, f] w fun e w' => e = .returned (.int .i64 (-1)) ∧ w = w' := by
  go_enter Try.func42, Try.ntmps42
  go_wp2_with fail
  refine wp_loop_rounds 1 ?_; rw [rounds_succ]; go_wp2
  go_ret
  exact ⟨rfl, rfl⟩

set_option maxHeartbeats 400000 in
theorem delete_nil (A : Option Addr) (c : Nat) (f : Value) (w : World) :
    Calls Try.prog 41 #[.slice A 0 c, f] w fun e w' => e = .returned (.slice A 0 c) ∧ w = w' := by
  go_enter Try.func41, Try.ntmps41
  go_wp2_with (go_at_call 42; refine (index_nil _ _ _ _).mono ?_; rintro e w' ⟨rfl, rfl⟩)
  go_ret
  exact ⟨rfl, rfl⟩

set_option maxHeartbeats 400000 in
theorem Known_any (a : Addr) (u : Bool) (w : World) (hu : w.cell? a = some (.bool u)) :
    Calls Try.prog 17 #[.pointer (some a)] w fun e w' => e = .returned (.bool (!u)) ∧ w = w' := by
  go_enter Try.func17, Try.ntmps17
  go_wp2_with fail
  go_ret
  exact ⟨rfl, rfl⟩

theorem bk_cells {w : World} {b : Nat} {u t v : Value} (hb : w.heap[b]? = some (.cells #[u, t, v] 52)) :
    w.cell? ⟨b, 0, none⟩ = some u ∧ w.cell? ⟨b, 1, none⟩ = some t ∧ w.cell? ⟨b, 2, none⟩ = some v ∧ w.frozen? ⟨b, 0, none⟩ = false ∧ w.frozen? ⟨b, 1, none⟩ = false ∧ w.frozen? ⟨b, 2, none⟩ = false ∧ b < w.heap.size := by
  refine ⟨by simp [World.cell?, hb], by simp [World.cell?, hb], by simp [World.cell?, hb], by simp [World.frozen?, hb], by simp [World.frozen?, hb], by simp [World.frozen?, hb], ?_⟩
  exact (Array.getElem?_eq_some_iff.1 hb).1

theorem bk_set {w : World} {b o : Nat} {cs : Array Value} {x : Value} (hb : w.heap[b]? = some (.cells cs 52)) :
    (w.setCell ⟨b, o, none⟩ x).heap[b]? = some (.cells (cs.setIfInBounds o x) 52) := by
  simp only [World.setCell, Array.getElem?_modify, hb]
  simp

theorem grown_set {w : World} {b o : Nat} {x : Value} : w.grownBy (w.setCell ⟨b, o, none⟩ x) (some b) :=
  ⟨rfl, rfl, rfl, by simp [World.setCell], fun k _ hk => Below.heap_setCell _ _ _ _ (by rintro rfl; exact hk rfl)⟩

set_option maxHeartbeats 400000 in
theorem drop_nil (b : Nat) (f u t : Value) (w : World) (hb : w.heap[b]? = some (.cells #[u, t, .slice none 0 0] 52)) :
    Calls Try.prog 36 #[.pointer (some ⟨b, 0, none⟩), f] w fun e w' => e = .returned (.tuple #[]) ∧ w.grownBy w' (some b) ∧ w'.heap[b]? = some (.cells #[u, t, .slice none 0 0] 52) := by
  obtain ⟨_, _, c2, _, _, f2, _⟩ := bk_cells hb
  have HB := Lib.hid hb
  clear hb
  go_enter Try.func36, Try.ntmps36
  go_wp2_with (go_at_call 41; refine (delete_nil _ _ _ _).mono ?_; rintro e w' ⟨rfl, rfl⟩)
  go_end0
  exact ⟨rfl, grown_set, by simpa using bk_set (o := 2) (x := .slice none 0 0) HB.out⟩

structure Stl (P : Program) (ops : Array Oper) (w : World) (Q : Act → Prop) (rest : List Oper) (a : Act) : Prop where
  out : wpStill P ops w Q rest a

theorem stl_tail {P : Program} {id : Nat} {Q : Exit → Act → World → Prop} {a : Act} {w : World} {l : List Oper} (n : Nat) (hm : P.follows .mixedOrders = true) (hB : Region.lexTailB .any l.toArray n = true)
    {l1 l2 : List Oper} (h1 : l.take n = l1) (h2 : l.drop n = l2)
    (h : Stl P l.toArray w.drew (fun a' => wpList P l.toArray Q l2 a' w.drew) l1 a) : (Code.region id l.toArray true).wp P Q a w := by
  subst h1; subst h2
  exact wp_region_still_tail n hm hB h.out

theorem stl_nil {P : Program} {ops : Array Oper} {w : World} {Q : Act → Prop} {a : Act} (h : Q a) : Stl P ops w Q [] a := ⟨h⟩

theorem stl_step {P : Program} {ops : Array Oper} {w : World} {Q : Act → Prop} {a : Act} {o : Oper} {rest : List Oper}
    (h : ∀ K : Act → Prop, (∀ a, Stl P ops w Q rest a → K a) → if Region.wanted o (yielded ops a.tmps) then o.still P a w K else K (a.put o.dst undef)) : Stl P ops w Q (o :: rest) a :=
  ⟨wpStill_step fun K hK => h K fun a ha => hK a ha.out⟩

set_option maxHeartbeats 400000 in
theorem Pass_nil (b : Nat) (u : Bool) (t now : Int) (w : World) (hb : w.heap[b]? = some (.cells #[.bool u, .int .i64 t, .slice none 0 0] 52)) :
    Calls Try.prog 18 #[.pointer (some ⟨b, 0, none⟩), .int .i64 now] w fun e w' => e = .returned (.tuple #[]) ∧ w.grownBy w' (some b) ∧ w'.heap[b]? = some (.cells #[.bool (u && !ovr now t), .int .i64 t, .slice none 0 0] 52) := by
  have hsz := (bk_cells hb).2.2.2.2.2.2
  have HB := Lib.hid hb
  clear hb
  cases u
  all_goals
    go_enter Try.func18, Try.ntmps18
    go_wp2_with fail
    refine (drop_nil _ _ _ _ _ ((Below.heap_alloc _ _ _ hsz).trans HB.out)).mono ?_
    rintro e w1 ⟨rfl, hbel, hb1⟩
    obtain ⟨c0, c1, c2, f0, f1, f2, _⟩ := bk_cells hb1
    have cn : w1.cell? ⟨w.heap.size, 0, none⟩ = some (.int .i64 now) := hbel.cell ((World.cell?_alloc_at _ _ _ 0 rfl).trans rfl) (by simp; omega)
    have HB1 := Lib.hid hb1
    have HG := Lib.hid hbel
    clear hb1 hbel
    go_wp2_with fail
    have d0 : w1.drew.cell? ⟨b, 0, none⟩ = _ := c0
    have e0 : w1.drew.frozen? ⟨b, 0, none⟩ = false := f0
    have HB2 : Hid (w1.drew.heap[b]? = _) := HB1
    have HG2 : Hid (World.grownBy _ w1.drew (some b)) := Lib.hid ⟨HG.out.os, HG.out.tape, HG.out.output, HG.out.size, HG.out.block⟩
    clear HB1 HG
    refine stl_tail 16 (by kernel_rfl) (by kernel_rfl) rfl rfl ?_
    iterate 16 (refine stl_step (fun K hK => ?_); go_simp; first | (refine hK _ ?_; clear hK K) | (refine ⟨_, (Over_any _ _ _).mono (fun _ _ h => ⟨h.1, h.2.symm⟩), hK _ ?_⟩; clear hK K))
    refine stl_nil ?_
    generalize w1.drew = w2 at d0 e0 HB2 HG2 ⊢
    clear c0 c1 c2 f0 f1 f2
    go_wp2
    go_end0
    exact ⟨rfl, ((World.grownBy_alloc _ _ _).trans HG2.out).trans grown_set, by simpa using bk_set (o := 0) HB2.out⟩

set_option maxHeartbeats 400000 in
theorem Held_nil (b : Nat) (s : ByteArray) (t : Value) (w : World) (hb : w.heap[b]? = some (.cells #[.bool false, t, .slice none 0 0] 52)) :
    Calls Try.prog 32 #[.pointer (some ⟨b, 0, none⟩), .string s] w fun e w' => e = .returned (.int .i64 0) ∧ w = w' := by
  obtain ⟨c0, c1, c2, f0, f1, f2, _⟩ := bk_cells hb
  clear hb
  go_enter Try.func32, Try.ntmps32
  go_wp2_with fail
  refine wp_loop_rounds 1 ?_; rw [rounds_succ]; go_wp2
  go_ret
  exact ⟨rfl, rfl⟩

theorem Until_7 (w : World) : Calls Try.prog 11 #[.int .i64 7] w fun e w' => e = .returned (.int .i64 27) ∧ w = w' :=
  Until_any 7 w
theorem Holds_a (w : World) : Calls Try.prog 15 #[.int .i64 26, .int .i64 27] w fun e w' => e = .returned (.bool true) ∧ w = w' :=
  Holds_any 26 27 w
theorem Holds_b (w : World) : Calls Try.prog 15 #[.int .i64 27, .int .i64 27] w fun e w' => e = .returned (.bool false) ∧ w = w' :=
  Holds_any 27 27 w
theorem Over_a (w : World) : Calls Try.prog 14 #[.int .i64 30, .int .i64 27] w fun e w' => e = .returned (.bool false) ∧ w = w' :=
  Over_any 30 27 w
theorem Over_b (w : World) : Calls Try.prog 14 #[.int .i64 31, .int .i64 27] w fun e w' => e = .returned (.bool true) ∧ w = w' :=
  Over_any 31 27 w

set_option maxHeartbeats 400000 in
theorem awake_any (w : World) : Calls Try.prog 9 #[] w fun e w' => e = .returned (.bool true) ∧ Below w.heap.size w w' := by
  go_enter Try.func9, Try.ntmps9
  go_wp2_with fail
  refine (New_any _ _).mono ?_
  rintro e w1 ⟨rfl, h1⟩
  have B1 : Below w.heap.size w w1 := by rw [h1]; exact (Below.refl _ _).alloc (Nat.le_refl _) _
  have K1 : w1.heap[w.heap.size]? = some (.cells #[.bool true, .int .i64 24, .slice none 0 0] 52) := by rw [h1]; exact heap_alloc_new _ _
  clear h1
  have kc := (bk_cells K1).1
  have HB1 := Lib.hid K1
  clear K1
  go_wp2_with fail
  refine (Known_any _ _ _ kc).mono ?_
  rintro e w2 ⟨rfl, rfl⟩
  go_wp2_with fail
  refine (Pass_nil _ _ _ _ _ HB1.out).mono ?_
  rintro e w2 ⟨rfl, g2, K2⟩
  have K2' : w2.heap[w.heap.size]? = some (.cells #[.bool true, .int .i64 24, .slice none 0 0] 52) := K2
  have B2 : Below w.heap.size w w2 := B1.grown g2 B1.size (fun k hk => by cases hk; exact Nat.le_refl _)
  clear K2 g2 kc HB1
  have kc := (bk_cells K2').1
  have HB2 := Lib.hid K2'
  clear K2'
  go_wp2_with fail
  refine (Known_any _ _ _ kc).mono ?_
  rintro e w3 ⟨rfl, rfl⟩
  go_wp2_with fail
  refine (Pass_nil _ _ _ _ _ HB2.out).mono ?_
  rintro e w3 ⟨rfl, g3, K3⟩
  have K3' : w3.heap[w.heap.size]? = some (.cells #[.bool false, .int .i64 24, .slice none 0 0] 52) := K3
  have B3 : Below w.heap.size w w3 := B2.grown g3 B2.size (fun k hk => by cases hk; exact Nat.le_refl _)
  clear K3 g3 kc HB2
  have kc := (bk_cells K3').1
  have HB3 := Lib.hid K3'
  clear K3'
  go_wp2_with fail
  go_wp2_with (first
    | (go_at_call 11; refine (Until_7 _).mono ?_; rintro e w' ⟨rfl, rfl⟩)
    | (go_at_call_of 15 (Value.int IntKind.i64 26); refine (Holds_a _).mono ?_; rintro e w' ⟨rfl, rfl⟩)
    | (go_at_call 15; refine (Holds_b _).mono ?_; rintro e w' ⟨rfl, rfl⟩)
    | (go_at_call_of 14 (Value.int IntKind.i64 30); refine (Over_a _).mono ?_; rintro e w' ⟨rfl, rfl⟩)
    | (go_at_call 14; refine (Over_b _).mono ?_; rintro e w' ⟨rfl, rfl⟩)
    | (go_at_call 17; refine (Known_any _ false _ kc).mono ?_; rintro e w' ⟨rfl, rfl⟩)
    | (go_at_call 32; refine (Held_nil _ _ _ _ HB3.out).mono ?_; rintro e w' ⟨rfl, rfl⟩))
  go_ret
  exact ⟨rfl, B3⟩
end Go.Proofs.Ytcmaoldklldfmaa
