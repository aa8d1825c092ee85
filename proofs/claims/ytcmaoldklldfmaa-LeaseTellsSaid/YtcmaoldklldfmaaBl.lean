/- New, Learn. -/
/- The book's calls that draw no closure: Held, Known, Sent, New, Learn. -/
import Derived.Test.YtcmaoldklldfmaaBw
import Derived.Test.YtcmaoldklldfmaaB
import Derived.Deep.QuietTactic
import Derived.BigQuiet
import Derived.StillTailTactics
import Derived.Deep.RegionWith
namespace Go.Proofs.Ytcmaoldklldfmaa.P
open Go.RowKit Go.Proofs.YtcmaoldklldfmaaW.PrintWords Go.Proofs.YtcmaoldklldfmaaW.PrintLast Go.Proofs.YtcmaoldklldfmaaW.PrintMore
attribute [local go_sem] max2_int min2_int
set_option linter.unusedSimpArgs false
set_option linter.unusedVariables false


theorem New_b {N : Nat} (c : Int) (w : World) (hN : N ≤ w.heap.size) :
    Calls Try.prog 16 #[.int .i64 c] w fun e w' => e = .returned (.pointer (some ⟨w.heap.size, 0, none⟩)) ∧ Bk N w.heap.size true (unt c + 4) (.slice none 0 0) [] w' ∧ Below w.heap.size w w' := by
  refine (New_any c w).mono ?_
  rintro e w' ⟨rfl, rfl⟩
  refine ⟨rfl, ⟨hN, ?_, Kd.R_nil _ _ _ _ _, fun g hg => by cases hg⟩, (Below.refl _ _).alloc (Nat.le_refl _) _⟩
  exact heap_alloc_new w _

theorem Addr.add_block (a : Addr) (k : Nat) : (a.add k).block = a.block := by unfold Addr.add; split <;> rfl
theorem C42_keep {w w1 : World} {A : Option Addr} {n : Nat} {l : List S42} (h : Kd.C k42 w A n l) (hb : ∀ ad, A = some ad → 0 < n → w1.heap[ad.block]? = w.heap[ad.block]?) : Kd.C k42 w1 A n l := by
  refine ⟨h.1, h.2.1, fun h0 => ?_⟩
  obtain ⟨ad, e, hr⟩ := h.2.2 h0
  refine ⟨ad, e, fun j p hj => ?_⟩
  obtain ⟨c, h1, h2, h3⟩ := hr j p hj
  exact ⟨c, h1, h2, fun i u hi => (World.cell?_of_block (w := w) (a := ad.add (j * k42.sz + i)) (by simp only [Addr.add_block]; exact hb ad e h0)).trans (h3 i u hi)⟩
theorem C42_ch {N : Nat} {w w1 : World} {A : Option Addr} {n : Nat} {l : List S42} (h : Kd.C k42 w A n l) (hc : Ch N w w1) (hb : ∀ ad, A = some ad → 0 < n → ∃ cs z, w.heap[ad.block]? = some (Obj.cells cs 42 z)) : Kd.C k42 w1 A n l :=
  C42_keep h fun ad e h0 => by
    obtain ⟨cs, z, h⟩ := hb ad e h0
    rw [h]; exact hc.block _ _ h (.inr (by intro h; rcases h with h | h <;> cases h))

set_option maxHeartbeats 800000 in
theorem Learn_any {N b : Nat} {u : Bool} {t : Int} {v : Value} {gs : List Gr} {w : World} (ver til : Int) (A : Option Addr) (c : Nat) (l : List S42) (hl : Kd.C k42 w A l.length l) (hA : ∀ ad, A = some ad → 0 < l.length → ad.block ≠ b) (hs : ∀ i : Nat, (rd_T42 l i).f0.size ≤ maxLen) (hll : l.length ≤ 1000000) (hN : N ≤ w.heap.size) (h : Bk N b u t v gs w) :
    Calls Try.prog 24 #[.pointer (some ⟨b, 0, none⟩), .int .i64 ver, .int .i64 til, .slice A l.length c] w fun e w' => e = .returned (.tuple #[]) ∧ ∃ v' m, Bk N b false t v' [⟨ver, til, cntK l l.length, m⟩] w' ∧ Ch N w w' := by
  obtain ⟨c0, c1, c2, f0, f1, f2⟩ := h.cells
  have HB := Lib.hid h
  have HL := Lib.hid hl
  have HA := Lib.hid hA
  have HS := Lib.hid hs
  clear h hl hA hs
  go_enter Try.func24, Try.ntmps24
  go_wp2_with fail
  have hb1 : (w.setCell ⟨b, 0, none⟩ (.bool false)).heap[b]? = some (Obj.cells #[.bool false, .int .i64 t, v] 52 (0, 0)) := (HB.out.setU false).box
  have HB2 : Bk N b false t (.slice none 0 0) [] ((w.setCell ⟨b, 0, none⟩ (.bool false)).setCell ⟨b, 2, none⟩ (.slice none 0 0)) := Bk.setV HB.out.lo hb1 (Kd.R_nil _ _ _ _ _) (fun g hg => by cases hg)
  have hch := (ch_set (N := N) HB.out.lo HB.out.box 0 (.bool false)).trans (ch_set HB.out.lo hb1 2 (.slice none 0 0))
  refine (Sent_any ver til A c l (C42_keep HL.out (fun ad e h0 => ?_)) HS.out hll (by simp) (Nat.le_trans hN hch.size) HB2).mono ?_
  · exact (Below.heap_setCell _ _ _ _ (HA.out ad e h0)).trans (Below.heap_setCell _ _ _ _ (HA.out ad e h0))
  rintro e w' ⟨rfl, v', m, hB, hC⟩
  have HB3 := Lib.hid hB
  have HC3 := Lib.hid (hch.trans hC)
  clear hB hC hch HB2 hb1 c0 c1 c2 f0 f1 f2
  go_wp2
  go_end0
  exact ⟨rfl, v', m, HB3.out, HC3.out⟩
end Go.Proofs.Ytcmaoldklldfmaa.P
