/- Book's drop, Acked, Pass. -/
import Derived.Test.YtcmaoldklldfmaaBd
import Derived.Deep.LoopGhost
import Derived.Shelf.Abstract
import Derived.Test.YtcmaoldklldfmaaB
import Derived.Deep.QuietTactic
import Derived.BigQuiet
import Derived.StillTailTactics
import Derived.Deep.RegionWith
namespace Go.Proofs.Ytcmaoldklldfmaa.P
open Go.RowKit Go.Proofs.YtcmaoldklldfmaaW.PrintWords Go.Proofs.YtcmaoldklldfmaaW.PrintLast Go.Proofs.YtcmaoldklldfmaaW.PrintMore
attribute [local go_sem] max2_int min2_int
set_option linter.unusedSimpArgs false
set_option linter.unusedVariables false





theorem Bk.not_row {N b : Nat} {u : Bool} {t : Int} {v : Value} {gs : List Gr} {w : World} (h : Bk N b u t v gs w) {B : Nat} {cs : Array Value} {e : TypeId} {z : Nat × Nat} (hB : w.heap[B]? = some (Obj.cells cs e z)) (he : e ≠ 56) : v.ownBlock ≠ some B := fun e1 => by
  obtain ⟨c2, hc⟩ := Kd.R_typed h.row B e1
  rw [hB] at hc
  injection hc with hc
  injection hc with _ h2
  exact he h2

def DropPost (N b : Nat) (u : Bool) (t : Int) (gs : List Gr) (w : World) (e : Ending) (w' : World) : Prop := e = .returned (.tuple #[]) ∧ (∃ v', Bk N b u t v' gs w') ∧ Ch N w w'

set_option maxHeartbeats 800000 in
theorem drop_any {N b f B : Nat} {u : Bool} {t z : Int} {v : Value} {gs : List Gr} {w : World} {p : Gr → Bool} (eg : ∀ args w, (callFunc f args).run Try.prog w = .ok (.enter f args) w) (hp : PredG f B z p) (h : Bk N b u t v gs w) (hB : w.heap[B]? = some (Obj.cells #[.int .i64 z] 3 (0, 0))) :
    Calls Try.prog 36 #[.pointer (some ⟨b, 0, none⟩), .func (.func f) #[] #[.pointer (some ⟨B, 0, none⟩)]] w (DropPost N b u t (gs.filter fun x => !p x) w) := by
  obtain ⟨_, _, c2, _, _, f2⟩ := h.cells
  have HD := del_any (N := N) eg hp v gs w h.row (by simp [World.cell?, hB]) (h.not_row hB (by decide))
  have HB := Lib.hid h
  clear h hB
  go_enter Try.func36, Try.ntmps36
  go_wp2_with (go_at_call 41; fail)
  refine HD.mono ?_
  rintro e w1 ⟨v', rfl, hR, hG⟩
  obtain ⟨hbx, hgr, hch, _⟩ := HB.out.row_grown hG
  obtain ⟨A, c, rfl⟩ := Kd.R_slice hR
  have HR := Lib.hid hR
  have lo := HB.out.lo
  have g2 : w1.cell? ⟨b, 2, none⟩ = some v := by simp [World.cell?, hbx]
  have k2 : w1.frozen? ⟨b, 2, none⟩ = false := by simp [World.frozen?, hbx]
  have HX := Lib.hid hbx
  have HGr := Lib.hid hgr
  have HC := Lib.hid hch
  clear hbx hgr hch hR hG HD c2 f2
  go_wp2
  go_end0
  exact ⟨rfl, ⟨_, Bk.setV lo HX.out HR.out (fun g hg => HGr.out g (List.mem_filter.1 hg).1)⟩, HC.out.trans (ch_set lo HX.out _ _)⟩

theorem eg40 : ∀ args w, (callFunc 40 args).run Try.prog w = .ok (.enter 40 args) w := enters_of Try.func40 (by kernel_rfl) rfl
theorem eg37 : ∀ args w, (callFunc 37 args).run Try.prog w = .ok (.enter 37 args) w := enters_of Try.func37 (by kernel_rfl) rfl

set_option maxHeartbeats 800000 in
theorem Acked_any {N b : Nat} {u : Bool} {t : Int} {v : Value} {gs : List Gr} {w : World} (ver : Int) (h : Bk N b u t v gs w) :
    Calls Try.prog 28 #[.pointer (some ⟨b, 0, none⟩), .int .i64 ver] w (DropPost N b u t (gs.filter fun x => !decide (x.ver < ver)) w) := by
  have HD := drop_any eg40 (pred40 w.heap.size ver) (h.alloc (.cells #[.int .i64 ver] 3)) (heap_alloc_new w _)
  clear h
  go_enter Try.func28, Try.ntmps28
  go_wp2_with (go_at_call 36; fail)
  refine HD.mono ?_
  rintro e w1 ⟨rfl, hB, hC⟩
  have H1 := Lib.hid hB
  have H2 := Lib.hid hC
  clear hB hC HD
  go_wp2
  go_end0
  exact ⟨rfl, H1.out, (Ch.of_below ((Below.refl _ _).alloc (Nat.le_refl _) _)).trans H2.out⟩

set_option maxHeartbeats 800000 in
theorem Pass_any {N b : Nat} {u : Bool} {t : Int} {v : Value} {gs : List Gr} {w : World} (now : Int) (h : Bk N b u t v gs w) :
    Calls Try.prog 18 #[.pointer (some ⟨b, 0, none⟩), .int .i64 now] w (DropPost N b (u && !ovr now t) t (gs.filter fun x => !ovr now x.til) w) := by
  have HD := drop_any eg37 (pred37 w.heap.size now) (h.alloc (.cells #[.int .i64 now] 3)) (heap_alloc_new w _)
  have hsz := h.lt
  have hcn : (w.alloc (.cells #[.int .i64 now] 3)).heap[w.heap.size]? = some (Obj.cells #[.int .i64 now] 3 (0, 0)) := heap_alloc_new w _
  have HCN := Lib.hid hcn
  clear h hcn
  cases u
  all_goals
    go_enter Try.func18, Try.ntmps18
    go_wp2_with (go_at_call 36; fail)
    refine HD.mono ?_
    rintro e w1 ⟨rfl, ⟨v', hB⟩, hC⟩
    obtain ⟨c0, c1, c2, f0, f1, f2⟩ := hB.cells
    have cn : w1.cell? ⟨w.heap.size, 0, none⟩ = some (.int .i64 now) := by
      have := hC.block _ _ HCN.out (.inr (by intro h; rcases h with h | h <;> cases h))
      simp [World.cell?, this]
    have HB := Lib.hid hB
    have HC := Lib.hid hC
    clear hB hC HD
    go_wp2_with fail
    have d0 : w1.drew.cell? ⟨b, 0, none⟩ = _ := c0
    have e0 : w1.drew.frozen? ⟨b, 0, none⟩ = false := f0
    have HB2 := Lib.hid HB.out.drew
    have HC2 : Hid (Ch N _ w1.drew) := Lib.hid (HC.out.trans (Ch.of_below (Below.refl _ _).drew))
    clear HB HC
    refine stl_tail 16 (by kernel_rfl) (by kernel_rfl) rfl rfl ?_
    iterate 16 (refine stl_step (fun K hK => ?_); go_simp; first | (refine hK _ ?_; clear hK K) | (refine ⟨_, (Over_any _ _ _).mono (fun _ _ h => ⟨h.1, h.2.symm⟩), hK _ ?_⟩; clear hK K))
    refine stl_nil ?_
    generalize w1.drew = w2 at d0 e0 HB2 HC2 ⊢
    clear c0 c1 c2 f0 f1 f2
    go_wp2
    go_end0
    exact ⟨rfl, ⟨_, HB2.out.setU _⟩, ((Ch.of_below ((Below.refl _ _).alloc (Nat.le_refl _) _)).trans HC2.out).trans (HB2.out.ch_set _ _)⟩
end Go.Proofs.Ytcmaoldklldfmaa.P
