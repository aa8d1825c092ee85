/- LeaseMoves of layer 14: its walk. -/
import Derived.Test.YtcmaoldklldfmaaBn
import Derived.Test.YtcmaoldklldfmaaBp
import Derived.Test.YtcmaoldklldfmaaBl
import Derived.Test.YtcmaoldklldfmaaC
import Derived.Deep.QuietTactic
import Derived.BigQuiet
import Derived.StillTailTactics
import Derived.Deep.RegionWith
import Derived.Deep.DeepCutAuto
import Derived.Deep.CutBlock
namespace Go.Proofs.Ytcmaoldklldfmaa.P
open Go.RowKit Go.Proofs.YtcmaoldklldfmaaW.PrintWords Go.Proofs.YtcmaoldklldfmaaW.PrintLast Go.Proofs.YtcmaoldklldfmaaW.PrintMore
attribute [local go_sem] max2_int min2_int
set_option linter.unusedSimpArgs false
set_option linter.unusedVariables false

/-! #### struct type 38 (an act) -/
structure S38 where
  f0 : Int
  f1 : Int
  f2 : Int
  f3 : List Int
def z38 : S38 := ⟨0, 0, 0, []⟩
def k38 : Kd S38 := Kd.iso (Kd.pair (Kd.int .i64) (Kd.pair (Kd.int .i64) (Kd.pair (Kd.int .i64) (Kd.slice 3 (Kd.int .i64))))) (fun x : S38 => (x.f0, x.f1, x.f2, x.f3))
theorem k38_open {w : World} {x : S38} {cs : List Value} (h : k38.K w x cs) : ∃ A c, cs = [.int .i64 x.f0, .int .i64 x.f1, .int .i64 x.f2, .slice A x.f3.length c] ∧ x.f3.length ≤ c ∧ (Kd.int .i64).C w A x.f3.length x.f3 := by
  obtain ⟨_, _, rfl, rfl, ⟨_, _, rfl, rfl, ⟨_, _, rfl, rfl, ⟨A, c, rfl, l, g⟩⟩⟩⟩ := h
  exact ⟨A, c, rfl, l, g⟩
def rd38 (xs : List S38) (i : Int) : S38 := xs.getD i.toNat z38
theorem at_38 {w : World} {A : Option Addr} {n : Nat} {xs : List S38} (h : Kd.C k38 w A n xs) (i : Int) (h0 : 0 ≤ i) (h1 : i < n) : ∃ ad A2 c2, A = some ad ∧ w.cell? (ad.add (i.toNat * 4)) = some (.int .i64 (rd38 xs i).f0) ∧ w.cell? ⟨(ad.add (i.toNat * 4)).block, (ad.add (i.toNat * 4)).off + 1, none⟩ = some (.int .i64 (rd38 xs i).f1) ∧ w.cell? ⟨(ad.add (i.toNat * 4)).block, (ad.add (i.toNat * 4)).off + 2, none⟩ = some (.int .i64 (rd38 xs i).f2) ∧ w.cell? ⟨(ad.add (i.toNat * 4)).block, (ad.add (i.toNat * 4)).off + 3, none⟩ = some (.slice A2 (rd38 xs i).f3.length c2) ∧ (rd38 xs i).f3.length ≤ c2 ∧ (Kd.int .i64).C w A2 (rd38 xs i).f3.length (rd38 xs i).f3 := by
  obtain ⟨ad, c, e, _, hK, hc0⟩ := Kd.C_get h z38 i h0 h1
  have hc : ∀ j u, c[j]? = some u → w.cell? (ad.add (i.toNat * 4 + j)) = some u := hc0
  obtain ⟨A2, c2, rfl, l2, g2⟩ := k38_open hK
  exact ⟨ad, A2, c2, e, hc 0 _ rfl, by rw [← add_field _ _ 1 (by omega)]; exact hc 1 _ rfl, by rw [← add_field _ _ 2 (by omega)]; exact hc 2 _ rfl, by rw [← add_field _ _ 3 (by omega)]; exact hc 3 _ rfl, l2, g2⟩
/-- An act as it comes in: its numbers are numbers. -/
def Wf38 (x : S38) : Prop := (Lit.int .i64 x.f0).wf = true ∧ (Lit.int .i64 x.f1).wf = true ∧ (Lit.int .i64 x.f2).wf = true ∧ ∀ y ∈ x.f3, (Lit.int .i64 y).wf = true
theorem rd38_wf {xs : List S38} (h : ∀ x ∈ xs, Wf38 x) (i : Nat) (hi : i < xs.length) : Wf38 (rd38 xs i) := by
  unfold rd38; rw [Int.toNat_natCast, List.getD_eq_getElem?_getD, List.getElem?_eq_getElem hi]; exact h _ (List.getElem_mem hi)
theorem wf_bd {n : Int} (h : (Lit.int .i64 n).wf = true) : I64 n := by simp only [Lit.wf, Bool.and_eq_true, decide_eq_true_eq] at h; exact h

def wA : ByteArray := ⟨#[119, 97]⟩
def wB : ByteArray := ⟨#[119, 98]⟩
def wC : ByteArray := ⟨#[119, 99]⟩
def nmC : Array Value := #[.string wA, .string wB, .string wC]
def nmK : Nat → ByteArray
  | 0 => wA
  | 1 => wB
  | _ => wC

/-- What lies there between two acts: the book, the names. -/
structure MS (w0 : World) (b nm : Nat) (t : Int) (v : Value) (gs : List Gr) (W : World) : Prop where
  bk : Bk w0.heap.size b false t v gs W
  bel : Below w0.heap.size w0 W
  nms : W.heap[nm]? = some (Obj.cells nmC 9 (0, 0))
section
variable {w0 : World} {b nm : Nat} {t : Int} {v : Value} {gs : List Gr} {W W' : World}
theorem MS.keep (h : MS w0 b nm t v gs W) (hb : Below W.heap.size W W') : MS w0 b nm t v gs W' :=
  ⟨h.bk.below hb, h.bel.trans (hb.mono h.bel.size), (hb.block _ (lt_of_some h.nms)).trans h.nms⟩
theorem MS.ch {v' : Value} {gs' : List Gr} (h : MS w0 b nm t v gs W) (hb : Bk w0.heap.size b false t v' gs' W') (hc : Ch w0.heap.size W W') : MS w0 b nm t v' gs' W' :=
  ⟨hb, h.bel.trans (hc.below h.bel.size), hc.block _ _ h.nms (.inr (by intro h; rcases h with h | h <;> cases h))⟩
theorem MS.nmcell (h : MS w0 b nm t v gs W) (j : Nat) (hj : j < 3) : W.cell? ⟨nm, j, none⟩ = some (.string (nmK j)) := by
  simp only [World.cell?, h.nms]
  match j, hj with
  | 0, _ => rfl
  | 1, _ => rfl
  | 2, _ => rfl
end

def arr (f : Nat → Int) : Array Value := #[.int .i64 (f 0), .int .i64 (f 1), .int .i64 (f 2)]
def upd (f : Nat → Int) (j : Nat) (x : Int) : Nat → Int := fun i => if i = j then x else f i
theorem arr_set (f : Nat → Int) (j : Nat) (hj : j < 3) (x : Int) : (arr f).setIfInBounds j (.int .i64 x) = arr (upd f j x) := by
  match j, hj with
  | 0, _ => rfl
  | 1, _ => rfl
  | 2, _ => rfl
theorem arr_at (f : Nat → Int) (j : Nat) (hj : j < 3) : (arr f)[j]? = some (.int .i64 (f j)) := by
  match j, hj with
  | 0, _ => rfl
  | 1, _ => rfl
  | 2, _ => rfl
theorem R42_keep {N : Nat} {w w' : World} {v : Value} {t : List S42} (h : Kd.R k42 42 w N (fun _ => True) v t) (hb : ∀ (k : Nat) cs, w.heap[k]? = some (Obj.cells cs 42 (0, 0)) → w'.heap[k]? = some (Obj.cells cs 42 (0, 0))) : Kd.R k42 42 w' N (fun _ => True) v t := by
  refine Kd.R_move (Kd.R_mono (ok' := fun k => ∃ cs, w.heap[k]? = some (Obj.cells cs 42 (0, 0))) (Kd.R_bound h) fun k hk => ?_) (fun k hk => ?_) |> fun h => Kd.R_mono h (fun _ _ => trivial)
  · obtain ⟨_, _, _, q, hq, cs, hc⟩ := hk
    have : q = 42 := by simpa [k42, Kd.iso, Kd.pair, Kd.int, Kd.string, Kd.scalar] using hq
    subst this
    exact ⟨cs, hc⟩
  · obtain ⟨cs, hc⟩ := hk
    rw [hc]; exact hb k cs hc

/-- What lies there in a round: the act, its binds, the two arrays. -/
structure RS (w0 : World) (b nm : Nat) (tt : Int) (v : Value) (gs : List Gr) (X : Nat) (xc : Array Value) (v8 : Value) (t : List S42) (p q : Nat) (fw fo : Nat → Int) (W : World) : Prop where
  ms : MS w0 b nm tt v gs W
  x : W.heap[X]? = some (Obj.cells xc 38 (0, 0))
  r8 : Kd.R k42 42 W w0.heap.size (fun _ => True) v8 t
  a1 : W.heap[p]? = some (Obj.cells (arr fw) 48 (0, 0))
  a2 : W.heap[q]? = some (Obj.cells (arr fo) 48 (0, 0))
  lo : w0.heap.size ≤ p ∧ w0.heap.size ≤ q ∧ p ≠ q
section
variable {w0 : World} {b nm : Nat} {tt : Int} {v v8 : Value} {gs : List Gr} {X p q : Nat} {xc : Array Value} {t : List S42} {fw fo : Nat → Int} {W W' : World}
theorem RS.keep (h : RS w0 b nm tt v gs X xc v8 t p q fw fo W) (hb : Below W.heap.size W W') : RS w0 b nm tt v gs X xc v8 t p q fw fo W' :=
  ⟨h.ms.keep hb, (hb.block _ (lt_of_some h.x)).trans h.x, Kd.R_below h.r8 hb, (hb.block _ (lt_of_some h.a1)).trans h.a1, (hb.block _ (lt_of_some h.a2)).trans h.a2, h.lo⟩
theorem RS.ch {v' : Value} {gs' : List Gr} (h : RS w0 b nm tt v gs X xc v8 t p q fw fo W) (hB : Bk w0.heap.size b false tt v' gs' W') (hc : Ch w0.heap.size W W') : RS w0 b nm tt v' gs' X xc v8 t p q fw fo W' := by
  have nw : ∀ cs (e : Nat) z, e ≠ 52 → e ≠ 56 → ¬ Wr (Obj.cells cs e z) := by intro cs e z h1 h2 h; rcases h with h | h <;> contradiction
  exact ⟨h.ms.ch hB hc, hc.block _ _ h.x (.inr (nw _ _ _ (by decide) (by decide))), R42_keep h.r8 (fun k cs hk => hc.block _ _ hk (.inr (nw _ _ _ (by decide) (by decide)))), hc.block _ _ h.a1 (.inr (nw _ _ _ (by decide) (by decide))), hc.block _ _ h.a2 (.inr (nw _ _ _ (by decide) (by decide))), h.lo⟩
theorem MS.set48 {g o : Nat} {x : Value} {cs : Array Value} (h : MS w0 b nm tt v gs W) (hg : W.heap[g]? = some (Obj.cells cs 48 (0, 0))) (lo : w0.heap.size ≤ g) : MS w0 b nm tt v gs (W.setCell ⟨g, o, none⟩ x) := by
  have ot : ∀ k ob, W.heap[k]? = some ob → (∀ cs, ob ≠ Obj.cells cs 48 (0, 0)) → (W.setCell ⟨g, o, none⟩ x).heap[k]? = some ob := fun k ob hk hne => by
    refine (Below.heap_setCell _ _ _ _ ?_).trans hk
    rintro rfl
    rw [hg] at hk; exact hne _ (Option.some.inj hk).symm
  refine ⟨h.bk.keep (fun k ob hk hb => ot k ob hk (fun cs e => ?_)), h.bel.setCell lo _, ot _ _ h.nms (by intro cs e; cases e)⟩
  subst e
  rcases hb with hb | hb <;> cases hb
theorem RS.set1 (h : RS w0 b nm tt v gs X xc v8 t p q fw fo W) (j : Nat) (hj : j < 3) (x : Int) : RS w0 b nm tt v gs X xc v8 t p q (upd fw j x) fo (W.setCell ⟨p, j, none⟩ (.int .i64 x)) := by
  have ot : ∀ k ob, W.heap[k]? = some ob → (∀ cs, ob ≠ Obj.cells cs 48 (0, 0)) → (W.setCell ⟨p, j, none⟩ (.int .i64 x)).heap[k]? = some ob := fun k ob hk hne => by
    refine (Below.heap_setCell _ _ _ _ ?_).trans hk
    rintro rfl
    rw [h.a1] at hk; exact hne _ (Option.some.inj hk).symm
  refine ⟨h.ms.set48 h.a1 h.lo.1, ot _ _ h.x (by intro cs e; cases e), R42_keep h.r8 (fun k cs hk => ot _ _ hk (by intro cs e; cases e)), ?_, (Below.heap_setCell _ _ _ _ (Ne.symm h.lo.2.2)).trans h.a2, h.lo⟩
  simp only [World.setCell, Array.getElem?_modify, h.a1, ← arr_set fw j hj x]
  simp
theorem RS.set2 (h : RS w0 b nm tt v gs X xc v8 t p q fw fo W) (j : Nat) (hj : j < 3) (x : Int) : RS w0 b nm tt v gs X xc v8 t p q fw (upd fo j x) (W.setCell ⟨q, j, none⟩ (.int .i64 x)) := by
  have ot : ∀ k ob, W.heap[k]? = some ob → (∀ cs, ob ≠ Obj.cells cs 48 (0, 0)) → (W.setCell ⟨q, j, none⟩ (.int .i64 x)).heap[k]? = some ob := fun k ob hk hne => by
    refine (Below.heap_setCell _ _ _ _ ?_).trans hk
    rintro rfl
    rw [h.a2] at hk; exact hne _ (Option.some.inj hk).symm
  refine ⟨h.ms.set48 h.a2 h.lo.2.1, ot _ _ h.x (by intro cs e; cases e), R42_keep h.r8 (fun k cs hk => ot _ _ hk (by intro cs e; cases e)), (Below.heap_setCell _ _ _ _ h.lo.2.2).trans h.a1, ?_, h.lo⟩
  simp only [World.setCell, Array.getElem?_modify, h.a2, ← arr_set fo j hj x]
  simp
theorem RS.cells (h : RS w0 b nm tt v gs X xc v8 t p q fw fo W) (j : Nat) (hj : j < 3) : W.cell? ⟨p, j, none⟩ = some (.int .i64 (fw j)) ∧ W.cell? ⟨q, j, none⟩ = some (.int .i64 (fo j)) ∧ W.frozen? ⟨p, j, none⟩ = false ∧ W.frozen? ⟨q, j, none⟩ = false ∧ W.cell? ⟨nm, j, none⟩ = some (.string (nmK j)) := by
  refine ⟨by simp only [World.cell?, h.a1]; exact arr_at fw j hj, by simp only [World.cell?, h.a2]; exact arr_at fo j hj, by simp [World.frozen?, h.a1], by simp [World.frozen?, h.a2], h.ms.nmcell j hj⟩
end
theorem nmK_size (j : Nat) : (nmK j).size ≤ maxLen := by
  match j with
  | 0 => decide
  | 1 => decide
  | _ + 2 => show wC.size ≤ maxLen; decide

/-- What an act has brought about. -/
def Mv (what : Int) (gs' : List Gr) (fw fo : Nat → Int) : Prop := ∀ j, j < 3 → (what < 2 → heldB false gs' (nmK j) = mx (fw j) (fo j)) ∧ (what = 2 ∨ what = 3 → heldB false gs' (nmK j) ≤ fw j) ∧ (what = 4 → heldB false gs' (nmK j) = fo j)

theorem Mv.sent {gs : List Gr} {fw fo : Nat → Int} {t : List S42} (hf : ∀ i, i < 3 → fw i = heldB false gs (nmK i) ∧ fo i = cntK t t.length (nmK i)) (what ver til : Int) (m : Nat) (h2 : what < 2) : Mv what (gs ++ [⟨ver, til, cntK t t.length, m⟩]) fw fo := fun j hj =>
  ⟨fun _ => by rw [held_app, (hf j hj).1, (hf j hj).2], fun h => by omega, fun h => by omega⟩
theorem Mv.drop {gs : List Gr} {fw fo : Nat → Int} {t : List S42} (hf : ∀ i, i < 3 → fw i = heldB false gs (nmK i) ∧ fo i = cntK t t.length (nmK i)) (what : Int) (p : Gr → Bool) (h2 : what = 2 ∨ what = 3) : Mv what (gs.filter p) fw fo := fun j hj =>
  ⟨fun h => by omega, fun _ => by rw [(hf j hj).1]; exact held_filter gs p _, fun h => by omega⟩
theorem Mv.learn {gs : List Gr} {fw fo : Nat → Int} {t : List S42} (hf : ∀ i, i < 3 → fw i = heldB false gs (nmK i) ∧ fo i = cntK t t.length (nmK i)) (what ver til : Int) (m : Nat) (h2 : what = 4) : Mv what [⟨ver, til, cntK t t.length, m⟩] fw fo := fun j hj =>
  ⟨fun h => by omega, fun h => by omega, fun _ => by rw [held_one _ _ (cntK_bd t t.length (nmK j)).1, (hf j hj).2]⟩

set_option maxHeartbeats 4000000 in
set_option maxRecDepth 100000 in
theorem LeaseMoves_any (A : Option Addr) (c : Nat) (l : List S38) (w : World) (hr : Kd.C k38 w A l.length l) (hw : ∀ x ∈ l, Wf38 x) :
    Calls Try.prog 8 #[.slice A l.length c] w fun e w' => e = .returned (.bool true) ∧ Below w.heap.size w w' := by
  have HR := Lib.hid hr
  have HW := Lib.hid hw
  have hm := Kd.C_max hr
  clear hr hw
  go_enter Try.func8, Try.ntmps8
  go_wp2_with (first
    | (go_at_call 9; refine (awake_any _).mono ?_; rintro e w' ⟨rfl, hB⟩)
    | (go_at_call 16; fail))
  refine (New_b (N := w.heap.size) 0 w' hB.size).mono ?_
  rintro e w1 ⟨rfl, hK, hb1⟩
  have HK := Lib.hid hK
  have HB1 := Lib.hid (hB.trans (hb1.mono hB.size))
  have hsz : w.heap.size ≤ w1.heap.size := HB1.out.size
  obtain ⟨b, Hb⟩ : ∃ b, Hid (w'.heap.size = b) := ⟨_, rfl⟩
  rw [Hb.out] at HK ⊢
  clear hK hb1 hB
  go_wp2_with (first | (go_at_call 24; fail))
  refine (Learn_any 0 50 none 0 [] (Kd.C_nil k42 w1) (fun _ h => by cases h) (fun i => by show (⟨#[]⟩ : ByteArray).size ≤ maxLen; decide) (by simp) hsz HK.out).mono ?_
  rintro e w2 ⟨rfl, v, m, hB2, hC2⟩
  have HB2 := Lib.hid hB2
  have HBel := Lib.hid (HB1.out.trans (hC2.below hsz))
  clear hB2 hC2 HK hsz
  go_wp2_with fail
  have HMS : Hid (MS w b w2.heap.size (unt 0 + 4) v [⟨0, 50, cntK [] 0, m⟩] (w2.alloc (.cells #[.string ⟨#[119, 97]⟩, .string ⟨#[119, 98]⟩, .string ⟨#[119, 99]⟩] 9))) :=
    Lib.hid ⟨HB2.out.alloc _, HBel.out.alloc HBel.out.size _, heap_alloc_new w2 _⟩
  clear HB2 HBel HB1 Hb
  generalize w2.heap.size = nm at HMS ⊢
  generalize unt 0 + 4 = tt at HMS
  go_loopw [6] (fun i6 wr => ∃ (i : Nat) (v : Value) (gs : List Gr), i6 = .int .i64 i ∧ i ≤ l.length ∧ Hid (gs.length ≤ i + 1) ∧ Hid (MS w b nm tt v gs wr)) (fun i6 _ => l.length - (intOf i6).toNat)
  case atStart => exact ⟨0, _, _, rfl, Nat.zero_le _, Lib.hid (by simp), HMS.out⟩
  case round =>
    clear HMS
    obtain ⟨i, v, gs, rfl, hi, HG, HM⟩ := hrel
    by_cases hlt : i < l.length
    · by_cases h60 : i < 60
      · have hwf := rd38_wf HW.out i hlt
        obtain ⟨ad, A2, c2, rfl, hx0, hx1, hx2, hx3, hc2, hC2⟩ := at_38 (Kd.C_below HR.out HM.out.bel) (i : Int) (by omega) (by omega)
        rw [Int.toNat_natCast] at hx0 hx1 hx2 hx3
        obtain ⟨x, HX⟩ : ∃ x, Hid (rd38 l i = x) := ⟨_, rfl⟩
        rw [HX.out] at hx0 hx1 hx2 hx3 hc2 hC2 hwf
        obtain ⟨y0, y1, y2, y3⟩ := x
        obtain ⟨f0, f1, f2, f3⟩ := hwf
        obtain ⟨t, hraw, hbin⟩ := binds_any A2 c2 y3 f3
        have HRaw := Lib.hid hraw
        have ht20 := hraw.1
        have HBin := Lib.hid hbin
        have HC2 := Lib.hid hC2
        have HF0 := Lib.hid (wf_bd f0)
        clear f0 f1 f2 f3 hraw hbin hC2 HX
        simp only at hx0 hx1 hx2 hx3 hc2 HC2
        go_wp2_with (first | (go_at_call 23; fail))
        refine (HBin.out _ (Kd.C_alloc HC2.out _) hc2).mono ?_
        rintro e w3 ⟨v8, rfl, hR8, hb3⟩
        have HR8 := Lib.hid hR8
        have HM3 := Lib.hid ((HM.out.keep ((Below.refl _ _).alloc (Nat.le_refl _) _)).keep hb3)
        have hX3 : w3.heap[wr.heap.size]? = some (Obj.cells #[.int .i64 y0, .int .i64 y1, .int .i64 y2, .slice A2 y3.length c2] 38 (0, 0)) := (hb3.block _ (by simp)).trans (heap_alloc_new wr _)
        have HX3 := Lib.hid hX3
        have hsz3 : wr.heap.size < w3.heap.size := lt_of_some hX3
        have hwsz := HM.out.bel.size
        clear hR8 hb3 hX3 hx0 hx1 hx2 hx3 HM HC2
        go_wp2_with fail
        obtain ⟨A8, c8, rfl, hc8, _⟩ := Kd.R_reads HR8.out
        have HRS : Hid (RS w b nm tt v gs wr.heap.size #[.int .i64 y0, .int .i64 y1, .int .i64 y2, .slice A2 y3.length c2] (.slice A8 t.length c8) t w3.heap.size (w3.heap.size + 1) (fun _ => 0) (fun _ => 0) ((w3.alloc (.cells #[.int .i64 0, .int .i64 0, .int .i64 0] 48)).alloc (.cells #[.int .i64 0, .int .i64 0, .int .i64 0] 48))) := by
          refine Lib.hid ⟨?_, ?_, ?_, ?_, ?_, ?_⟩
          · exact HM3.out.keep (((Below.refl _ _).alloc (Nat.le_refl _) _).alloc (by simp) _)
          · exact (Below.heap_alloc _ _ _ (by simp; omega)).trans ((Below.heap_alloc _ _ _ (by omega)).trans HX3.out)
          · refine Kd.R_lower (Kd.R_alloc (Kd.R_alloc HR8.out _) _) ?_
            simp; omega
          · exact (Below.heap_alloc _ _ _ (by simp)).trans (heap_alloc_new w3 _)
          · have := heap_alloc_new (w3.alloc (.cells #[.int .i64 0, .int .i64 0, .int .i64 0] 48)) (.cells #[.int .i64 0, .int .i64 0, .int .i64 0] 48)
            simpa [arr] using this
          · have := HM3.out.bel.size
            omega
        clear HR8 HM3 HX3
        generalize w3.heap.size = p at HRS hsz3 ⊢
        generalize wr.heap.size = X at HRS hsz3 ⊢
        clear hsz3 hwsz
        obtain ⟨xc, HXC⟩ : ∃ xc, Hid (xc = #[Value.int .i64 y0, .int .i64 y1, .int .i64 y2, .slice A2 y3.length c2]) := ⟨_, rfl⟩
        rw [← HXC.out] at HRS
        go_loopw [11] (fun i11 wr => ∃ (j : Nat) (fw fo : Nat → Int), i11 = .int .i64 j ∧ j ≤ 3 ∧ Hid (∀ i, i < j → fw i = heldB false gs (nmK i) ∧ fo i = cntK t t.length (nmK i)) ∧ Hid (∀ i, j ≤ i → fo i = 0) ∧ Hid (RS w b nm tt v gs X xc (.slice A8 t.length c8) t p (p + 1) fw fo wr)) (fun i11 _ => 3 - (intOf i11).toNat)
        case atStart => exact ⟨0, _, _, rfl, by omega, Lib.hid (fun i hi => absurd hi (by omega)), Lib.hid (fun _ _ => rfl), HRS.out⟩
        case round =>
          clear HRS
          obtain ⟨j, fw, fo, rfl, hj, HF, HZ, HRS⟩ := hrel
          by_cases hj3 : j < 3
          · obtain ⟨e1, e2, e3, e4, e5⟩ := HRS.out.cells j hj3
            obtain ⟨h, HH⟩ : ∃ h, Hid (heldB false gs (nmK j) = h) := ⟨_, rfl⟩
            have HHeld := Lib.hid (Held_any (nmK j) (nmK_size j) HRS.out.ms.bk)
            rw [HH.out] at HHeld
            clear e1 e2 e3 e4
            go_wp2_with (first | (go_at_call 32; fail))
            refine HHeld.out.mono ?_
            rintro e w4 ⟨rfl, hb4⟩
            have HRS4 := Lib.hid (HRS.out.keep hb4)
            obtain ⟨e1, e2, e3, e4, e6⟩ := HRS4.out.cells j hj3
            clear hb4 e5 HHeld HRS
            go_wp2_with fail
            have HRS5 := Lib.hid (HRS4.out.set1 j hj3 h)
            have hz := HZ.out j (Nat.le_refl _)
            have HHZ := Lib.hid hz
            clear e1 e2 e3 e4 e6 HRS4 hz
            generalize w4.setCell ⟨p, j, none⟩ (.int .i64 h) = w5 at HRS5 ⊢
            go_loopw [12] (fun i12 wr => ∃ (k : Nat) (fo' : Nat → Int), i12 = .int .i64 k ∧ k ≤ t.length ∧ Hid (fo' j = cntK t k (nmK j) ∧ ∀ i, i ≠ j → fo' i = fo i) ∧ Hid (RS w b nm tt v gs X xc (.slice A8 t.length c8) t p (p + 1) (upd fw j h) fo' wr)) (fun i12 _ => t.length - (intOf i12).toNat)
            case atStart => exact ⟨0, fo, rfl, Nat.zero_le _, Lib.hid ⟨by rw [HHZ.out]; rfl, fun _ _ => rfl⟩, HRS5.out⟩
            case round =>
              clear HRS5
              obtain ⟨k, fo', rfl, hk, HFo, HRS⟩ := hrel
              by_cases hkt : k < t.length
              · go_wp2_with fail
                have HRS6 : Hid (RS w b nm tt v gs X xc (.slice A8 t.length c8) t p (p + 1) (upd fw j h) fo' _) := Lib.hid (HRS.out.keep (Below.refl _ _).drew)
                clear HRS
                obtain ⟨_, e2, _, e4, e5⟩ := HRS6.out.cells j hj3
                obtain ⟨ad8, hA8, hx0, hx1, hx2⟩ := at_T42 (Kd.R_reads' HRS6.out.r8).2.2 (k : Int) (by omega) (by omega)
                subst hA8
                rw [Int.toNat_natCast] at hx0 hx1 hx2
                refine stl_tail 9 (by kernel_rfl) (by kernel_rfl) rfl rfl ?_
                iterate 9 (refine stl_step (fun K hK => ?_); go_simp; (refine hK _ ?_; clear hK K))
                refine stl_nil ?_
                clear e2 e4 e5 hx0 hx1 hx2
                generalize wr.drew = w6 at HRS6 ⊢
                by_cases heq : (rd_T42 t k).f0 = nmK j
                · have hbq : ((rd_T42 t k).f0.toList == (nmK j).toList) = true := beq_iff_eq.2 (toList_inj.2 heq)
                  go_wp2_with fail
                  have HRS7 : Hid (RS w b nm tt v gs X xc (.slice (some ad8) t.length c8) t p (p + 1) (upd fw j h) fo' w6.drew) := Lib.hid (HRS6.out.keep (Below.refl _ _).drew)
                  clear HRS6
                  obtain ⟨_, e2, _, e4, e5⟩ := HRS7.out.cells j hj3
                  obtain ⟨ad9, hA9, hx0, hx1, hx2⟩ := at_T42 (Kd.R_reads' HRS7.out.r8).2.2 (k : Int) (by omega) (by omega)
                  injection hA9 with hA9
                  subst hA9
                  rw [Int.toNat_natCast] at hx0 hx1 hx2
                  have hnum := HRaw.out.num hkt
                  have hcb := cntK_bd t k (nmK j)
                  have hwrap : wrap64 (fo' j + (rd_T42 t k).f2) = cntK t (k + 1) (nmK j) := by
                    rw [HFo.out.1]
                    show _ = (if nmK j = (rd_T42 t k).f0 then cntK t k (nmK j) + num (rd_T42 t k).f2 else _)
                    rw [if_pos heq.symm, hnum.1, w64 (by omega) (by omega)]
                  have HWr := Lib.hid hwrap
                  clear hnum hcb hwrap
                  refine stl_tail 11 (by kernel_rfl) (by kernel_rfl) rfl rfl ?_
                  iterate 11 (refine stl_step (fun K hK => ?_); go_simp; (refine hK _ ?_; clear hK K))
                  refine stl_nil ?_
                  clear e2 e5 hx0 hx1 hx2
                  have e7 := (HRS7.out.cells j hj3).2.1
                  generalize w6.drew = w7 at HRS7 e4 e7 ⊢
                  go_wp2_with fail
                  go_roundw
                  case rel => exact ⟨k + 1, upd fo' j (wrap64 (fo' j + (rd_T42 t k).f2)), by go_num, by omega, Lib.hid ⟨by rw [HWr.out]; simp [upd], fun i hi => by simp [upd, hi]; exact HFo.out.2 i hi⟩, HRS7.out.set2 j hj3 _⟩
                  case measure => simp [intOf]; omega
                · have hbq : ((rd_T42 t k).f0.toList == (nmK j).toList) = false := beq_eq_false_iff_ne.2 (fun e => heq (toList_inj.1 e))
                  have HNe : Hid (cntK t (k + 1) (nmK j) = cntK t k (nmK j)) := Lib.hid (by
                    show (if nmK j = (rd_T42 t k).f0 then _ else cntK t k (nmK j)) = _
                    rw [if_neg (fun e => heq e.symm)])
                  go_wp2_with fail
                  go_roundw
                  case rel => exact ⟨k + 1, fo', by go_num, by omega, Lib.hid ⟨by rw [HNe.out]; exact HFo.out.1, HFo.out.2⟩, HRS6.out⟩
                  case measure => simp [intOf]; omega
              · obtain rfl : k = t.length := by omega
                go_wp2_with fail
                go_roundw
                case rel => exact ⟨j + 1, _, _, by go_num, by omega, Lib.hid (fun i hi => by
                  by_cases e : i = j
                  · subst e; exact ⟨by simp [upd, HH.out], HFo.out.1⟩
                  · have := HF.out i (by omega)
                    exact ⟨by simp [upd, e, this.1], by rw [HFo.out.2 i e, this.2]⟩), Lib.hid (fun i hi => by rw [HFo.out.2 i (by omega)]; exact HZ.out i (by omega)), HRS.out⟩
                case measure => simp [intOf]; omega
          · obtain rfl : j = 3 := by omega
            have d0 : wr.cell? ⟨X, 0, none⟩ = some (.int .i64 y0) := by simp [World.cell?, HRS.out.x, HXC.out]
            have hpb := pk_bd y0 5 (by omega)
            go_upto_block 6 with (go_at_call 13; refine (pick_any _ _ _ (by omega) HF0.out).mono ?_; rintro e w' ⟨rfl, rfl⟩)
            obtain ⟨wt, HWt⟩ : ∃ wt, Hid (pk y0 5 = wt) := ⟨_, rfl⟩
            rw [HWt.out] at hpb ⊢
            obtain ⟨wp, HWp⟩ : ∃ wp : World, Hid (wp = wr) := ⟨_, rfl⟩
            go_cut [] (fun wx => ∃ (v' : Value) (gs' : List Gr), Hid (gs'.length ≤ i + 2) ∧ Hid (RS w b nm tt v' gs' X xc (.slice A8 t.length c8) t p (p + 1) fw fo wx) ∧ Hid (Mv wt gs' fw fo))
            case first =>
              have d1 : wr.cell? ⟨X, 1, none⟩ = some (.int .i64 y1) := by simp [World.cell?, HRS.out.x, HXC.out]
              have d2 : wr.cell? ⟨X, 2, none⟩ = some (.int .i64 y2) := by simp [World.cell?, HRS.out.x, HXC.out]
              have hsz := HRS.out.ms.bel.size
              have hgl : gs.length ≤ 1000000 := by have := HG.out; omega
              have HSent := Lib.hid (Sent_any y1 y2 A8 c8 t (Kd.R_reads' HRS.out.r8).2.2 (HRaw.out.size) (by omega) hgl hsz HRS.out.ms.bk)
              have HLearn := Lib.hid (Learn_any y1 y2 A8 c8 t (Kd.R_reads' HRS.out.r8).2.2 (fun ad e h0 hb => by
                obtain ⟨g, cap, e2, _, _, cs, hc⟩ := Kd.R_form HRS.out.r8 h0
                injection e2 with e2
                rw [e] at e2; injection e2 with e2
                have hbx := HRS.out.ms.bk.box
                rw [← hb, e2] at hbx
                rw [hc] at hbx; cases hbx) (HRaw.out.size) (by omega) hsz HRS.out.ms.bk)
              have HAck := Lib.hid (Acked_any y1 HRS.out.ms.bk)
              have HPass := Lib.hid (Pass_any y2 HRS.out.ms.bk)
              have HGl := Lib.hid hgl
              clear hgl hsz
              obtain rfl | rfl | rfl | rfl | rfl : wt = 0 ∨ wt = 1 ∨ wt = 2 ∨ wt = 3 ∨ wt = 4 := by omega
              · go_wp2_with (first | (go_at_call 26; fail))
                refine HSent.out.mono ?_
                rintro e w9 ⟨rfl, v', m, hB, hC⟩
                have H9 := Lib.hid (HRS.out.ch hB hC)
                clear hB hC HSent HLearn HAck HPass d0 d1 d2
                go_wp2_with fail
                go_meet
                exact ⟨v', _, Lib.hid (by have := HG.out; simp; omega), H9, Lib.hid (Mv.sent HF.out _ _ _ _ (by omega))⟩
              · go_wp2_with (first | (go_at_call 26; fail))
                refine HSent.out.mono ?_
                rintro e w9 ⟨rfl, v', m, hB, hC⟩
                have H9 := Lib.hid (HRS.out.ch hB hC)
                clear hB hC HSent HLearn HAck HPass d0 d1 d2
                go_wp2_with fail
                go_meet
                exact ⟨v', _, Lib.hid (by have := HG.out; simp; omega), H9, Lib.hid (Mv.sent HF.out _ _ _ _ (by omega))⟩
              · go_wp2_with (first | (go_at_call 28; fail))
                refine HAck.out.mono ?_
                rintro e w9 ⟨rfl, ⟨v', hB⟩, hC⟩
                have H9 := Lib.hid (HRS.out.ch hB hC)
                clear hB hC HSent HLearn HAck HPass d0 d1 d2
                go_wp2_with fail
                go_meet
                exact ⟨v', _, Lib.hid (Nat.le_trans (List.length_filter_le _ _) (by have := HG.out; omega)), H9, Lib.hid (Mv.drop HF.out _ _ (by omega))⟩
              · go_wp2_with (first | (go_at_call 18; fail))
                refine HPass.out.mono ?_
                rintro e w9 ⟨rfl, ⟨v', hB⟩, hC⟩
                rw [Bool.false_and] at hB
                have H9 := Lib.hid (HRS.out.ch hB hC)
                clear hB hC HSent HLearn HAck HPass d0 d1 d2
                go_wp2_with fail
                go_meet
                exact ⟨v', _, Lib.hid (Nat.le_trans (List.length_filter_le _ _) (by have := HG.out; omega)), H9, Lib.hid (Mv.drop HF.out _ _ (by omega))⟩
              · go_wp2_with (first | (go_at_call 24; fail))
                refine HLearn.out.mono ?_
                rintro e w9 ⟨rfl, v', m, hB, hC⟩
                have H9 := Lib.hid (HRS.out.ch hB hC)
                clear hB hC HSent HLearn HAck HPass d0 d1 d2
                go_wp2_with fail
                go_meet
                exact ⟨v', _, Lib.hid (by simp), H9, Lib.hid (Mv.learn HF.out _ _ _ _ (by omega))⟩
            case rest =>
              obtain ⟨v', gs', HG', HRS', HMv⟩ := hcut
              clear HRS HF HZ d0 HWp
              go_wp2_with fail
              go_loopw [14] (fun i14 wr => ∃ j : Nat, i14 = .int .i64 j ∧ j ≤ 3 ∧ Hid (RS w b nm tt v' gs' X xc (.slice A8 t.length c8) t p (p + 1) fw fo wr)) (fun i14 _ => 3 - (intOf i14).toNat)
              case atStart => exact ⟨0, rfl, by omega, HRS'.out⟩
              case round =>
                clear HRS'
                obtain ⟨j, rfl, hj, HRS⟩ := hrel
                by_cases hj3 : j < 3
                · obtain ⟨e1, e2, e3, e4, e5⟩ := HRS.out.cells j hj3
                  have HHeld := Lib.hid (Held_any (nmK j) (nmK_size j) HRS.out.ms.bk)
                  obtain ⟨h, HH⟩ : ∃ h, Hid (heldB false gs' (nmK j) = h) := ⟨_, rfl⟩
                  rw [HH.out] at HHeld
                  have hmv := HMv.out j hj3
                  rw [HH.out] at hmv
                  have HV := Lib.hid hmv
                  clear hmv e1 e2 e3 e4
                  go_wp2_with (first | (go_at_call 32; fail))
                  refine HHeld.out.mono ?_
                  rintro e w4 ⟨rfl, hb4⟩
                  have HRS4 := Lib.hid (HRS.out.keep hb4)
                  clear hb4 e5 HHeld HRS
                  go_wp2_with fail
                  obtain ⟨e1, e2, e3, e4, e6⟩ := HRS4.out.cells j hj3
                  obtain rfl | rfl | rfl | rfl | rfl : wt = 0 ∨ wt = 1 ∨ wt = 2 ∨ wt = 3 ∨ wt = 4 := by omega
                  · by_cases hmx : fw j < fo j
                    · obtain rfl : h = fo j := by rw [HV.out.1 (by omega)]; unfold mx; rw [if_pos hmx]
                      have hn : (fo j != fo j) = false := by simp
                      go_quiet (fail)
                      have HRS5 := Lib.hid (HRS4.out.keep (pw_below_drewN (Below.refl _ _) nq))
                      clear e1 e2 e3 e4 e6 HRS4
                      go_wp2_with fail
                      go_roundw
                      case rel => exact ⟨j + 1, by go_num, by omega, HRS5.out⟩
                      case measure => simp [intOf]; omega
                    · obtain rfl : h = fw j := by rw [HV.out.1 (by omega)]; unfold mx; rw [if_neg hmx]
                      have hn : (fw j != fw j) = false := by simp
                      go_quiet (fail)
                      have HRS5 := Lib.hid (HRS4.out.keep (pw_below_drewN (Below.refl _ _) nq))
                      clear e1 e2 e3 e4 e6 HRS4
                      go_wp2_with fail
                      go_roundw
                      case rel => exact ⟨j + 1, by go_num, by omega, HRS5.out⟩
                      case measure => simp [intOf]; omega
                  · by_cases hmx : fw j < fo j
                    · obtain rfl : h = fo j := by rw [HV.out.1 (by omega)]; unfold mx; rw [if_pos hmx]
                      have hn : (fo j != fo j) = false := by simp
                      go_quiet (fail)
                      have HRS5 := Lib.hid (HRS4.out.keep (pw_below_drewN (Below.refl _ _) nq))
                      clear e1 e2 e3 e4 e6 HRS4
                      go_wp2_with fail
                      go_roundw
                      case rel => exact ⟨j + 1, by go_num, by omega, HRS5.out⟩
                      case measure => simp [intOf]; omega
                    · obtain rfl : h = fw j := by rw [HV.out.1 (by omega)]; unfold mx; rw [if_neg hmx]
                      have hn : (fw j != fw j) = false := by simp
                      go_quiet (fail)
                      have HRS5 := Lib.hid (HRS4.out.keep (pw_below_drewN (Below.refl _ _) nq))
                      clear e1 e2 e3 e4 e6 HRS4
                      go_wp2_with fail
                      go_roundw
                      case rel => exact ⟨j + 1, by go_num, by omega, HRS5.out⟩
                      case measure => simp [intOf]; omega
                  · have hle : ¬ fw j < h := by have := HV.out.2.1 (by omega); omega
                    have hd : decide (fw j < h) = false := decide_eq_false hle
                    go_quiet (fail)
                    have HRS5 := Lib.hid (HRS4.out.keep (pw_below_drewN (Below.refl _ _) nq))
                    clear e1 e2 e3 e4 e6 HRS4
                    go_wp2_with fail
                    go_roundw
                    case rel => exact ⟨j + 1, by go_num, by omega, HRS5.out⟩
                    case measure => simp [intOf]; omega
                  · have hle : ¬ fw j < h := by have := HV.out.2.1 (by omega); omega
                    have hd : decide (fw j < h) = false := decide_eq_false hle
                    go_quiet (fail)
                    have HRS5 := Lib.hid (HRS4.out.keep (pw_below_drewN (Below.refl _ _) nq))
                    clear e1 e2 e3 e4 e6 HRS4
                    go_wp2_with fail
                    go_roundw
                    case rel => exact ⟨j + 1, by go_num, by omega, HRS5.out⟩
                    case measure => simp [intOf]; omega
                  · obtain rfl : h = fo j := HV.out.2.2 rfl
                    have hn : (fo j != fo j) = false := by simp
                    go_quiet (fail)
                    have HRS5 := Lib.hid (HRS4.out.keep (pw_below_drewN (Below.refl _ _) nq))
                    clear e1 e2 e3 e4 e6 HRS4
                    go_wp2_with fail
                    go_roundw
                    case rel => exact ⟨j + 1, by go_num, by omega, HRS5.out⟩
                    case measure => simp [intOf]; omega
                · obtain rfl : j = 3 := by omega
                  go_wp2_with fail
                  go_roundw
                  case rel => exact ⟨i + 1, _, _, by go_num, by omega, HG'.out, HRS.out.ms⟩
                  case measure => simp [intOf]; omega
      · have HM2 := HM
        go_wp2_with (go_at_call 17; refine (Known_b HM2.out.bk).mono ?_; rintro e w' ⟨rfl, rfl⟩)
        go_ret
        exact ⟨rfl, HM.out.bel⟩
    · go_wp2_with (go_at_call 17; refine (Known_b HM.out.bk).mono ?_; rintro e w' ⟨rfl, rfl⟩)
      go_ret
      exact ⟨rfl, HM.out.bel⟩
end Go.Proofs.Ytcmaoldklldfmaa.P
