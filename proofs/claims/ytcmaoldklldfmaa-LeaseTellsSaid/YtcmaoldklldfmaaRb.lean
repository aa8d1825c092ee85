/- The document's book: its calls walked. -/
import Derived.Test.YtcmaoldklldfmaaHm
import Derived.Deep.QuietTactic
import Derived.BigQuiet
import Derived.StillTailTactics
import Derived.Deep.RegionWith
import Derived.Deep.DeepCutAuto
import Derived.Deep.CutBlock
namespace Go.Proofs.Ytcmaoldklldfmaa.P
open Go.RowKit Go.Proofs.YtcmaoldklldfmaaW.PrintWords Go.Proofs.YtcmaoldklldfmaaW.PrintLast Go.Proofs.YtcmaoldklldfmaaW.PrintMore
attribute [local go_sem] max2_int min2_int
set_option linter.unusedSimpArgs false
set_option linter.unusedVariables false

/-- The document's book at block b; ok: where its rows may lie. -/
structure Rk (N b : Nat) (ok : Nat → Prop) (u : Bool) (t : Int) (v : Value) (rs : List S62) (w : World) : Prop where
  lo : N ≤ b
  box : w.heap[b]? = some (Obj.cells #[.bool u, .int .i64 t, v] 60 (0, 0))
  row : Kd.R k62 62 w N ok v rs
theorem k62_E : ∀ q, q ∈ 62 :: k62.E → q = 62 ∨ q = 42 := by
  intro q hq
  simpa [k62, k42, Kd.slice, Kd.iso, Kd.pair, Kd.int, Kd.string, Kd.scalar] using hq
theorem info62 : (Try.prog.info? 62).map (fun i => (i.zero, i.size, i.bytes)) = some (some (.agg #[.int .i64 0, .int .i64 0, .slice none 0 0]), 3, 40) := by kernel_rfl
def WrR : Obj → Prop
  | .cells _ e _ => e = 60 ∨ e = 62
  | _ => False
structure ChR (N : Nat) (w w' : World) : Prop where
  os : w'.os = w.os
  tape : w'.tape = w.tape
  output : w'.output = w.output
  size : w.heap.size ≤ w'.heap.size
  block : ∀ (k : Nat) o, w.heap[k]? = some o → (k < N ∨ ¬ WrR o) → w'.heap[k]? = some o
theorem ChR.refl (N : Nat) (w : World) : ChR N w w := ⟨rfl, rfl, rfl, Nat.le_refl _, fun _ _ h _ => h⟩
theorem ChR.trans {N : Nat} {a b c : World} (h : ChR N a b) (k : ChR N b c) : ChR N a c := ⟨k.os.trans h.os, k.tape.trans h.tape, k.output.trans h.output, Nat.le_trans h.size k.size, fun i o hi ho => k.block i o (h.block i o hi ho) ho⟩
theorem ChR.of_below {N : Nat} {w w' : World} (h : Below w.heap.size w w') : ChR N w w' := ⟨h.os, h.tape, h.output, h.size, fun k o hk _ => (h.block k (lt_of_some hk)).trans hk⟩
theorem ChR.below {N : Nat} {w w' : World} (h : ChR N w w') (hN : N ≤ w.heap.size) : Below N w w' := ⟨h.os, h.tape, h.output, h.size, fun k hk => by
  obtain ⟨o, ho⟩ : ∃ o, w.heap[k]? = some o := ⟨_, Array.getElem?_eq_getElem (by omega)⟩
  rw [ho]; exact h.block k o ho (.inl hk)⟩
theorem ChR.of_grown {N : Nat} {w w' : World} {r : Option Nat} (hg : w.grownBy w' r) (hr : ∀ k, r = some k → N ≤ k ∧ ∀ o, w.heap[k]? = some o → WrR o) : ChR N w w' := ⟨hg.os, hg.tape, hg.output, hg.size, fun k o hk ho => by
  refine (hg.block k (lt_of_some hk) (fun e => ?_)).trans hk
  obtain ⟨h1, h2⟩ := hr k e.symm
  rcases ho with h | h
  · omega
  · exact h (h2 o hk)⟩
section
variable {N b : Nat} {ok ok' : Nat → Prop} {u : Bool} {t : Int} {v : Value} {rs : List S62} {w w' : World}
theorem row62_keep (h : Kd.R k62 62 w N ok v rs) (hb : ∀ (k : Nat) cs (e : Nat), w.heap[k]? = some (Obj.cells cs e (0, 0)) → ok k → (e = 62 ∨ e = 42) → w'.heap[k]? = some (Obj.cells cs e (0, 0))) : Kd.R k62 62 w' N ok v rs := by
  refine Kd.R_move (Kd.R_mono (ok' := fun k => ok k ∧ ∃ q, q ∈ 62 :: k62.E ∧ ∃ cs, w.heap[k]? = some (Obj.cells cs q (0, 0))) (Kd.R_bound h) fun k hk => ⟨hk.1, hk.2.2.2⟩) (fun k hk => ?_) |> fun h => Kd.R_mono h (fun _ h => h.1)
  obtain ⟨ho, q, hq, cs, hc⟩ := hk
  rw [hc]; exact hb k cs q hc ho (k62_E q hq)
theorem Rk.keep (h : Rk N b ok u t v rs w) (hb : ∀ (k : Nat) cs (e : Nat), w.heap[k]? = some (Obj.cells cs e (0, 0)) → (e = 60 ∨ (ok k ∧ (e = 62 ∨ e = 42))) → w'.heap[k]? = some (Obj.cells cs e (0, 0))) : Rk N b ok u t v rs w' :=
  ⟨h.lo, hb _ _ _ h.box (.inl rfl), row62_keep h.row (fun k cs e hk ho he => hb k cs e hk (.inr ⟨ho, he⟩))⟩
theorem Rk.below (h : Rk N b ok u t v rs w) (hb : Below w.heap.size w w') : Rk N b ok u t v rs w' := h.keep fun k cs e hk _ => (hb.block k (lt_of_some hk)).trans hk
theorem Rk.mono (h : Rk N b ok u t v rs w) (ho : ∀ k, k < w.heap.size → ok k → ok' k) : Rk N b ok' u t v rs w := ⟨h.lo, h.box, Kd.R_mono (Kd.R_bound h.row) (fun k hk => ho k hk.2.2.1 hk.1)⟩
theorem Rk.lt (h : Rk N b ok u t v rs w) : b < w.heap.size := lt_of_some h.box
theorem Rk.cells (h : Rk N b ok u t v rs w) : w.cell? ⟨b, 0, none⟩ = some (.bool u) ∧ w.cell? ⟨b, 1, none⟩ = some (.int .i64 t) ∧ w.cell? ⟨b, 2, none⟩ = some v ∧ w.frozen? ⟨b, 0, none⟩ = false ∧ w.frozen? ⟨b, 1, none⟩ = false ∧ w.frozen? ⟨b, 2, none⟩ = false := by
  have hb := h.box
  refine ⟨by simp [World.cell?, hb], by simp [World.cell?, hb], by simp [World.cell?, hb], by simp [World.frozen?, hb], by simp [World.frozen?, hb], by simp [World.frozen?, hb]⟩
theorem rbox_set {o : Nat} {cs : Array Value} {x : Value} (hb : w.heap[b]? = some (Obj.cells cs 60 (0, 0))) :
    (w.setCell ⟨b, o, none⟩ x).heap[b]? = some (Obj.cells (cs.setIfInBounds o x) 60 (0, 0)) := by
  simp only [World.setCell, Array.getElem?_modify, hb]
  simp
theorem rbox_other {o : Nat} {x : Value} {cs : Array Value} (hb : w.heap[b]? = some (Obj.cells cs 60 (0, 0))) {k : Nat} {ob : Obj} (hk : w.heap[k]? = some ob) (hne : ∀ cs, ob ≠ Obj.cells cs 60 (0, 0)) : (w.setCell ⟨b, o, none⟩ x).heap[k]? = some ob := by
  refine (Below.heap_setCell _ _ _ _ ?_).trans hk
  rintro rfl
  rw [hb] at hk
  exact hne _ (Option.some.inj hk).symm
theorem Rk.setU (h : Rk N b ok u t v rs w) (u' : Bool) : Rk N b ok u' t v rs (w.setCell ⟨b, 0, none⟩ (.bool u')) :=
  ⟨h.lo, by simpa using rbox_set (o := 0) h.box, row62_keep h.row (fun k cs e hk _ he => rbox_other h.box hk (by intro cs e2; rcases he with rfl | rfl <;> cases e2))⟩
theorem Rk.setV {v0 v' : Value} {rs' : List S62} (lo : N ≤ b) (hb : w.heap[b]? = some (Obj.cells #[.bool u, .int .i64 t, v0] 60 (0, 0))) (hr : Kd.R k62 62 w N ok v' rs') : Rk N b ok u t v' rs' (w.setCell ⟨b, 2, none⟩ v') :=
  ⟨lo, by simpa using rbox_set (o := 2) hb, row62_keep hr (fun k cs e hk _ he => rbox_other hb hk (by intro cs e2; rcases he with rfl | rfl <;> cases e2))⟩
theorem chR_set {cs : Array Value} (lo : N ≤ b) (hb : w.heap[b]? = some (Obj.cells cs 60 (0, 0))) (o : Nat) (x : Value) : ChR N w (w.setCell ⟨b, o, none⟩ x) :=
  ChR.of_grown box_grown (fun k hk => by cases hk; exact ⟨lo, fun o ho => by rw [hb] at ho; cases ho; exact .inl rfl⟩)
theorem Rk.row_grown (h : Rk N b ok u t v rs w) (hg : w.grownBy w' v.ownBlock) : w'.heap[b]? = some (Obj.cells #[.bool u, .int .i64 t, v] 60 (0, 0)) ∧ ChR N w w' := by
  have ty := Kd.R_typed h.row
  refine ⟨(hg.block b h.lt (fun e => ?_)).trans h.box, ChR.of_grown hg (fun k hk => ⟨Kd.R_base h.row k hk, fun o ho => ?_⟩)⟩
  · obtain ⟨cs, hc⟩ := ty b e.symm
    rw [h.box] at hc; cases hc
  · obtain ⟨cs, hc⟩ := ty k hk
    rw [ho] at hc; cases hc; exact .inr rfl
end

theorem rNew_b {N : Nat} (c : Int) (w : World) (hN : N ≤ w.heap.size) :
    Calls Try.prog 19 #[.int .i64 c] w fun e w' => e = .returned (.pointer (some ⟨w.heap.size, 0, none⟩)) ∧ Rk N w.heap.size (fun _ => True) true (unt c + 4) (.slice none 0 0) [] w' ∧ Below w.heap.size w w' := by
  have hb := whn_bd c
  have hb2 : unt c = whn c + 20 := rfl
  have hb3 : -1099511627776 + 20 ≤ unt c ∧ unt c ≤ 1099511627776 + 20 := by unfold unt; omega
  clear hb2
  go_enter Try.func19, Try.ntmps19
  go_wp2_with (go_at_call 20; refine (rUntil_any _ _).mono ?_; rintro e w' ⟨rfl, rfl⟩)
  go_ret
  exact ⟨rfl, ⟨hN, heap_alloc_new w _, Kd.R_nil _ _ _ _ _⟩, (Below.refl _ _).alloc (Nat.le_refl _) _⟩

theorem rKnown_b {N b : Nat} {ok : Nat → Prop} {u : Bool} {t : Int} {v : Value} {rs : List S62} {w : World} (h : Rk N b ok u t v rs w) :
    Calls Try.prog 31 #[.pointer (some ⟨b, 0, none⟩)] w fun e w' => e = .returned (.bool (!u)) ∧ w = w' := by
  obtain ⟨c0, c1, c2, _, _, _⟩ := h.cells
  clear h
  go_enter Try.func31, Try.ntmps31
  go_wp2_with fail
  go_ret
  exact ⟨rfl, rfl⟩

set_option maxHeartbeats 1600000 in
theorem rSent_any {N b : Nat} {ok : Nat → Prop} {u : Bool} {t : Int} {v : Value} {rs : List S62} {w : World} (ver til : Int) (A : Option Addr) (c : Nat) (l : List S42) (hl : Kd.C k42 w A l.length l) (hll : l.length ≤ 1000000) (hgl : rs.length ≤ 1000000) (hN : N ≤ w.heap.size) (hf : ∀ k, w.heap.size ≤ k → ok k) (h : Rk N b ok u t v rs w) :
    Calls Try.prog 27 #[.pointer (some ⟨b, 0, none⟩), .int .i64 ver, .int .i64 til, .slice A l.length c] w fun e w' => e = .returned (.tuple #[]) ∧ ∃ v', Rk N b ok u t v' (rs ++ [⟨ver, til, l⟩]) w' ∧ ChR N w w' := by
  have HLL := Lib.hid hll
  have HGL := Lib.hid hgl
  have HB8 := Lib.hid (h.below (w' := w.drew) (Below.refl _ _).drew)
  have HN8 : Hid (N ≤ w.drew.heap.size) := Lib.hid hN
  have HF8 : Hid (∀ k, w.drew.heap.size ≤ k → ok k) := Lib.hid hf
  have HL8 : Hid (Kd.C k42 w.drew A l.length l) := Lib.hid (Kd.C_drew hl)
  have t0 : w.drew.cell? ⟨b, 2, none⟩ = some v := HB8.out.cells.2.2.1
  have HC8 : Hid (ChR N w w.drew) := Lib.hid (ChR.of_below (Below.refl _ _).drew)
  clear hl hll hgl hN hf h
  go_enter Try.func27, Try.ntmps27
  go_wp2_with fail
  refine start_ (n := 16) (S := fun w' => w'.cell? ⟨b, 2, none⟩ = some v ∧ True) (ds := [12,15]) #[false, false, false, false, false, false, false, false, false, false, false, false, false, false, false, false] (by kernel_rfl) rfl rfl ⟨t0, trivial⟩ (fun hHeld => ?_)
  clear t0
  generalize w.drew = w8 at HB8 HN8 HL8 HF8 HC8 hHeld ⊢
  refine pure_ (i := 0) (N := (some 9)) (v := ?_) (a' := ?_) #[true, false, false, false, false, false, false, false, false, false, false, false, false, false, false, false] rfl rfl (by kernel_rfl) (fun _ _ _ h => h) (Or.inl ⟨by rfl, ?_⟩) ?_ ?_
  rotate_left
  · intro w'
    go_simp
    with_reducible rfl
  rotate_left
  · simp only [Act.put, List.setIfInBounds_toArray, List.set_cons_zero, List.set_cons_succ, i64_w, i32_w]
    rfl
  refine pure_ (i := 1) (N := (some 10)) (v := ?_) (a' := ?_) #[true, true, false, false, false, false, false, false, false, false, false, false, false, false, false, false] rfl rfl (by kernel_rfl) (fun _ _ _ h => h) (Or.inl ⟨by rfl, ?_⟩) ?_ ?_
  rotate_left
  · intro w'
    go_simp
    with_reducible rfl
  rotate_left
  · simp only [Act.put, List.setIfInBounds_toArray, List.set_cons_zero, List.set_cons_succ, i64_w, i32_w]
    rfl
  refine pure_ (i := 2) (N := (some 11)) (v := ?_) (a' := ?_) #[true, true, true, false, false, false, false, false, false, false, false, false, false, false, false, false] rfl rfl (by kernel_rfl) (fun _ _ _ h => h) (Or.inl ⟨by rfl, ?_⟩) ?_ ?_
  rotate_left
  · intro w'
    go_simp
    with_reducible rfl
  rotate_left
  · simp only [Act.put, List.setIfInBounds_toArray, List.set_cons_zero, List.set_cons_succ, i64_w, i32_w]
    rfl
  refine pure_ (i := 3) (N := (some 12)) (v := ?_) (a' := ?_) #[true, true, true, true, false, false, false, false, false, false, false, false, false, false, false, false] rfl rfl (by kernel_rfl) (fun _ _ _ h => h) (Or.inl ⟨by rfl, ?_⟩) ?_ ?_
  rotate_left
  · intro w'
    go_simp
    with_reducible rfl
  rotate_left
  · simp only [Act.put, List.setIfInBounds_toArray, List.set_cons_zero, List.set_cons_succ, i64_w, i32_w]
    rfl
  refine take_ (i := 4) (N := (some 13)) (v := ?_) (a' := ?_) #[true, true, true, true, true, false, false, false, false, false, false, false, false, false, false, false] rfl rfl (by kernel_rfl) (fun _ _ _ h => h) (Or.inl ⟨by rfl, ?_⟩) hHeld ?_ ?_
  rotate_left
  · rintro w' ⟨e0, e1⟩
    go_simp
    with_reducible rfl
  rotate_left
  · simp only [Act.put, List.setIfInBounds_toArray, List.set_cons_zero, List.set_cons_succ, i64_w, i32_w]
    rfl
  refine pure_ (i := 5) (N := (some 14)) (v := ?_) (a' := ?_) #[true, true, true, true, true, true, false, false, false, false, false, false, false, false, false, false] rfl rfl (by kernel_rfl) (fun _ _ _ h => h) (Or.inl ⟨by rfl, ?_⟩) ?_ ?_
  rotate_left
  · intro w'
    go_simp
    with_reducible rfl
  rotate_left
  · simp only [Act.put, List.setIfInBounds_toArray, List.set_cons_zero, List.set_cons_succ, i64_w, i32_w]
    rfl
  refine pure_ (i := 6) (N := (some 15)) (v := ?_) (a' := ?_) #[true, true, true, true, true, true, true, false, false, false, false, false, false, false, false, false] rfl rfl (by kernel_rfl) (fun _ _ _ h => h) (Or.inl ⟨by rfl, ?_⟩) ?_ ?_
  rotate_left
  · intro w'
    go_simp
    with_reducible rfl
  rotate_left
  · simp only [Act.put, List.setIfInBounds_toArray, List.set_cons_zero, List.set_cons_succ, i64_w, i32_w]
    rfl
  refine pure_ (i := 7) (N := (some 16)) (v := ?_) (a' := ?_) #[true, true, true, true, true, true, true, true, false, false, false, false, false, false, false, false] rfl rfl (by kernel_rfl) (fun _ _ _ h => h) (Or.inl ⟨by rfl, ?_⟩) ?_ ?_
  rotate_left
  · intro w'
    go_simp
    with_reducible rfl
  rotate_left
  · simp only [Act.put, List.setIfInBounds_toArray, List.set_cons_zero, List.set_cons_succ, i64_w, i32_w]
    rfl
  refine pure_ (i := 8) (N := (some 17)) (v := ?_) (a' := ?_) #[true, true, true, true, true, true, true, true, true, false, false, false, false, false, false, false] rfl rfl (by kernel_rfl) (fun _ _ _ h => h) (Or.inl ⟨by rfl, ?_⟩) ?_ ?_
  rotate_left
  · intro w'
    go_simp
    with_reducible rfl
  rotate_left
  · simp only [Act.put, List.setIfInBounds_toArray, List.set_cons_zero, List.set_cons_succ, i64_w, i32_w]
    rfl
  refine one_ (i := 9) (N := (some 18)) #[true, true, true, true, true, true, true, true, true, true, false, false, false, false, false, false] rfl rfl (by kernel_rfl) (by decide) (fun K hK => ?_)
  refine Kd.R_append_rows_step k42 (w0 := w8) N (by rfl) (.tmp 16) (.tmp 17) 33 42 (.agg #[(.string ⟨#[]⟩), (.string ⟨#[]⟩), (.int .i64 0)]) 40 rfl Try.underlying33 info42 rfl (by decide) (by omega) (.slice none 0 0) ([] : List S42) l A l.length c (fun k => w8.heap.size ≤ k) (fun _ => False) rfl rfl (Kd.R_nil _ _ _ _ _) HL8.out (fun x cs hx => by obtain rfl := k42_open hx; exact k42_mkM _ _ _ x) (fun _ h => h.elim) (fun _ h => h) (Below.refl _ _) HN8.out (by have := HLL.out; simp; omega) ?_
  intro v1 w1 ho1 hb1 hg1 hat1
  rw [List.nil_append] at ho1
  obtain ⟨Aw, cw, hvw⟩ := Kd.R_slice ho1
  subst hvw
  have HO1 := Lib.hid ho1
  have HG1 := Lib.hid hg1
  have HB1 : Hid (Below w8.heap.size w8 w1) := Lib.hid ⟨hg1.os, hg1.tape, hg1.output, hg1.size, fun k hk => hg1.block k hk (by simp [Value.ownBlock])⟩
  clear ho1 hb1 hg1 hat1
  refine hK.out _ _ ?_ (fun _ => ?_)
  · exact ⟨(HB1.out.cell (p := ⟨b, 2, none⟩) HB8.out.lt).trans hHeld.1, trivial⟩
  clear hK K
  refine norm_ (a' := ?_) ?_ ?_
  rotate_left
  · show Act.put _ (some 18) _ = _
    simp only [Act.put, List.setIfInBounds_toArray, List.set_cons_zero, List.set_cons_succ, i64_w, i32_w]
    rfl
  have hHeld1 : w1.cell? ⟨b, 2, none⟩ = some v := (HB1.out.cell (p := ⟨b, 2, none⟩) HB8.out.lt).trans hHeld.1
  refine pure_ (i := 10) (N := (some 19)) (v := ?_) (a' := ?_) #[true, true, true, true, true, true, true, true, true, true, true, false, false, false, false, false] rfl rfl (by kernel_rfl) (fun _ _ _ h => h) (Or.inl ⟨by rfl, ?_⟩) ?_ ?_
  rotate_left
  · intro w'
    go_simp
    with_reducible rfl
  rotate_left
  · simp only [Act.put, List.setIfInBounds_toArray, List.set_cons_zero, List.set_cons_succ, i64_w, i32_w]
    rfl
  refine one_ (i := 11) (N := (some 20)) #[true, true, true, true, true, true, true, true, true, true, true, true, false, false, false, false] rfl rfl (by kernel_rfl) (by decide) (fun K hK => ?_)
  refine value_ (w1 := ?_) (v := ?_) (by rfl) rfl ?_ ?_
  rotate_left 2
  · go_simp
    first | done | rfl | (constructor <;> rfl)
  refine hK.out _ _ ?_ (fun _ => ?_)
  · exact ⟨Lib.cell?_alloc_some _ hHeld1, trivial⟩
  clear hK K
  refine norm_ (a' := ?_) ?_ ?_
  rotate_left
  · show Act.put _ (some 20) _ = _
    simp only [Act.put, List.setIfInBounds_toArray, List.set_cons_zero, List.set_cons_succ, i64_w, i32_w]
    rfl
  clear hHeld hHeld1
  have HBk1 := Lib.hid (HB8.out.below HB1.out)
  have HN1 : Hid (N ≤ w1.heap.size) := Lib.hid (Nat.le_trans HN8.out HB1.out.size)
  refine last_ (i := 12) (N := (some 21)) #[true, true, true, true, true, true, true, true, true, true, true, true, true, false, false, false] rfl rfl (by kernel_rfl) (by decide) (fun K hK => ?_)
  refine Kd.R_append_step k62 (w0 := w1) N (by rfl) (.tmp 13) (.tmp 20) 58 62 (.agg #[.int .i64 0, .int .i64 0, .slice none 0 0]) 40 rfl Try.underlying58 info62 rfl (by decide) (by omega) v rs (⟨ver, til, l⟩ : S62) [.int .i64 ver, .int .i64 til, .slice Aw l.length cw] ok (fun k => w8.heap.size ≤ k) rfl rfl (k62_mkM _ _ _ (⟨ver, til, l⟩ : S62) HO1.out) (fun k hk => ⟨HF8.out k hk, fun e => by have := Kd.R_lt HB8.out.row k e.symm; omega⟩) (fun k hk => HF8.out k (Nat.le_trans HB1.out.size hk)) HBk1.out.row (Below.refl _ _) HN1.out (by have := HGL.out; omega) ?_
  intro v2 w2 ho2 hb2 hg2 hat2
  have HO2 := Lib.hid ho2
  have HG2 := Lib.hid hg2
  clear ho2 hb2 hg2 hat2
  refine hK.out _ _ ?_
  clear hK K
  refine norm_ (a' := ?_) ?_ ?_
  rotate_left
  · show Act.put _ (some 21) _ = _
    simp only [Act.put, List.setIfInBounds_toArray, List.set_cons_zero, List.set_cons_succ, i64_w, i32_w]
    rfl
  refine pure_ (i := 13) (N := (some 22)) (v := ?_) (a' := ?_) #[true, true, true, true, true, true, true, true, true, true, true, true, true, true, false, false] rfl rfl (by kernel_rfl) (fun _ _ _ h => h) (Or.inl ⟨by rfl, ?_⟩) ?_ ?_
  rotate_left
  · intro w'
    go_simp
    with_reducible rfl
  rotate_left
  · simp only [Act.put, List.setIfInBounds_toArray, List.set_cons_zero, List.set_cons_succ, i64_w, i32_w]
    rfl
  refine pure_ (i := 14) (N := (some 23)) (v := ?_) (a' := ?_) #[true, true, true, true, true, true, true, true, true, true, true, true, true, true, true, false] rfl rfl (by kernel_rfl) (fun _ _ _ h => h) (Or.inl ⟨by rfl, ?_⟩) ?_ ?_
  rotate_left
  · intro w'
    go_simp
    with_reducible rfl
  rotate_left
  · simp only [Act.put, List.setIfInBounds_toArray, List.set_cons_zero, List.set_cons_succ, i64_w, i32_w]
    rfl
  obtain ⟨hbx1, _⟩ := HBk1.out.row_grown HG2.out
  have f1 : w2.frozen? ⟨b, 2, none⟩ = false := by simp [World.frozen?, hbx1]
  have f2 : w2.cell? ⟨b, 2, none⟩ = some v := by simp [World.cell?, hbx1]
  have HBX1 := Lib.hid hbx1
  clear hbx1
  have HO3 := Lib.hid HO2.out
  obtain ⟨A1, c1, hv1⟩ := Kd.R_slice HO3.out
  rw [List.length_append] at hv1
  subst hv1
  refine last_ (i := 15) (N := none) #[true, true, true, true, true, true, true, true, true, true, true, true, true, true, true, true] rfl rfl (by kernel_rfl) (by decide) (fun K hK => ?_)
  refine skip_ (w1 := ?_) (by rfl) rfl ?_ ?_
  rotate_left
  · go_simp
    first | done | rfl
  refine hK.out _ _ ?_
  clear hK K
  refine done_ (by kernel_rfl) ?_
  have lo8 := HB8.out.lo
  obtain ⟨_, hch1⟩ := HBk1.out.row_grown HG2.out
  have hrl : (rs ++ [(⟨ver, til, l⟩ : S62)]).length = rs.length + 1 := by simp
  go_end0
  exact ⟨rfl, _, Rk.setV lo8 HBX1.out HO2.out, ((HC8.out.trans (ChR.of_below HB1.out)).trans hch1).trans (chR_set lo8 HBX1.out _ _)⟩

set_option maxHeartbeats 800000 in
theorem rLearn_any {N b : Nat} {ok : Nat → Prop} {u : Bool} {t : Int} {v : Value} {rs : List S62} {w : World} (ver til : Int) (A : Option Addr) (c : Nat) (l : List S42) (hl : Kd.C k42 w A l.length l) (hA : ∀ ad, A = some ad → 0 < l.length → ad.block ≠ b) (hll : l.length ≤ 1000000) (hN : N ≤ w.heap.size) (hf : ∀ k, w.heap.size ≤ k → ok k) (h : Rk N b ok u t v rs w) :
    Calls Try.prog 25 #[.pointer (some ⟨b, 0, none⟩), .int .i64 ver, .int .i64 til, .slice A l.length c] w fun e w' => e = .returned (.tuple #[]) ∧ ∃ v', Rk N b ok false t v' [⟨ver, til, l⟩] w' ∧ ChR N w w' := by
  obtain ⟨c0, c1, c2, f0, f1, f2⟩ := h.cells
  have HB := Lib.hid h
  have HL := Lib.hid hl
  have HA := Lib.hid hA
  have HF := Lib.hid hf
  clear h hl hA hf
  go_enter Try.func25, Try.ntmps25
  go_wp2_with (first | (go_at_call 27; fail))
  have hb1 : (w.setCell ⟨b, 0, none⟩ (.bool false)).heap[b]? = some (Obj.cells #[.bool false, .int .i64 t, v] 60 (0, 0)) := (HB.out.setU false).box
  have HB2 : Rk N b ok false t (.slice none 0 0) [] ((w.setCell ⟨b, 0, none⟩ (.bool false)).setCell ⟨b, 2, none⟩ (.slice none 0 0)) := Rk.setV HB.out.lo hb1 (Kd.R_nil _ _ _ _ _)
  have hch := (chR_set (N := N) HB.out.lo HB.out.box 0 (.bool false)).trans (chR_set HB.out.lo hb1 2 (.slice none 0 0))
  have hsz : w.heap.size ≤ ((w.setCell ⟨b, 0, none⟩ (.bool false)).setCell ⟨b, 2, none⟩ (.slice none 0 0)).heap.size := hch.size
  refine (rSent_any ver til A c l (C42_keep HL.out (fun ad e h0 => ?_)) hll (by simp) (Nat.le_trans hN hch.size) (fun k hk => HF.out k (Nat.le_trans hsz hk)) HB2).mono ?_
  · exact (Below.heap_setCell _ _ _ _ (HA.out ad e h0)).trans (Below.heap_setCell _ _ _ _ (HA.out ad e h0))
  rintro e w' ⟨rfl, v', hB, hC⟩
  have HB3 := Lib.hid hB
  have HC3 := Lib.hid (hch.trans hC)
  clear hB hC hch HB2 hb1 c0 c1 c2 f0 f1 f2 hsz
  go_wp2
  go_end0
  exact ⟨rfl, v', HB3.out, HC3.out⟩

theorem at_k62 {W : World} {N g n cap : Nat} {ok : Nat → Prop} {xs : List S62} (h : Kd.R k62 62 W N ok (.slice (some ⟨g, 0, none⟩) n cap) xs) (k : Nat) (hk : k < n) : ∃ A2 c2, W.cell? ⟨g, k * 3, none⟩ = some (.int .i64 (rd_T62 xs k).f0) ∧ W.cell? ⟨g, k * 3 + 1, none⟩ = some (.int .i64 (rd_T62 xs k).f1) ∧ W.cell? ⟨g, k * 3 + 2, none⟩ = some (.slice A2 (rd_T62 xs k).f2.length c2) ∧
    Kd.R k42 42 W N (fun q => ok q ∧ ∃ cs, W.heap[q]? = some (Obj.cells cs 42 (0, 0))) (.slice A2 (rd_T62 xs k).f2.length c2) (rd_T62 xs k).f2 := by
  obtain ⟨c, hl, hM, hc, hf⟩ := Kd.R_elem h z62 (k : Int) (by omega) (by omega)
  rw [Int.toNat_natCast] at hc hM
  have e : rd_T62 xs k = xs.getD k z62 := by unfold rd_T62; rw [Int.toNat_natCast]
  rw [← e] at hM
  obtain ⟨v2, rfl, hR⟩ := k62_openM hM
  obtain ⟨A2, c2, rfl⟩ := Kd.R_slice hR
  refine ⟨A2, c2, hc 0 _ rfl, hc 1 _ rfl, hc 2 _ rfl, Kd.R_mono (Kd.R_bound hR) (fun q hq => ⟨hq.1.1, ?_⟩)⟩
  obtain ⟨q2, hq2, cs, hcs⟩ := hq.2.2.2
  obtain rfl : q2 = 42 := by simpa [k42, Kd.iso, Kd.pair, Kd.int, Kd.string, Kd.scalar] using hq2
  exact ⟨cs, hcs⟩
theorem rd62_get {xs : List S62} {k : Nat} (h : k < xs.length) : rd_T62 xs k = xs[k] := by unfold rd_T62; rw [Int.toNat_natCast, List.getD_eq_getElem?_getD, List.getElem?_eq_getElem h]; rfl
theorem keepT {xs : List S62} {p : S62 → Bool} {k : Nat} (h : k < xs.length) (hp : p (rd_T62 xs k) = true) : (xs.take (k + 1)).filter p = (xs.take k).filter p ++ [rd_T62 xs k] := by
  rw [rd62_get h] at hp ⊢
  rw [List.take_succ_eq_append_getElem h, List.filter_append]; simp [hp]
theorem keepF {xs : List S62} {p : S62 → Bool} {k : Nat} (h : k < xs.length) (hp : p (rd_T62 xs k) = false) : (xs.take (k + 1)).filter p = (xs.take k).filter p := by
  rw [rd62_get h] at hp
  rw [List.take_succ_eq_append_getElem h, List.filter_append]; simp [hp]

def RDrop (N b : Nat) (ok : Nat → Prop) (u : Bool) (t : Int) (rs : List S62) (w : World) (e : Ending) (w' : World) : Prop := e = .returned (.tuple #[]) ∧ (∃ v', Rk N b ok u t v' rs w') ∧ ChR N w w'

set_option maxHeartbeats 1600000 in
theorem rAcked_any {N b : Nat} {ok : Nat → Prop} {u : Bool} {t : Int} {v : Value} {rs : List S62} {w : World} (ver : Int) (hgl : rs.length ≤ 1000000) (hN : N ≤ w.heap.size) (hf : ∀ k, w.heap.size ≤ k → ok k) (h : Rk N b ok u t v rs w) :
    Calls Try.prog 29 #[.pointer (some ⟨b, 0, none⟩), .int .i64 ver] w (RDrop N b ok u t (rs.filter fun x => decide (ver ≤ x.f0)) w) := by
  obtain ⟨A, c, rfl⟩ := Kd.R_slice h.row
  have HB := Lib.hid h
  have HF := Lib.hid hf
  have HN := Lib.hid hN
  clear h hf hN
  go_enter Try.func29, Try.ntmps29
  go_wp2_with fail
  go_loopw [4, 5] (fun i4 i5 wr => ∃ (k : Nat) (A4 : Option Addr) (c4 : Nat) (L : List S62), i4 = .slice A4 L.length c4 ∧ i5 = .int .i64 k ∧ k ≤ rs.length ∧ Hid (L = (rs.take k).filter fun x => decide (ver ≤ x.f0)) ∧ Hid (Kd.R k62 62 wr N ok (.slice A4 L.length c4) L) ∧ Hid (∀ q, (Value.slice A4 L.length c4).ownBlock = some q → w.heap.size ≤ q) ∧ Hid (Below w.heap.size w wr)) (fun _ i5 _ => rs.length - (intOf i5).toNat)
  case atStart => exact ⟨0, none, 0, [], rfl, rfl, Nat.zero_le _, rfl, Kd.R_nil _ _ _ _ _, Lib.hid (fun q hq => by simp [Value.ownBlock] at hq), Below.refl _ _⟩
  case round =>
    obtain ⟨k, A4, c4, L, rfl, rfl, hk, HLe, HO, HQ, HW⟩ := hrel
    have HBr := Lib.hid (HB.out.below HW.out)
    obtain ⟨c0, c1, c2, f0, f1, f2⟩ := HBr.out.cells
    by_cases hlt : k < rs.length
    · obtain ⟨g, cap, hv, _, _, _⟩ := Kd.R_form HBr.out.row (by omega)
      injection hv with hA _ hcap
      subst hA; subst hcap
      obtain ⟨A2, c3, x0, x1, x2, hR2⟩ := at_k62 HBr.out.row k hlt
      obtain ⟨x, HX⟩ : ∃ x, Hid (rd_T62 rs k = x) := ⟨_, rfl⟩
      rw [HX.out] at x0 x1 x2 hR2
      have HR2 := Lib.hid hR2
      clear hR2
      have hfl : L.length ≤ 1000000 := by rw [HLe.out]; exact Nat.le_trans (List.length_filter_le _ _) (by rw [List.length_take]; omega)
      have HOk : Hid (∀ q, (ok q ∧ ∃ cs, wr.heap[q]? = some (Obj.cells cs 42 (0, 0))) → ok q ∧ some q ≠ (Value.slice A4 L.length c4).ownBlock) := Lib.hid (fun q hq => ⟨hq.1, fun e => by
          obtain ⟨cs, hcs⟩ := hq.2
          obtain ⟨cs2, hcs2⟩ := Kd.R_typed HO.out q e.symm
          rw [hcs] at hcs2; cases hcs2⟩)
      have HFr : Hid (∀ q, wr.heap.size ≤ q → ok q) := Lib.hid (fun q hq => HF.out q (Nat.le_trans HW.out.size hq))
      have HNr : Hid (N ≤ wr.heap.size) := Lib.hid (Nat.le_trans HN.out HW.out.size)
      by_cases hp : ver ≤ x.f0
      · have hd : decide (ver ≤ x.f0) = true := decide_eq_true hp
        have HK := Lib.hid (keepT (p := fun x => decide (ver ≤ x.f0)) hlt (by rw [HX.out]; exact hd))
        go_wp2_with (first | (at_builtin; refine Kd.R_append k62 (w0 := wr) N rfl (.tmp 25) (.tmp 33) 58 62 (.agg #[.int .i64 0, .int .i64 0, .slice none 0 0]) 40 rfl Try.underlying58 info62 rfl (by decide) (by omega) (.slice A4 L.length c4) L x [.int .i64 x.f0, .int .i64 x.f1, .slice A2 x.f2.length c3] ok (fun q => ok q ∧ ∃ cs, wr.heap[q]? = some (Obj.cells cs 42 (0, 0))) rfl rfl (k62_mkM _ _ _ x HR2.out) HOk.out HFr.out HO.out (Below.refl _ _) HNr.out (by omega) ?_; intro v1 w1 ho1 hb1 hg1 hat1))
        obtain ⟨A5, c5, rfl⟩ := Kd.R_slice ho1
        go_roundw
        case rel =>
          refine ⟨k + 1, A5, c5, L ++ [x], rfl, by go_num, by omega, by rw [HK.out, HX.out, HLe.out]; exact Lib.hid rfl, ho1, Lib.hid (fun q hq => ?_), HW.out.grown hg1 HW.out.size HQ.out⟩
          rcases hat1 with e | ⟨q2, e, h2⟩
          · rw [e] at hq; exact HQ.out q hq
          · rw [e] at hq; injection hq with hq; have := HW.out.size; omega
        case measure => simp [intOf]; omega
      · have hd : decide (ver ≤ x.f0) = false := decide_eq_false hp
        have HK := Lib.hid (keepF (p := fun x => decide (ver ≤ x.f0)) hlt (by rw [HX.out]; exact hd))
        go_wp2_with fail
        go_roundw
        case rel => exact ⟨k + 1, A4, c4, L, rfl, by go_num, by omega, by rw [HK.out]; exact HLe.out, HO.out, HQ.out, HW.out⟩
        case measure => simp [intOf]; omega
    · obtain rfl : k = rs.length := by omega
      have HT : Hid (rs.take rs.length = rs) := Lib.hid (List.take_length ..)
      rw [HT.out] at HLe
      have lo8 := HBr.out.lo
      go_wp2
      go_end0
      exact ⟨rfl, ⟨_, Rk.setV lo8 HBr.out.box (by rw [← HLe.out]; exact HO.out)⟩, (ChR.of_below HW.out).trans (chR_set lo8 HBr.out.box _ _)⟩

set_option maxHeartbeats 1600000 in
theorem rPass_any {N b : Nat} {ok : Nat → Prop} {u : Bool} {t : Int} {v : Value} {rs : List S62} {w : World} (now : Int) (hgl : rs.length ≤ 1000000) (hN : N ≤ w.heap.size) (hf : ∀ k, w.heap.size ≤ k → ok k) (h : Rk N b ok u t v rs w) :
    Calls Try.prog 30 #[.pointer (some ⟨b, 0, none⟩), .int .i64 now] w (RDrop N b ok (u && !ovr now t) t (rs.filter fun x => !ovr now x.f1) w) := by
  obtain ⟨A, c, rfl⟩ := Kd.R_slice h.row
  have HB := Lib.hid h
  have HF := Lib.hid hf
  have HN := Lib.hid hN
  clear h hf hN
  go_enter Try.func30, Try.ntmps30
  go_wp2_with fail
  go_loopw [4, 5] (fun i4 i5 wr => ∃ (k : Nat) (A4 : Option Addr) (c4 : Nat) (L : List S62), i4 = .slice A4 L.length c4 ∧ i5 = .int .i64 k ∧ k ≤ rs.length ∧ Hid (L = (rs.take k).filter fun x => !ovr now x.f1) ∧ Hid (Kd.R k62 62 wr N ok (.slice A4 L.length c4) L) ∧ Hid (∀ q, (Value.slice A4 L.length c4).ownBlock = some q → w.heap.size ≤ q) ∧ Hid (Below w.heap.size w wr)) (fun _ i5 _ => rs.length - (intOf i5).toNat)
  case atStart => exact ⟨0, none, 0, [], rfl, rfl, Nat.zero_le _, rfl, Kd.R_nil _ _ _ _ _, Lib.hid (fun q hq => by simp [Value.ownBlock] at hq), Below.refl _ _⟩
  case round =>
    obtain ⟨k, A4, c4, L, rfl, rfl, hk, HLe, HO, HQ, HW⟩ := hrel
    have HBr := Lib.hid (HB.out.below HW.out)
    obtain ⟨c0, c1, c2, f0, f1, f2⟩ := HBr.out.cells
    by_cases hlt : k < rs.length
    · obtain ⟨g, cap, hv, _, _, _⟩ := Kd.R_form HBr.out.row (by omega)
      injection hv with hA _ hcap
      subst hA; subst hcap
      obtain ⟨A2, c3, x0, x1, x2, hR2⟩ := at_k62 HBr.out.row k hlt
      obtain ⟨x, HX⟩ : ∃ x, Hid (rd_T62 rs k = x) := ⟨_, rfl⟩
      rw [HX.out] at x0 x1 x2 hR2
      have HR2 := Lib.hid hR2
      clear hR2
      have hfl : L.length ≤ 1000000 := by rw [HLe.out]; exact Nat.le_trans (List.length_filter_le _ _) (by rw [List.length_take]; omega)
      have HOk : Hid (∀ q, (ok q ∧ ∃ cs, wr.heap[q]? = some (Obj.cells cs 42 (0, 0))) → ok q ∧ some q ≠ (Value.slice A4 L.length c4).ownBlock) := Lib.hid (fun q hq => ⟨hq.1, fun e => by
          obtain ⟨cs, hcs⟩ := hq.2
          obtain ⟨cs2, hcs2⟩ := Kd.R_typed HO.out q e.symm
          rw [hcs] at hcs2; cases hcs2⟩)
      have HFr : Hid (∀ q, wr.heap.size ≤ q → ok q) := Lib.hid (fun q hq => HF.out q (Nat.le_trans HW.out.size hq))
      have HNr : Hid (N ≤ wr.heap.size) := Lib.hid (Nat.le_trans HN.out HW.out.size)
      by_cases hp : ovr now x.f1 = false
      · have HOv : Hid (∀ w, Calls Try.prog 22 #[.int .i64 now, .int .i64 x.f1] w fun e w' => e = .returned (.bool false) ∧ w = w') := Lib.hid (fun w => by have := rOver_any now x.f1 w; rwa [hp] at this)
        have HK := Lib.hid (keepT (p := fun x => !ovr now x.f1) hlt (by rw [HX.out]; rw [hp]; rfl))
        go_wp2_with (first | (go_at_call 22; refine (HOv.out _).mono ?_; rintro e w' ⟨rfl, rfl⟩) | (at_builtin; refine Kd.R_append k62 (w0 := wr) N rfl (.tmp 29) (.tmp 37) 58 62 (.agg #[.int .i64 0, .int .i64 0, .slice none 0 0]) 40 rfl Try.underlying58 info62 rfl (by decide) (by omega) (.slice A4 L.length c4) L x [.int .i64 x.f0, .int .i64 x.f1, .slice A2 x.f2.length c3] ok (fun q => ok q ∧ ∃ cs, wr.heap[q]? = some (Obj.cells cs 42 (0, 0))) rfl rfl (k62_mkM _ _ _ x HR2.out) HOk.out HFr.out HO.out (Below.refl _ _) HNr.out (by omega) ?_; intro v1 w1 ho1 hb1 hg1 hat1))
        obtain ⟨A5, c5, rfl⟩ := Kd.R_slice ho1
        go_roundw
        case rel =>
          refine ⟨k + 1, A5, c5, L ++ [x], rfl, by go_num, by omega, by rw [HK.out, HX.out, HLe.out]; exact Lib.hid rfl, ho1, Lib.hid (fun q hq => ?_), HW.out.grown hg1 HW.out.size HQ.out⟩
          rcases hat1 with e | ⟨q2, e, h2⟩
          · rw [e] at hq; exact HQ.out q hq
          · rw [e] at hq; injection hq with hq; have := HW.out.size; omega
        case measure => simp [intOf]; omega
      · have hp' : ovr now x.f1 = true := by cases h : ovr now x.f1 <;> simp_all
        have HOv : Hid (∀ w, Calls Try.prog 22 #[.int .i64 now, .int .i64 x.f1] w fun e w' => e = .returned (.bool true) ∧ w = w') := Lib.hid (fun w => by have := rOver_any now x.f1 w; rwa [hp'] at this)
        have HK := Lib.hid (keepF (p := fun x => !ovr now x.f1) hlt (by rw [HX.out]; rw [hp']; rfl))
        go_wp2_with (go_at_call 22; refine (HOv.out _).mono ?_; rintro e w' ⟨rfl, rfl⟩)
        go_roundw
        case rel => exact ⟨k + 1, A4, c4, L, rfl, by go_num, by omega, by rw [HK.out]; exact HLe.out, HO.out, HQ.out, HW.out⟩
        case measure => simp [intOf]; omega
    · obtain rfl : k = rs.length := by omega
      have HT : Hid (rs.take rs.length = rs) := Lib.hid (List.take_length ..)
      rw [HT.out] at HLe
      have lo8 := HBr.out.lo
      have HRk := Lib.hid (Rk.setV lo8 HBr.out.box (by rw [← HLe.out]; exact HO.out) : Rk N b ok u t (.slice A4 L.length c4) (rs.filter fun x => !ovr now x.f1) (wr.setCell ⟨b, 2, none⟩ (.slice A4 L.length c4)))
      have HCh := Lib.hid ((ChR.of_below HW.out).trans (chR_set (N := N) lo8 HBr.out.box 2 (.slice A4 L.length c4)))
      cases hov : ovr now t
      · have HOv : Hid (∀ w, Calls Try.prog 22 #[.int .i64 now, .int .i64 t] w fun e w' => e = .returned (.bool false) ∧ w = w') := Lib.hid (fun w => by have := rOver_any now t w; rwa [hov] at this)
        go_wp2_with (go_at_call 22; refine (HOv.out _).mono ?_; rintro e w' ⟨rfl, rfl⟩)
        go_end0
        exact ⟨rfl, ⟨_, by rw [hov, Bool.not_false, Bool.and_true]; exact HRk.out⟩, HCh.out⟩
      · have HOv : Hid (∀ w, Calls Try.prog 22 #[.int .i64 now, .int .i64 t] w fun e w' => e = .returned (.bool true) ∧ w = w') := Lib.hid (fun w => by have := rOver_any now t w; rwa [hov] at this)
        go_wp2_with (go_at_call 22; refine (HOv.out _).mono ?_; rintro e w' ⟨rfl, rfl⟩)
        go_end0
        exact ⟨rfl, ⟨_, by rw [hov, Bool.not_true, Bool.and_false]; exact HRk.out.setU false⟩, HCh.out.trans (chR_set lo8 HRk.out.box _ _)⟩

def heldRK (rs : List S62) (s : ByteArray) : Nat → Int
  | 0 => 0
  | k + 1 => mx (heldRK rs s k) (allC (rd_T62 rs k).f2 s)
def heldR (u : Bool) (rs : List S62) (s : ByteArray) : Int := if u then -1 else heldRK rs s rs.length

set_option maxHeartbeats 1600000 in
theorem rHeld_any {N b : Nat} {ok : Nat → Prop} {u : Bool} {t : Int} {v : Value} {rs : List S62} {w : World} (s : ByteArray) (hl : ∀ r ∈ rs, r.f2.length ≤ 1000000) (h : Rk N b ok u t v rs w) :
    Calls Try.prog 33 #[.pointer (some ⟨b, 0, none⟩), .string s] w fun e w' => e = .returned (.int .i64 (heldR u rs s)) ∧ w = w' := by
  obtain ⟨c0, c1, c2, _, _, _⟩ := h.cells
  cases u
  · obtain ⟨A, c, rfl⟩ := Kd.R_slice h.row
    have hrm := Kd.C_max (Kd.R_reads' h.row).2.2
    have HB := Lib.hid h
    have HL := Lib.hid hl
    clear h hl
    go_enter Try.func33, Try.ntmps33
    go_wp2_with fail
    go_loopw [5, 6] (fun i5 i6 wr => ∃ k : Nat, k ≤ rs.length ∧ i6 = .int .i64 k ∧ i5 = .int .i64 (heldRK rs s k) ∧ wr = w) (fun _ i6 _ => rs.length - (intOf i6).toNat)
    case atStart => exact ⟨0, Nat.zero_le _, rfl, rfl, rfl⟩
    case round =>
      obtain ⟨k, hk, rfl, rfl, rfl⟩ := hrel
      by_cases hlt : k < rs.length
      · obtain ⟨g, cap, hv, _, _, _⟩ := Kd.R_form HB.out.row (by omega)
        injection hv with hA _ hcap
        subst hA; subst hcap
        obtain ⟨A2, c3, x0, x1, x2, hR2⟩ := at_k62 HB.out.row k hlt
        have hxl := HL.out _ (by rw [rd62_get hlt]; exact List.getElem_mem hlt : rd_T62 rs k ∈ rs)
        have HK : Hid (heldRK rs s (k + 1) = mx (heldRK rs s k) (allC (rd_T62 rs k).f2 s)) := Lib.hid rfl
        generalize rd_T62 rs k = x at *
        obtain ⟨x0', x1', T⟩ := x
        simp only at x0 x1 x2 hR2 hxl HK
        have HT := Lib.hid (Kd.R_reads' hR2).2.2
        clear hR2
        have hkz : (k : Int) < (rs.length : Int) := by omega
        have hkd : decide ((k : Int) < (rs.length : Int)) = true := decide_eq_true hkz
        go_wp2_with fail
        go_loopw [7, 8] (fun i7 i8 wr2 => ∃ j : Nat, j ≤ T.length ∧ i8 = .int .i64 j ∧ i7 = .int .i64 (cntK T j s) ∧ wr2 = wr) (fun _ i8 _ => T.length - (intOf i8).toNat)
        case atStart => exact ⟨0, Nat.zero_le _, rfl, rfl, rfl⟩
        case round =>
          obtain ⟨j, hj, rfl, rfl, rfl⟩ := hrel
          by_cases hjt : j < T.length
          · obtain ⟨ad, rfl, z0, z1, z2⟩ := at_T42 HT.out (j : Int) (by omega) (by omega)
            rw [Int.toNat_natCast] at z0 z1 z2
            have hcb := cntK_bd T j s
            have HN : Hid (cntK T (j + 1) s = if s = (rd_T42 T j).f0 then cntK T j s + num (rd_T42 T j).f2 else cntK T j s) := Lib.hid rfl
            have HNu : Hid (num (rd_T42 T j).f2 = mn (mx (rd_T42 T j).f2 0) 1000) := Lib.hid rfl
            generalize rd_T42 T j = y at *
            obtain ⟨y0, y1, y2⟩ := y
            simp only at z0 z1 z2 HN HNu
            by_cases heq : y0 = s
            · have hbq : (y0.toList == s.toList) = true := beq_iff_eq.2 (toList_inj.2 heq)
              have HN2 : Hid (cntK T (j + 1) s = cntK T j s + mn (mx y2 0) 1000) := Lib.hid (by rw [HN.out, if_pos heq.symm, HNu.out])
              clear heq
              by_cases h1 : y2 < 0
              · have HN3 : Hid (cntK T (j + 1) s = cntK T j s) := Lib.hid (by rw [HN2.out]; unfold mx mn; simp [h1])
                go_wp2_with fail
                go_roundw
                case rel => exact ⟨j + 1, by omega, by go_num, by rw [HN3.out], trivial⟩
                case measure => simp [intOf]; omega
              · by_cases h2 : 1000 < y2
                · have HN3 : Hid (cntK T (j + 1) s = cntK T j s + 1000) := Lib.hid (by rw [HN2.out]; unfold mx mn; simp [h1, h2])
                  go_wp2_with fail
                  go_roundw
                  case rel => exact ⟨j + 1, by omega, by go_num, by rw [HN3.out], trivial⟩
                  case measure => simp [intOf]; omega
                · have HN3 : Hid (cntK T (j + 1) s = cntK T j s + y2) := Lib.hid (by rw [HN2.out]; unfold mx mn; simp [h1, h2])
                  go_wp2_with fail
                  go_roundw
                  case rel => exact ⟨j + 1, by omega, by go_num, by rw [HN3.out], trivial⟩
                  case measure => simp [intOf]; omega
            · have hbq : (y0.toList == s.toList) = false := beq_eq_false_iff_ne.2 (fun e => heq (toList_inj.1 e))
              have HN3 : Hid (cntK T (j + 1) s = cntK T j s) := Lib.hid (by rw [HN.out, if_neg (fun e => heq e.symm)])
              clear heq
              go_wp2_with fail
              go_roundw
              case rel => exact ⟨j + 1, by omega, by go_num, by rw [HN3.out], trivial⟩
              case measure => simp [intOf]; omega
          · obtain rfl : j = T.length := by omega
            go_wp2_with fail
            go_roundw
            case rel => exact ⟨k + 1, by omega, by go_num, by rw [HK.out]; rfl, trivial⟩
            case measure => simp [intOf]; omega
      · obtain rfl : k = rs.length := by omega
        go_wp2
        go_ret
        exact ⟨rfl, rfl⟩
  · clear h
    go_enter Try.func33, Try.ntmps33
    go_wp2
    go_ret
    exact ⟨rfl, rfl⟩
end Go.Proofs.Ytcmaoldklldfmaa.P
