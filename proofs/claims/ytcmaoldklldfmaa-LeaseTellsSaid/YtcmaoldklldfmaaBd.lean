/- slices.DeleteFunc over grants, with a closure over one number. -/
import Derived.Test.YtcmaoldklldfmaaBi
import Derived.Deep.LoopGhost
import Derived.Shelf.Abstract
import Derived.Test.YtcmaoldklldfmaaB
import Derived.Deep.QuietTactic
import Derived.BigQuiet
import Derived.StillTailTactics
import Derived.Deep.RegionWith
namespace Go.Proofs.Ytcmaoldklldfmaa.P
open Go.RowKit Go.Proofs.YtcmaoldklldfmaaW.PrintWords Go.Proofs.YtcmaoldklldfmaaW.PrintLast Go.Proofs.YtcmaoldklldfmaaW.PrintMore
attribute [local go_sem] max2_int min2_int
set_option linter.unusedSimpArgs false
set_option linter.unusedVariables false




theorem zero56 (w : World) : (zeroValue 56).run Try.prog w = .ok (.agg #[.int .i64 0, .int .i64 0, .map none]) w := by kernel_rfl
def zrow (n : Nat) : List Value := (Builtin.zeroCells #[.int .i64 0, .int .i64 0, .map none] n).toList
theorem zrow_len (n : Nat) : (zrow n).length = n * 3 := by simp [zrow, Builtin.zeroCells]
theorem zrow_one (n : Nat) : ∀ v ∈ zrow n, v.oneCell' = true := by
  intro v hv
  simp only [zrow, Builtin.zeroCells, Array.toList_map, List.mem_map] at hv
  obtain ⟨i, _, rfl⟩ := hv
  have h3 : i % (#[Value.int .i64 0, .int .i64 0, .map none] : Array Value).size < 3 := Nat.mod_lt _ (by decide)
  generalize i % (#[Value.int .i64 0, .int .i64 0, .map none] : Array Value).size = j at h3 ⊢
  match j, h3 with
  | 0, _ => rfl
  | 1, _ => rfl
  | 2, _ => rfl
theorem run_clear_G (w : World) (ty : TypeId) (b o n c : Nat) (hn : 0 < n) (hc : ∀ j, j < n * 3 → (w.cell? ⟨b, o + j, none⟩).isSome = true) (hf : ∀ j, j < n * 3 → w.frozen? ⟨b, o + j, none⟩ = false) :
    (Builtin.clear_ #[50] ty #[.slice (some ⟨b, o, none⟩) n c]).run Try.prog w = .ok (.tuple #[]) (w.setCells b o (zrow n)) := by
  have hst := run_storeCells_cells (P := Try.prog) b o (zrow n) 0 w (by simpa [zrow_len] using hc) (by simpa [zrow_len] using hf) (zrow_one n)
  simp only [Nat.add_zero] at hst
  obtain ⟨m, rfl⟩ : ∃ m, n = m + 1 := ⟨n - 1, by omega⟩
  have e : (Value.agg #[Value.int .i64 0, .int .i64 0, .map none]).cells = #[Value.int .i64 0, .int .i64 0, .map none] := rfl
  unfold zrow at hst ⊢
  simp [Builtin.clear_, run_underlying Try.underlying50, zero56, e, hst]

/-- Cells behind a row's end are written. -/
theorem row_tail {g i cap N : Nat} {ok : Nat → Prop} {w : World} {L : List Gr} {vs : List Value} (h : Kd.R kG 56 w N ok (.slice (some ⟨g, 0, none⟩) i cap) L) (hv : i * 3 + vs.length ≤ cap * 3) :
    Kd.R kG 56 (w.setCells g (i * 3) vs) N ok (.slice (some ⟨g, 0, none⟩) i cap) L ∧ w.grownBy (w.setCells g (i * 3) vs) (some g) := by
  obtain ⟨hn, _, _⟩ := Kd.R_reads' h
  obtain ⟨h0, inner, ⟨ho1, ho2⟩, hr⟩ := h
  rcases ho2 with ⟨hv, _⟩ | ⟨g', cap', cur, hv, hb, hh, hnc', hcm, hcs, ht⟩
  · cases hv
  injection hv with ha _ hc
  injection ha with ha
  injection ha with hg
  subst hg; subst hc
  have hs : kG.sz = 3 := rfl
  rw [hs] at hcs
  obtain ⟨cur', h3, h4, h5⟩ := setCells_row vs (i * 3) w cur hh (by rw [hcs]; exact hv)
  obtain ⟨s1, s2, s3, s4⟩ := setCells_same g vs (i * 3) w
  subst hn
  have hcl : L.length * 3 ≤ cur.toList.length := by have e : cur.toList.length = cur.size := Array.length_toList; omega
  refine ⟨⟨h0, inner, ⟨ho1, .inr ⟨_, _, cur', rfl, hb, h3, hnc', hcm, h4.trans (by rw [hcs, hs]), ?_⟩⟩, hr.imp_ (fun x cs hp => by obtain rfl := kG_openM hp; exact kG_mkM _ _ _ x)⟩, ⟨s1, s2, s3, Nat.le_of_eq s4.symm, fun k _ hk => setCells_far _ _ _ (fun e => hk (by rw [e]))⟩⟩
  rw [← ht, h5, hs, List.append_assoc, List.take_append_of_le_length (by rw [List.length_take]; omega), List.take_take, Nat.min_self]

def DelPost (N : Nat) (gs' : List Gr) (v : Value) (w : World) (e : Ending) (w' : World) : Prop := ∃ v', e = .returned v' ∧ Kd.R kG 56 w' N (fun _ => True) v' gs' ∧ w.grownBy w' v.ownBlock

theorem rdG_mem {gs : List Gr} {k : Nat} (h : k < gs.length) : rdG gs k = gs[k] := by unfold rdG; rw [Int.toNat_natCast, List.getD_eq_getElem?_getD, List.getElem?_eq_getElem h]; rfl

structure DInv (gs : List Gr) (p : Gr → Bool) (i j : Nat) (L : List Gr) : Prop where
  len : L.length = gs.length
  lt : i < j
  le : j ≤ gs.length
  low : L.take i = (gs.take j).filter (fun x => !p x)
  high : L.drop j = gs.drop j
theorem DInv.start {gs : List Gr} {p : Gr → Bool} {k : Nat} (hk : k < gs.length) (h1 : p (rdG gs k) = true) (h2 : ∀ j : Nat, j < k → p (rdG gs j) = false) : DInv gs p k (k + 1) gs := by
  refine ⟨rfl, by omega, by omega, ?_, rfl⟩
  rw [List.take_succ_eq_append_getElem hk, List.filter_append]
  rw [rdG_mem hk] at h1
  have e : (gs.take k).filter (fun x => !p x) = gs.take k := by
    rw [List.filter_eq_self]
    intro x hx
    obtain ⟨j, hj, rfl⟩ := List.getElem_of_mem hx
    rw [List.length_take] at hj
    have := h2 j (by omega)
    rw [rdG_mem (by omega)] at this
    simp [List.getElem_take, this]
  rw [e]; simp [h1]
theorem DInv.at {gs : List Gr} {p : Gr → Bool} {i j : Nat} {L : List Gr} (h : DInv gs p i j L) (hj : j < gs.length) : rdG L j = rdG gs j := by
  rw [rdG_mem hj, rdG_mem (by rw [h.len]; exact hj)]
  have h1 := congrArg (fun l => l[0]?) h.high
  have hj' : j < L.length := by rw [h.len]; exact hj
  simp [List.getElem?_drop, List.getElem?_eq_getElem hj, List.getElem?_eq_getElem hj'] at h1
  exact h1
theorem DInv.skip {gs : List Gr} {p : Gr → Bool} {i j : Nat} {L : List Gr} (h : DInv gs p i j L) (hj : j < gs.length) (hp : p (rdG gs j) = true) : DInv gs p i (j + 1) L := by
  refine ⟨h.len, by have := h.lt; omega, by omega, ?_, ?_⟩
  · rw [rdG_mem hj] at hp
    rw [List.take_succ_eq_append_getElem hj, List.filter_append, ← h.low]; simp [hp]
  · rw [← List.drop_drop, h.high, List.drop_drop]
theorem DInv.keep {gs : List Gr} {p : Gr → Bool} {i j : Nat} {L : List Gr} (h : DInv gs p i j L) (hj : j < gs.length) (hp : p (rdG gs j) = false) : DInv gs p (i + 1) (j + 1) (L.set i (rdG gs j)) := by
  have hl := h.len
  have hlt := h.lt
  refine ⟨by rw [List.length_set]; exact hl, by omega, by omega, ?_, ?_⟩
  · rw [rdG_mem hj] at hp ⊢
    rw [List.take_succ_eq_append_getElem hj, List.filter_append, ← h.low, List.take_succ_eq_append_getElem (by rw [List.length_set]; omega), List.take_set_of_le (Nat.le_refl _)]
    simp [hp]
  · rw [List.drop_set_of_lt (by omega), ← List.drop_drop, h.high, List.drop_drop]
theorem DInv.done {gs : List Gr} {p : Gr → Bool} {i : Nat} {L : List Gr} (h : DInv gs p i gs.length L) : L.take i = gs.filter (fun x => !p x) := by rw [h.low, List.take_length]
theorem filter_all {gs : List Gr} {p : Gr → Bool} (h : ∀ j : Nat, j < gs.length → p (rdG gs j) = false) : gs.filter (fun x => !p x) = gs := by
  rw [List.filter_eq_self]
  intro x hx
  obtain ⟨j, hj, rfl⟩ := List.getElem_of_mem hx
  have := h j hj
  rw [rdG_mem hj] at this
  simp [this]

theorem G_cells {g n cap N : Nat} {ok : Nat → Prop} {w : World} {L : List Gr} (h : Kd.R kG 56 w N ok (.slice (some ⟨g, 0, none⟩) n cap) L) (k : Nat) (hk : k < n) :
    w.cell? ⟨g, k * 3, none⟩ = some (.int .i64 (rdG L k).ver) ∧ w.cell? ⟨g, k * 3 + 1, none⟩ = some (.int .i64 (rdG L k).til) ∧ w.cell? ⟨g, k * 3 + 2, none⟩ = some (.map (some (rdG L k).m)) ∧ ∀ j, w.frozen? ⟨g, k * 3 + j, none⟩ = false := by
  obtain ⟨c, hl, hM, hc, hf⟩ := Kd.R_elem h zG (k : Int) (by omega) (by omega)
  rw [Int.toNat_natCast] at hc hf hM
  have e : rdG L k = L.getD k zG := by unfold rdG; rw [Int.toNat_natCast]
  rw [← e] at hM
  obtain rfl := kG_openM hM
  exact ⟨hc 0 _ rfl, hc 1 _ rfl, hc 2 _ rfl, hf⟩

theorem row_some {g n cap N : Nat} {ok : Nat → Prop} {w : World} {L : List Gr} (h : Kd.R kG 56 w N ok (.slice (some ⟨g, 0, none⟩) n cap) L) : ∀ q, q < n * 3 → (w.cell? ⟨g, q, none⟩).isSome = true ∧ w.frozen? ⟨g, q, none⟩ = false := by
  intro q hq
  obtain ⟨k, r, hr, rfl⟩ : ∃ k r, r < 3 ∧ q = k * 3 + r := ⟨q / 3, q % 3, Nat.mod_lt _ (by omega), by omega⟩
  obtain ⟨h0, h1, h2, hf⟩ := G_cells h k (by omega)
  refine ⟨?_, hf r⟩
  match r, hr with
  | 0, _ => rw [Nat.add_zero, h0]; rfl
  | 1, _ => rw [h1]; rfl
  | 2, _ => rw [h2]; rfl

set_option maxHeartbeats 1600000 in
theorem del_any {N f B : Nat} {z : Int} {p : Gr → Bool} (eg : ∀ args w, (callFunc f args).run Try.prog w = .ok (.enter f args) w) (hp : PredG f B z p) (v : Value) (gs : List Gr) (w : World) (hR : Kd.R kG 56 w N (fun _ => True) v gs) (hc : w.cell? ⟨B, 0, none⟩ = some (.int .i64 z)) (hBv : v.ownBlock ≠ some B) :
    Calls Try.prog 41 #[v, .func (.func f) #[] #[.pointer (some ⟨B, 0, none⟩)]] w (DelPost N (gs.filter fun x => !p x) v w) := by
  have hB : B < w.heap.size := by
    rcases Nat.lt_or_ge B w.heap.size with h | h
    · exact h
    · simp [World.cell?, Array.getElem?_eq_none h] at hc
  obtain ⟨A, c, rfl, hlc, hC⟩ := Kd.R_reads hR
  have hm := Kd.C_max hC
  have HIdx := idx_any eg hp A c gs w hC hc
  have HR := Lib.hid hR
  have HP := Lib.hid hp
  have HZ := Lib.hid hc
  have HBv := Lib.hid hBv
  clear hR hp hc hC hBv
  go_enter Try.func41, Try.ntmps41
  go_wp2_with (go_at_call 42; fail)
  refine HIdx.mono ?_
  rintro e w1 ⟨i, rfl, hi, hb1⟩
  rcases hi with ⟨rfl, hall⟩ | ⟨k, rfl, hk, hpk, hlow⟩
  · have HB1 := Lib.hid hb1
    have HA := Lib.hid (filter_all hall)
    clear hb1 hall HIdx
    go_wp2_with fail
    refine bodyPost_ret (v := .slice A gs.length c) (by simp [results, Try.results41, go_sem]) rfl ?_
    exact ⟨_, rfl, by rw [HA.out]; exact Kd.R_below HR.out HB1.out, ⟨HB1.out.os, HB1.out.tape, HB1.out.output, HB1.out.size, fun k hk _ => HB1.out.block k hk⟩⟩
  · obtain ⟨g, cap, hv, hNg, hgl, cells, hgc⟩ := Kd.R_form HR.out (by omega)
    injection hv with hA _ hcap
    subst hA; subst hcap
    have HD := Lib.hid (DInv.start hk hpk hlow)
    have HB1 := Lib.hid hb1
    have hBg : B ≠ g := fun e => HBv.out (by rw [e]; simp [Value.ownBlock])
    have hne1 : ((k : Int) == -1) = false := beq_eq_false_iff_ne.2 (by omega)
    clear hb1 hpk hlow HIdx hgc HBv
    go_wp2_with fail
    go_loopw [5, 6, 7] (fun i5 i6 _ wr => ∃ (i j : Nat) (L : List Gr), i5 = .int .i64 i ∧ i6 = .int .i64 j ∧ Hid (DInv gs p i j L) ∧ Hid (Kd.R kG 56 wr N (fun _ => True) (.slice (some ⟨g, 0, none⟩) gs.length c) L) ∧ Hid (w.grownBy wr (some g))) (fun _ i6 _ _ => gs.length - (intOf i6).toNat)
    case atStart => exact ⟨k, k + 1, gs, rfl, by go_num, HD.out, Kd.R_below HR.out HB1.out, ⟨HB1.out.os, HB1.out.tape, HB1.out.output, HB1.out.size, fun k hk _ => HB1.out.block k hk⟩⟩
    case round =>
      clear HD HB1
      obtain ⟨i, j, L, rfl, rfl, HD, HL, HG⟩ := hrel
      have hij := HD.out.lt
      have hjn := HD.out.le
      by_cases hlt : j < gs.length
      · obtain ⟨x0, x1, x2, _⟩ := G_cells HL.out j hlt
        have hat := HD.out.at hlt
        rw [hat] at x0 x1 x2
        have hcall := HP.out (wr.alloc (.cells #[.int .i64 (rdG gs j).ver, .int .i64 (rdG gs j).til, .map (some (rdG gs j).m)] 56)) (rdG gs j) (Lib.cell?_alloc_some _ (HG.out.cell HZ.out (by simp; exact hBg)))
        obtain ⟨x, HX⟩ : ∃ x, Hid (rdG gs j = x) := ⟨_, rfl⟩
        rw [HX.out] at hcall x0 x1 x2
        clear hat
        have HB2 := Lib.hid hB
        clear hB
        cases hq : p x with
        | true =>
          rw [hq] at hcall
          go_wp2_with (go_at_fn f; refine hcall.mono ?_; rintro e w' ⟨rfl, hb'⟩)
          go_roundw
          case rel => exact ⟨i, j + 1, L, rfl, by go_num, HD.out.skip hlt (by rw [HX.out]; exact hq), Kd.R_below (Kd.R_alloc HL.out _) hb', (HG.out.trans (World.grownBy_alloc _ _ _)).trans ⟨hb'.os, hb'.tape, hb'.output, hb'.size, fun k hk _ => hb'.block k hk⟩⟩
          case measure => simp [intOf]; omega
        | false =>
          rw [hq] at hcall
          go_wp2_with (go_at_fn f; fail)
          refine hcall.mono ?_
          rintro e w' ⟨rfl, hb'⟩
          have y : w'.heap[wr.heap.size]? = some (Obj.cells #[.int .i64 x.ver, .int .i64 x.til, .map (some x.m)] 56 (0, 0)) := (hb'.block _ (by simp)).trans (heap_alloc_new wr _)
          have y0 : w'.cell? ⟨wr.heap.size, 0, none⟩ = some (.int .i64 x.ver) := by simp [World.cell?, y]
          have y1 : w'.cell? ⟨wr.heap.size, 1, none⟩ = some (.int .i64 x.til) := by simp [World.cell?, y]
          have y2 : w'.cell? ⟨wr.heap.size, 2, none⟩ = some (.map (some x.m)) := by simp [World.cell?, y]
          have HL2 := Lib.hid (Kd.R_below (Kd.R_alloc HL.out (.cells #[.int .i64 x.ver, .int .i64 x.til, .map (some x.m)] 56)) hb')
          have HG2 : Hid (w.grownBy w' (some g)) := Lib.hid ((HG.out.trans (World.grownBy_alloc _ _ _)).trans ⟨hb'.os, hb'.tape, hb'.output, hb'.size, fun k hk _ => hb'.block k hk⟩)
          obtain ⟨z0, z1, z2, _⟩ := G_cells HL2.out i (by omega)
          have hcc : ∀ (jj : Nat) u, [Value.int .i64 (rdG L i).ver, .int .i64 (rdG L i).til, .map (some (rdG L i).m)][jj]? = some u → w'.cell? ⟨g, (i : Int).toNat * kG.sz + jj, none⟩ = some u := fun jj u hu => by
            rw [Int.toNat_natCast]
            match jj, hu with
            | 0, hu => cases hu; exact z0
            | 1, hu => cases hu; exact z1
            | 2, hu => cases hu; exact z2
          have HCC := Lib.hid hcc
          have H1 : Hid (∀ q ∈ [Value.int .i64 x.ver, .int .i64 x.til, .map (some x.m)], q.oneCell' = true) := Lib.hid (by intro q hq; simp only [List.mem_cons, List.not_mem_nil, or_false] at hq; rcases hq with rfl | rfl | rfl <;> rfl)
          clear hcc z0 z1 z2 y hb' x0 x1 x2 hcall HL HG
          go_wp2_with ((with_reducible refine gate_store (t := 56) (p := 33) rfl ?_); refine Kd.R_store kG (w0 := w') N rfl rfl 56 (.tmp 33) (.tmp 32) rfl 56 (g := g) (n := gs.length) (cap := c) (o' := i * 3) (i : Int) 0 L x (.agg #[.int .i64 x.ver, .int .i64 x.til, .map (some x.m)]) [.int .i64 x.ver, .int .i64 x.til, .map (some x.m)] [.int .i64 (rdG L i).ver, .int .i64 (rdG L i).til, .map (some (rdG L i).m)] (fun _ => True) (fun _ => False) rfl (by rw [Int.toNat_natCast]; rfl) rfl rfl (by kernel_rfl) H1.out HL2.out (by omega) (by omega) rfl HCC.out (Nat.le_refl 3) (kG_mkM _ _ _ x) (fun _ h => h.elim) (Below.refl _ _) ?_; intro w3 hR3 hb3 hg3)
          go_roundw
          case rel => exact ⟨i + 1, j + 1, L.set i x, by go_num, by go_num, by have h := HD.out.keep hlt (by rw [HX.out]; exact hq); rwa [HX.out] at h, by rw [Int.toNat_natCast] at hR3; exact hR3, HG2.out.trans hg3⟩
          case measure => simp [intOf]; omega
      · obtain rfl : j = gs.length := by omega
        have hsome := row_some HL.out
        have hcl : ∀ ty, (Builtin.clear_ #[50] ty #[.slice (some ⟨g, i * 3, none⟩) (gs.length - i) (c - i)]).run Try.prog wr = .ok (.tuple #[]) (wr.setCells g (i * 3) (zrow (gs.length - i))) := fun ty =>
          run_clear_G wr ty g (i * 3) (gs.length - i) (c - i) (by omega) (fun j hj => (hsome _ (by omega)).1) (fun j hj => (hsome _ (by omega)).2)
        have HE := Lib.hid HD.out.done
        have HT := Lib.hid (row_tail (vs := zrow (gs.length - i)) (Kd.R_take HL.out (m := i) (by have := HD.out.len; omega)) (by rw [zrow_len]; omega))
        clear hsome
        go_wp2
        refine bodyPost_ret (v := .slice (some ⟨g, 0, none⟩) i c) (by simp [results, Try.results41, go_sem]) rfl ?_
        refine ⟨_, rfl, ?_, HG.out.trans HT.out.2⟩
        have h := HT.out.1
        rwa [HE.out] at h
end Go.Proofs.Ytcmaoldklldfmaa.P
