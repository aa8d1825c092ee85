/- flow.Push: its walk. -/
import Derived.Test.YtfmfojogcghkkaaSn
import Derived.Test.YtfmfojogcghkkaaPa
import Derived.Test.YtfmfojogcghkkaaNe
namespace Go.Proofs.Ytfmfojogcghkkaa.P
open Go.RowKit Go.Proofs.YtfmfojogcghkkaaW.PrintWords Go.Proofs.YtfmfojogcghkkaaW.PrintLast Go.Proofs.YtfmfojogcghkkaaW.PrintMore
open Go.Proofs.Ytfmfojogcghkkaa.Bf Go.Proofs.Ytfmfojogcghkkaa.Pp
attribute [local go_sem] max2_int min2_int max_two min_two max_three min_three max_four min_four   -- for this text's walks alone
set_option linter.unusedVariables false

/-- A row of whole numbers, read and written in place. -/
structure Fr (w0 W : World) (g : Nat) (F : List Int) : Prop where
  base : w0.heap.size ≤ g
  blk : ∃ cur, W.heap[g]? = some (.cells cur 3 (0, 0))
  cell : ∀ i : Nat, i < F.length → W.cell? ⟨g, i, none⟩ = some (.int .i64 (rd F i)) ∧ W.frozen? ⟨g, i, none⟩ = false
theorem Fr.below {w0 W W' : World} {g : Nat} {F : List Int} (h : Fr w0 W g F) (hb : Below W.heap.size W W') : Fr w0 W' g F := by
  obtain ⟨cur, hc⟩ := h.blk
  have hlt := (Array.getElem?_eq_some_iff.1 hc).1
  exact ⟨h.base, ⟨cur, (hb.block _ hlt).trans hc⟩, fun i hi => ⟨(hb.cell (p := ⟨g, i, none⟩) hlt).trans (h.cell i hi).1, (hb.frozen (p := ⟨g, i, none⟩) hlt).trans (h.cell i hi).2⟩⟩
theorem Fr.put {w0 W : World} {g : Nat} {F : List Int} (h : Fr w0 W g F) {e : Nat} (he : e < F.length) (x : Int) : Fr w0 (W.setCell ⟨g, e, none⟩ (.int .i64 x)) g (F.set e x) := by
  obtain ⟨cur, hc⟩ := h.blk
  refine ⟨h.base, ⟨cur.setIfInBounds e (.int .i64 x), by simp only [World.setCell, Array.getElem?_modify, hc]; simp⟩, fun i hi => ?_⟩
  rw [List.length_set] at hi
  rw [World.frozen?_setCell, Pp.rd_set he]
  by_cases c : i = e
  · subst c; rw [if_pos rfl]; exact ⟨World.cell?_setCell_same _ _ _ (h.cell i hi).1, (h.cell i hi).2⟩
  · rw [if_neg c]
    exact ⟨(World.cell?_setCell_other _ _ _ _ (fun e => c (by injection e with _ e; exact e.symm))).trans (h.cell i hi).1, (h.cell i hi).2⟩
theorem Fr.reads {w0 W : World} {g : Nat} {F : List Int} (h : Fr w0 W g F) (hl : F.length ≤ 1000) : Kd.C (Kd.int .i64) W (some ⟨g, 0, none⟩) F.length F := by
  refine ⟨rfl, by omega, fun hn => ⟨⟨g, 0, none⟩, rfl, fun j p hj => ⟨[.int .i64 p], rfl, rfl, fun i u hi => ?_⟩⟩⟩
  match i, hi with
  | 0, hi =>
    simp at hi
    subst hi
    obtain ⟨hj1, hj2⟩ := List.getElem?_eq_some_iff.1 hj
    have := (h.cell j hj1).1
    have e : rd F (j : Int) = p := by unfold rd; rw [Int.toNat_natCast, List.getD_eq_getElem?_getD, hj]; rfl
    rw [e] at this
    show W.cell? ((⟨g, 0, none⟩ : Addr).add (j * 1 + 0)) = _
    rw [Go.WideShapes.add_plain]
    simpa using this
/-- .. or nil, where it is empty. -/
structure Fa (w0 W : World) (A : Option Addr) (F : List Int) : Prop where
  pos : 0 < F.length → ∃ g, A = some ⟨g, 0, none⟩ ∧ Fr w0 W g F
theorem Fa.below {w0 W W' : World} {A : Option Addr} {F : List Int} (h : Fa w0 W A F) (hb : Below W.heap.size W W') : Fa w0 W' A F := ⟨fun hp => by
  obtain ⟨g, e, hf⟩ := h.pos hp
  exact ⟨g, e, hf.below hb⟩⟩
theorem Fa.reads {w0 W : World} {A : Option Addr} {F : List Int} (h : Fa w0 W A F) (hl : F.length ≤ 1000) : Kd.C (Kd.int .i64) W A F.length F := by
  rcases Nat.eq_zero_or_pos F.length with h0 | h0
  · exact ⟨rfl, by omega, fun hn => by omega⟩
  · obtain ⟨g, rfl, hf⟩ := h.pos h0
    exact hf.reads hl
theorem Fa.view {w0 W : World} {A : Option Addr} {F : List Int} (h : Fa w0 W A F) (hl : F.length ≤ 1000) : Kd.V (Kd.int .i64) 3 W w0.heap.size (fun k_ => w0.heap.size ≤ k_) (.slice A F.length F.length) F := by
  refine ⟨A, F.length, rfl, Nat.le_refl _, fun W' hW => ?_⟩
  refine Fa.reads (w0 := w0) ⟨fun hp => ?_⟩ hl
  obtain ⟨g, e, hf⟩ := h.pos hp
  obtain ⟨cur, hc⟩ := hf.blk
  have hg := hW g hf.base (Array.getElem?_eq_some_iff.1 hc).1
  refine ⟨g, e, hf.base, ⟨cur, hg.trans hc⟩, fun i hi => ?_⟩
  have := hf.cell i hi
  simpa [World.cell?, World.frozen?, hg] using this
theorem Fa.of_R {w0 W : World} {A : Option Addr} {c : Nat} {F : List Int} {ok : Nat → Prop} (h : Kd.R (Kd.int .i64) 3 W w0.heap.size ok (.slice A F.length c) F) : Fa w0 W A F := ⟨fun hp => by
  obtain ⟨go, co, eo, gb, gl, cl, hG⟩ := Kd.R_form h (by omega)
  injection eo with e1 e2 e3
  refine ⟨go, e1, gb, ⟨_, hG⟩, fun i hi => ?_⟩
  subst e1
  have := Kd.R_celln 0 h (i : Int) (by omega) (by omega)
  rw [Int.toNat_natCast] at this
  exact this⟩

def flow_Push.f (k : Nat) (a0_0 : Int) (l0_1 : List (S41)) (l1 : List Int) (a2 : Int) (a3 : Int) (a4 : Int) : Option (List Int × Int × Int) :=
  (graph_Good.f k a0_0 l0_1 l1 a2 a3).bind fun g => if g = true then (if a4 < 0 then some ([], 0, 50) else (pushL a0_0 l0_1 a2 a3 a4 k l1 0).bind fun r => some (r.1, r.2, 0)) else some ([], 0, 50)
theorem flow_Push.mono : ∀ a0 a1 a2 a3 a4 a5 k, LeO (flow_Push.f k a0 a1 a2 a3 a4 a5) (flow_Push.f (k + 1) a0 a1 a2 a3 a4 a5) := by
  intro a0 a1 a2 a3 a4 a5 k
  unfold flow_Push.f
  refine LeO.bind (graph_Good.mono _ _ _ _ _ _) (fun g => LeO.ite (LeO.ite (LeO.refl _) (LeO.bind (fun r h => pushL_mono _ _ _ _ _ _ _ _ _ h) (fun _ => LeO.refl _))) (LeO.refl _))

def PushPost (r1 : List Int) (r2 r3 : Int) (w : World) (e : Ending) (w' : World) : Prop := ∃ v0_ : Value, e = .returned (.tuple #[v0_, .int .i64 r2, .int .i64 r3]) ∧ Kd.V (Kd.int .i64) 3 w' w.heap.size (fun k_ => (w.heap.size ≤ k_)) v0_ r1 ∧ Below w.heap.size w w'

theorem row_nil {w : World} {base n c : Nat} {ok : Nat → Prop} {A : Option Addr} {F : List Int} (h : Kd.R (Kd.int .i64) 3 w base ok (.slice A n c) F) : A = none → n = 0 ∧ c = 0 := by
  rintro rfl
  obtain ⟨_, inner, ho, _⟩ := h
  rcases ho.2 with ⟨h1, _⟩ | ⟨g, cap, cur, h1, _⟩
  · injection h1 with _ h2 h3; exact ⟨h2, h3⟩
  · injection h1 with h1 _ _; cases h1
theorem row_nil66 {w : World} {base n c : Nat} {ok : Nat → Prop} {W : List S66} (h : Kd.R k66 66 w base ok (.slice none n c) W) : n = 0 := by
  obtain ⟨_, inner, ho, _⟩ := h
  rcases ho.2 with ⟨h1, _⟩ | ⟨g, cap, cur, h1, _⟩
  · injection h1
  · injection h1 with h1 _ _; cases h1
theorem way_edges {N : Int} {l : List S41} {F : List Int} {s t : Int} (hE : Bf.Ends l N) (hs : 0 ≤ s ∧ s < N) (x : S66) (hx : x ∈ wayOf N l F s t) : 0 ≤ x.f1 ∧ x.f1 < l.length := by
  have hI := bfs_inv (F := F) hE hs
  unfold wayOf at hx
  by_cases c : ((bfs l F s N).2 t).isSome = true
  · rw [if_pos c] at hx
    obtain ⟨p, hp, e⟩ := (hI.mem t).1 c
    have w2 := (wayL_ok hI N.toNat p (by have := hI.le; omega) hp).2.1
    rw [e] at w2
    obtain ⟨r, _, _, _, r', i, _, hi, _, e1, _⟩ := w2 x hx
    omega
  · rw [if_neg c] at hx; cases hx
theorem way_len {N : Int} {l : List S41} {F : List Int} {s t : Int} (hE : Bf.Ends l N) (hs : 0 ≤ s ∧ s < N) (hN : N ≤ 64) : (wayOf N l F s t).length ≤ 64 := by
  have hI := bfs_inv (F := F) hE hs
  unfold wayOf
  by_cases c : ((bfs l F s N).2 t).isSome = true
  · rw [if_pos c]
    obtain ⟨p, hp, e⟩ := (hI.mem t).1 c
    have h := (wayL_ok hI N.toNat p (by have := hI.le; omega) hp).2.2.2.1
    rw [e] at h
    have := hI.le
    omega
  · rw [if_neg c]; simp

/-- What Push has in memory. -/
structure Pw (w0 : World) (N : Int) (A : Option Addr) (n c : Nat) (A1 : Option Addr) (F : List Int) (W : World) : Prop where
  bel : Below w0.heap.size w0 W
  box : W.heap[w0.heap.size]? = some (.cells #[.int .i64 N, .slice A n c] 24)
  fl : Fa w0 W A1 F
theorem Pw.below {w0 : World} {N : Int} {A A1 : Option Addr} {n c : Nat} {F : List Int} {W W' : World} (h : Pw w0 N A n c A1 F W) (hb : Below W.heap.size W W') : Pw w0 N A n c A1 F W' :=
  ⟨h.bel.trans (hb.mono h.bel.size), (hb.block _ (Array.getElem?_eq_some_iff.1 h.box).1).trans h.box, h.fl.below hb⟩
theorem Pw.alloc {w0 : World} {N : Int} {A A1 : Option Addr} {n c : Nat} {F : List Int} {W : World} (h : Pw w0 N A n c A1 F W) (o : Obj) : Pw w0 N A n c A1 F (W.alloc o) := h.below ((Below.refl _ _).alloc (Nat.le_refl _) o)
theorem Pw.cells {w0 : World} {N : Int} {A A1 : Option Addr} {n c : Nat} {F : List Int} {W : World} (h : Pw w0 N A n c A1 F W) : W.cell? ⟨w0.heap.size, 0, none⟩ = some (.int .i64 N) ∧ W.cell? ⟨w0.heap.size, 1, none⟩ = some (.slice A n c) :=
  ⟨by simp [World.cell?, h.box], by simp [World.cell?, h.box]⟩
theorem Pw.put {w0 : World} {N : Int} {A : Option Addr} {n c g : Nat} {F : List Int} {W : World} (h : Pw w0 N A n c (some ⟨g, 0, none⟩) F W) {e : Nat} (he : e < F.length) (x : Int) : Pw w0 N A n c (some ⟨g, 0, none⟩) (F.set e x) (W.setCell ⟨g, e, none⟩ (.int .i64 x)) := by
  obtain ⟨g', e1, hf⟩ := h.fl.pos (by omega)
  injection e1 with e1
  injection e1 with e1 _ _
  subst e1
  have hne : w0.heap.size ≠ g := by
    rintro rfl
    obtain ⟨cur, hc⟩ := hf.blk
    rw [h.box] at hc; injection hc with hc; injection hc with _ hc; cases hc
  exact ⟨h.bel.setCell hf.base _, (Below.heap_setCell _ _ _ _ hne).trans h.box, ⟨fun _ => ⟨g, rfl, hf.put he x⟩⟩⟩

set_option maxHeartbeats 4000000 in
set_option maxRecDepth 100000 in
theorem push_walk (N : Int) (A : Option Addr) (c : Nat) (l : List S41) (A1 : Option Addr) (c1 : Nat) (l1 : List Int) (s t most : Int) (k : Nat) (w : World) (hr : Kd.C k41 w A l.length l) (hc : l.length ≤ c) (hr1 : Kd.C (Kd.int .i64) w A1 l1.length l1) (hc1 : l1.length ≤ c1)
    (hG : graph_Good.f k N l l1 s t = some true) (hS : Seen N l l1 s t) (hm : 0 ≤ most) (F' : List Int) (sum' : Int) (hP : pushL N l s t most k l1 0 = some (F', sum')) :
    Calls Try.prog 35 #[.agg #[.int .i64 N, .slice A l.length c], .slice A1 l1.length c1, .int .i64 s, .int .i64 t, .int .i64 most] w (PushPost F' sum' 0 w) := by
  have hb0 : Below w.heap.size w (w.alloc (.cells #[.int .i64 N, .slice A l.length c] 24)) := (Below.refl _ _).alloc (Nat.le_refl _) _
  have hgood := graph_Good.calls k N A c l A1 c1 l1 s t true (w.alloc (.cells #[.int .i64 N, .slice A l.length c] 24)) (Kd.C_below hr hb0) hc (Kd.C_below hr1 hb0) hc1 hG
  have HB0 := Lib.hid hb0
  have HR := Lib.hid hr
  have HR1 := Lib.hid hr1
  have HS := Lib.hid hS
  have HP := Lib.hid hP
  have hbox0 : (w.alloc (.cells #[.int .i64 N, .slice A l.length c] 24)).heap[w.heap.size]? = some (.cells #[.int .i64 N, .slice A l.length c] 24) := heap_alloc_new _ _
  have HBox0 := Lib.hid hbox0
  clear hb0 hr hr1 hS hP hG hbox0
  go_enter Try.func35, Try.ntmps35
  go_wp2_with (first
    | (go_at_call 23; refine hgood.mono ?_; rintro e w1 ⟨rfl, hb1⟩; have HB1 := Lib.hid hb1; clear hb1)
    | (go_at_call 52; refine (clone_any A1 c1 l1 _ (Kd.C_below HR1.out (HB0.out.trans (HB1.out.mono HB0.out.size))) (by have := HS.out.fl; have := HS.out.len; omega)).mono ?_; rintro e w2 ⟨v2, rfl, hR2, hb2⟩; obtain ⟨A2, c2, e2⟩ := Kd.R_slice hR2; subst e2; have HR2 := Lib.hid hR2; have HB2 := Lib.hid hb2; clear hR2 hb2)
    | (go_at_call 51; refine (clip_any A2 l1.length c2 (by have := Kd.R_reads' HR2.out; omega) ?cnil (by have := HS.out.fl; have := HS.out.len; unfold maxLen; omega) _).mono ?_; (case cnil => exact row_nil HR2.out); rintro e w3 ⟨rfl, rfl⟩))
  have HE : Hid (Bf.Ends l N) := Lib.hid HS.out.ends
  have hN64 : N ≤ 64 := HS.out.n1
  have hl256 : l.length ≤ 256 := HS.out.len
  have HFl : Hid (l1.length = l.length) := Lib.hid HS.out.fl
  have HPw : Hid (Pw w N A l.length c A2 l1 w2) := by
    have hb1 : Below w.heap.size w w1 := HB0.out.trans (HB1.out.mono HB0.out.size)
    have hbx : w1.heap[w.heap.size]? = some (.cells #[.int .i64 N, .slice A l.length c] 24) := (HB1.out.block _ (by simp)).trans HBox0.out
    refine Lib.hid ⟨hb1.trans (HB2.out.mono hb1.size), (HB2.out.block _ (Array.getElem?_eq_some_iff.1 hbx).1).trans hbx, Fa.of_R (Kd.R_lower HR2.out hb1.size)⟩
  clear hgood HB0 HB1 HB2 HR2 HBox0
  go_loopg [13] k (fun kq v13 wr => ∃ (F : List Int) (sum : Int), v13 = .int .i64 sum ∧ Hid (pushL N l s t most kq F sum = some (F', sum')) ∧ Hid (F.length = l1.length) ∧ Hid (Pw w N A l.length c A2 F wr))
  case atStart => exact ⟨l1, 0, rfl, HP, Lib.hid rfl, HPw⟩
  case round =>
    clear HPw HP
    obtain ⟨F, sum, rfl, HQ, HF, HW⟩ := hrel
    cases gk with
    | zero => exact absurd HQ.out (by simp [pushL])
    | succ kq =>
      have hq := HQ.out
      clear HQ
      simp only [pushL] at hq
      obtain ⟨hbx0, hbx1⟩ := HW.out.cells
      by_cases h1 : sum < most
      · rw [if_pos h1] at hq
        have HQ := Lib.hid hq
        clear hq
        have hnext := next_any N A c l A2 l1.length F s t wr (Kd.C_below HR.out HW.out.bel) (by have := HW.out.fl.reads (by rw [HF.out, HFl.out]; omega); exact this) (by rw [HF.out, HFl.out]) HE.out hN64 hl256 HS.out.sb HS.out.tb
        rw [HF.out] at hnext
        by_cases hw : wayOf N l F s t = []
        · have en : ∀ W, (binOp .eql 63 (.slice none 0 0) (.slice none 0 0)).run Try.prog W = .ok (.bool true) W := fun W => Lib.run_eql_slice_nil W 63 66 none 0 0 0 0 Try.underlying63
          have HE2 : Hid (F = F' ∧ sum = sum') := Lib.hid (by
            have h := HQ.out
            rw [if_pos (by rw [hw]; rfl)] at h
            injection h with h; injection h with h3 h4; exact ⟨h3, h4⟩)
          have HWn := Lib.hid hw
          clear HQ hw
          go_wp2_with (go_at_call 53; refine hnext.mono ?_; rintro e w4 ⟨v4, rfl, hR4, hn4, hb4⟩; obtain rfl := hn4.2 HWn.out; have HW4 := Lib.hid (HW.out.below hb4); clear hR4 hn4 hb4 hnext)
          refine bodyPost_ret (v := .tuple #[.slice A2 l1.length l1.length, .int .i64 sum, .int .i64 0]) (by simp [results, Try.results35, go_sem]) rfl ?_
          obtain ⟨rfl, rfl⟩ := HE2.out
          refine ⟨_, rfl, ?_, HW4.out.bel⟩
          have h := HW4.out.fl.view (by rw [HF.out, HFl.out]; omega)
          rw [HF.out] at h
          exact h
        · have HQ' := HQ.out
          rw [if_neg (by cases hh : wayOf N l F s t with
            | nil => exact absurd hh hw
            | cons => simp)] at HQ'
          have hedge := way_edges (F := F) HE.out HS.out.sb (t := t)
          have hlen := way_len (F := F) HE.out HS.out.sb hN64 (t := t)
          obtain ⟨W0, HWo⟩ : ∃ W0, Hid (wayOf N l F s t = W0) := ⟨_, rfl⟩
          rw [HWo.out] at hedge hlen hw HQ'
          have hpos : 0 < W0.length := by cases W0 with
            | nil => exact absurd rfl hw
            | cons => simp
          have HEd := Lib.hid hedge
          have hl0 : 0 < F.length := by
            have := hedge _ (rd66_mem (W := W0) (k := 0) hpos)
            rw [HF.out, HFl.out]; omega
          obtain ⟨g, rfl, hfr⟩ := HW.out.fl.pos hl0
          obtain ⟨cur, hcur⟩ := hfr.blk
          have hglt : g < wr.heap.size := (Array.getElem?_eq_some_iff.1 hcur).1
          have es : ∀ W (a : Addr) (n m : Nat), (binOp .eql 63 (.slice (some a) n m) (.slice none 0 0)).run Try.prog W = .ok (.bool false) W := fun W a n m => Lib.run_eql_slice_nil W 63 66 (some a) n m 0 0 Try.underlying63
          have HQ2 := Lib.hid HQ'
          have HGL := Lib.hid hglt
          clear HQ HQ' hw hedge hfr hcur hl0 hglt cur
          go_wp2_with (go_at_call 53; refine hnext.mono ?_; rintro e w4 ⟨v4, rfl, hR4, hn4, hb4⟩; rw [HWo.out] at hR4; obtain ⟨A4, c4, e4⟩ := Kd.R_slice hR4; subst e4; (cases A4 with | none => exact absurd (row_nil66 hR4) (by omega) | some ad4 => ?_); have HW4 := Lib.hid (HW.out.below hb4); have HR4 := Lib.hid (Kd.R_mono (ok' := fun k => k ≠ g) (Kd.R_bound hR4) (fun k hk => by have := hk.2.1; have := HGL.out; omega)); clear hR4 hn4 hb4 hnext)
          obtain ⟨mo, HMo⟩ : ∃ mo, Hid (wrap64 (most - sum) = mo) := ⟨_, rfl⟩
          have HQ3 := Lib.hid (show pushL N l s t most kq (updK F W0 (moreK l F W0 mo W0.length) W0.length) (wrap64 (sum + moreK l F W0 mo W0.length)) = some (F', sum') by have h := HQ2.out; rw [HMo.out] at h; exact h)
          clear HQ2 es
          go_loopw [15, 48] (fun v15 v48 wr => ∃ j : Nat, j ≤ W0.length ∧ v48 = .int .i64 j ∧ v15 = .int .i64 (moreK l F W0 mo j) ∧ Hid (Below w4.heap.size w4 wr)) (fun _ v48 _ => W0.length - (intOf v48).toNat)
          case atStart => exact ⟨0, Nat.zero_le _, rfl, by rw [← HMo.out]; rfl, Lib.hid (Below.refl _ _)⟩
          case round =>
            obtain ⟨j, hj, rfl, rfl, HBj⟩ := hrel
            by_cases hjl : j < W0.length
            · have HEj := HEd.out _ (rd66_mem hjl)
              have HWj := Lib.hid (HW4.out.below HBj.out)
              obtain ⟨ad, e4, hx0, hx1, hx2⟩ := at_T66 (Kd.R_reads' (Kd.R_below HR4.out HBj.out)).2.2 (j : Int) (by omega) (by omega)
              injection e4 with e4
              subst e4
              rw [Int.toNat_natCast] at hx0 hx1 hx2
              have hsucc : moreK l F W0 mo (j + 1) = mn (moreK l F W0 mo j) (stepRoom l F (rd66 W0 j)) := rfl
              have HSu := Lib.hid hsucc
              clear hsucc
              obtain ⟨m0, HM0⟩ : ∃ m0, Hid (moreK l F W0 mo j = m0) := ⟨_, rfl⟩
              rw [HM0.out]
              have hroom := room_any (rd66 W0 j) N A c l (some ⟨g, 0, none⟩) l1.length F (wr.alloc (.cells #[.int .i64 (rd66 W0 j).f0, .int .i64 (rd66 W0 j).f1, .bool (rd66 W0 j).f2] 66)) (Kd.C_below HR.out (HWj.out.alloc _).bel) ((HWj.out.alloc _).fl.reads (by rw [HF.out, HFl.out]; omega)) (by rw [HF.out, HFl.out]) HEj.1 HEj.2
              obtain ⟨pu, Hpu⟩ : ∃ x, Hid ((rd66 W0 j).f0 = x) := ⟨_, rfl⟩
              obtain ⟨pe, Hpe⟩ : ∃ x, Hid ((rd66 W0 j).f1 = x) := ⟨_, rfl⟩
              obtain ⟨pb, Hpb⟩ : ∃ x, Hid ((rd66 W0 j).f2 = x) := ⟨_, rfl⟩
              obtain ⟨rm, Hrm⟩ : ∃ x, Hid (stepRoom l F (rd66 W0 j) = x) := ⟨_, rfl⟩
              rw [Hpu.out] at hx0 hroom
              rw [Hpe.out] at hx1 hroom
              rw [Hpb.out] at hx2 hroom
              rw [Hrm.out, HF.out] at hroom
              obtain ⟨hc0, hc1'⟩ := (HWj.out.alloc (.cells #[.int .i64 pu, .int .i64 pe, .bool pb] 66)).cells
              go_wp2_with (go_at_call 54; (with_reducible refine hroom.mono ?_); rintro e w5 ⟨rfl, hb5⟩; have HB5 := Lib.hid (HBj.out.trans (((((Below.refl wr.heap.size wr).alloc (Nat.le_refl _) _).trans (hb5.mono (by simp)))).mono HBj.out.size)); clear hb5 hroom)
              all_goals
                go_roundw
                case rel => exact ⟨j + 1, by omega, by go_num, by rw [HSu.out, HM0.out, Hrm.out]; unfold mn; split <;> first | rfl | (exfalso; omega), HB5⟩
                case measure => simp [intOf]; omega
            · obtain rfl : j = W0.length := by omega
              have HW5 := Lib.hid (HW4.out.below HBj.out)
              have HR5 := Lib.hid (Kd.R_below HR4.out HBj.out)
              obtain ⟨cc, HCc⟩ : ∃ x, Hid (moreK l F W0 mo W0.length = x) := ⟨_, rfl⟩
              rw [HCc.out]
              have HQ4 := HQ3.out
              rw [HCc.out] at HQ4
              have HQ5 := Lib.hid HQ4
              clear HQ4 HQ3 HBj HW4 HR4
              go_wp2_with fail
              clear hbx0 hbx1
              go_loopw [61] (fun v61 wr => ∃ j : Nat, j ≤ W0.length ∧ v61 = .int .i64 j ∧ Hid (Pw w N (A) l.length c (some ⟨g, 0, none⟩) (updK F W0 cc j) wr) ∧ Hid (Kd.R k66 66 wr _ (fun k => k ≠ g) (.slice (some ad4) W0.length c4) W0)) (fun v61 _ => W0.length - (intOf v61).toNat)
              case atStart => exact ⟨0, Nat.zero_le _, rfl, HW5, HR5⟩
              case round =>
                clear HW5 HR5
                obtain ⟨j, hj, rfl, HWj, HRj⟩ := hrel
                have HFj : Hid ((updK F W0 cc j).length = l.length) := Lib.hid (by rw [updK_len, HF.out, HFl.out])
                by_cases hjl : j < W0.length
                · have HEj := HEd.out _ (rd66_mem hjl)
                  obtain ⟨ad, e4, hx0, hx1, hx2⟩ := at_T66 (Kd.R_reads' HRj.out).2.2 (j : Int) (by omega) (by omega)
                  injection e4 with e4
                  subst e4
                  rw [Int.toNat_natCast] at hx0 hx1 hx2
                  obtain ⟨pu, Hpu⟩ : ∃ x, Hid ((rd66 W0 j).f0 = x) := ⟨_, rfl⟩
                  obtain ⟨pe, Hpe⟩ : ∃ x : Nat, Hid ((rd66 W0 j).f1 = (x : Int)) := ⟨(rd66 W0 j).f1.toNat, Lib.hid (by omega)⟩
                  obtain ⟨pb, Hpb⟩ : ∃ x, Hid ((rd66 W0 j).f2 = x) := ⟨_, rfl⟩
                  rw [Hpe.out] at HEj
                  rw [Hpu.out] at hx0
                  rw [Hpe.out] at hx1
                  rw [Hpb.out] at hx2
                  have hpl : pe < (updK F W0 cc j).length := by rw [HFj.out]; omega
                  obtain ⟨x, Hx⟩ : ∃ x, Hid (rd (updK F W0 cc j) pe = x) := ⟨_, rfl⟩
                  have HWa := HWj.out.alloc (.cells #[.int .i64 pu, .int .i64 pe, .bool pb] 66)
                  obtain ⟨g', e5, hfr⟩ := HWa.fl.pos (by omega)
                  injection e5 with e5
                  injection e5 with e5 _ _
                  subst e5
                  obtain ⟨hy, hz⟩ := hfr.cell pe hpl
                  rw [Hx.out] at hy
                  have HPl := Lib.hid hpl
                  have HWa2 := Lib.hid HWa
                  have hpl1 : (pe : Int) < (l1.length : Int) := by rw [HFl.out]; omega
                  have HRa := Lib.hid (fun v => Kd.R_far (p := ⟨g, pe, none⟩) (Kd.R_alloc HRj.out (.cells #[.int .i64 pu, .int .i64 pe, .bool pb] 66)) (fun _ hk => hk) v)
                  clear hfr HWa hpl
                  cases pb
                  · have HU : Hid (updK F W0 cc (j + 1) = (updK F W0 cc j).set pe (wrap64 (x + cc))) := Lib.hid (by show upd1 _ _ _ = _; unfold upd1; rw [Hpe.out, Hpb.out, Int.toNat_natCast, Hx.out]; rfl)
                    go_wp2_with fail
                    go_roundw
                    case rel => exact ⟨j + 1, by omega, by go_num, by rw [HU.out]; exact Lib.hid (HWa2.out.put HPl.out _), Lib.hid (HRa.out _)⟩
                    case measure => simp [intOf]; omega
                  · have HU : Hid (updK F W0 cc (j + 1) = (updK F W0 cc j).set pe (wrap64 (x - cc))) := Lib.hid (by show upd1 _ _ _ = _; unfold upd1; rw [Hpe.out, Hpb.out, Int.toNat_natCast, Hx.out]; rfl)
                    go_wp2_with fail
                    go_roundw
                    case rel => exact ⟨j + 1, by omega, by go_num, by rw [HU.out]; exact Lib.hid (HWa2.out.put HPl.out _), Lib.hid (HRa.out _)⟩
                    case measure => simp [intOf]; omega
                · obtain rfl : j = W0.length := by omega
                  go_wp2_with fail
                  go_roundg kq
                  case measure => omega
                  case rel => exact ⟨_, _, rfl, HQ5, Lib.hid (by rw [HFj.out, HFl.out]), HWj⟩
      · rw [if_neg h1] at hq
        have HE2 : Hid (F = F' ∧ sum = sum') := Lib.hid (by injection hq with h; injection h with h3 h4; exact ⟨h3, h4⟩)
        clear hq
        go_wp2_with fail
        refine bodyPost_ret (v := .tuple #[.slice A2 l1.length l1.length, .int .i64 sum, .int .i64 0]) (by simp [results, Try.results35, go_sem]) rfl ?_
        obtain ⟨rfl, rfl⟩ := HE2.out
        refine ⟨_, rfl, ?_, HW.out.bel⟩
        have h := HW.out.fl.view (by rw [HF.out, HFl.out]; omega)
        rw [HF.out] at h
        exact h

set_option maxHeartbeats 1000000 in
set_option maxRecDepth 100000 in
theorem push_no (N : Int) (A : Option Addr) (c : Nat) (l : List S41) (A1 : Option Addr) (c1 : Nat) (l1 : List Int) (s t most : Int) (k : Nat) (g : Bool) (w : World) (hr : Kd.C k41 w A l.length l) (hc : l.length ≤ c) (hr1 : Kd.C (Kd.int .i64) w A1 l1.length l1) (hc1 : l1.length ≤ c1)
    (hG : graph_Good.f k N l l1 s t = some g) (hm : g = false ∨ most < 0) :
    Calls Try.prog 35 #[.agg #[.int .i64 N, .slice A l.length c], .slice A1 l1.length c1, .int .i64 s, .int .i64 t, .int .i64 most] w (PushPost [] 0 50 w) := by
  have hb0 : Below w.heap.size w (w.alloc (.cells #[.int .i64 N, .slice A l.length c] 24)) := (Below.refl _ _).alloc (Nat.le_refl _) _
  have hgood := graph_Good.calls k N A c l A1 c1 l1 s t g (w.alloc (.cells #[.int .i64 N, .slice A l.length c] 24)) (Kd.C_below hr hb0) hc (Kd.C_below hr1 hb0) hc1 hG
  have HB0 := Lib.hid hb0
  clear hb0 hr hr1 hG
  cases g
  · clear hm
    go_enter Try.func35, Try.ntmps35
    go_wp2_with (go_at_call 23; refine hgood.mono ?_; rintro e w1 ⟨rfl, hb1⟩; have HB1 := Lib.hid hb1; clear hb1)
    refine bodyPost_ret (v := .tuple #[.slice none 0 0, .int .i64 0, .int .i64 50]) (by simp [results, Try.results35, go_sem]) rfl ?_
    exact ⟨_, rfl, Kd.V_nil _ _ _ _ _, HB0.out.trans (HB1.out.mono HB0.out.size)⟩
  · have hm : most < 0 := by simpa using hm
    go_enter Try.func35, Try.ntmps35
    go_wp2_with (go_at_call 23; refine hgood.mono ?_; rintro e w1 ⟨rfl, hb1⟩; have HB1 := Lib.hid hb1; clear hb1)
    refine bodyPost_ret (v := .tuple #[.slice none 0 0, .int .i64 0, .int .i64 50]) (by simp [results, Try.results35, go_sem]) rfl ?_
    exact ⟨_, rfl, Kd.V_nil _ _ _ _ _, HB0.out.trans (HB1.out.mono HB0.out.size)⟩

theorem flow_Push.calls (k : Nat) (a0_0 : Int) (A0_1 : Option Addr) (c0_1 : Nat) (l0_1 : List (S41)) (A1 : Option Addr) (c1 : Nat) (l1 : List Int) (a2 : Int) (a3 : Int) (a4 : Int) (r1 : List Int) (r2 : Int) (r3 : Int) (w : World) (hr0_1 : Kd.C k41 w A0_1 l0_1.length l0_1) (hc0_1 : l0_1.length ≤ c0_1) (hr1 : Kd.C (Kd.int .i64) w A1 l1.length l1) (hc1 : l1.length ≤ c1) (h : flow_Push.f k a0_0 l0_1 l1 a2 a3 a4 = some (r1, r2, r3)) :
    Calls Try.prog 35 #[.agg #[.int .i64 a0_0, .slice A0_1 l0_1.length c0_1], .slice A1 l1.length c1, .int .i64 a2, .int .i64 a3, .int .i64 a4] w fun e w' => ∃ v0_ : Value, e = .returned (.tuple #[v0_, .int .i64 r2, .int .i64 r3]) ∧ Kd.V (Kd.int .i64) 3 w' w.heap.size (fun k_ => (w.heap.size ≤ k_)) v0_ r1 ∧ Below w.heap.size w w' := by
  unfold flow_Push.f at h
  obtain ⟨g, hG, h⟩ := Option.bind_eq_some_iff.1 h
  cases g with
  | false =>
    rw [if_neg (by simp)] at h
    injection h with h; injection h with h1 h; injection h with h2 h3
    subst h1; subst h2; subst h3
    exact push_no _ _ _ _ _ _ _ _ _ _ k _ w hr0_1 hc0_1 hr1 hc1 hG (.inl rfl)
  | true =>
    rw [if_pos rfl] at h
    by_cases hm : a4 < 0
    · rw [if_pos hm] at h
      injection h with h; injection h with h1 h; injection h with h2 h3
      subst h1; subst h2; subst h3
      exact push_no _ _ _ _ _ _ _ _ _ _ k _ w hr0_1 hc0_1 hr1 hc1 hG (.inr hm)
    · rw [if_neg hm] at h
      obtain ⟨⟨F', sum'⟩, hP, h⟩ := Option.bind_eq_some_iff.1 h
      injection h with h; injection h with h1 h; injection h with h2 h3
      subst h1; subst h2; subst h3
      exact push_walk _ _ _ _ _ _ _ _ _ _ k w hr0_1 hc0_1 hr1 hc1 hG (good_seen hG) (by omega) F' sum' hP
end Go.Proofs.Ytfmfojogcghkkaa.P
