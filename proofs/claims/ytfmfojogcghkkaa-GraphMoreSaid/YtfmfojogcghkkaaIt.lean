/- graph.next: its iterator, as a contract for a range over a function: the vertices to which there is room, in the edges' order. -/
import Derived.RangeFuncNested
import Derived.RangeFuncBound
import Derived.RangeFuncCalls
import Derived.RangeFuncLeaves
import Derived.RangeFuncBox
import Derived.Shelf.Abstract
import Derived.Shelf.RegionOpen
import Derived.WalkKit
import Derived.OwnWalkIn
import Derived.TacticsInMore
import Derived.LoopNIn
import Derived.LoopIn
import Derived.Lib.Hide
import Derived.Deep.QuietTactic
import Derived.BigQuiet
import Derived.Test.YtfmfojogcghkkaaBf
namespace Go.Proofs.Ytfmfojogcghkkaa.P
open Go.RowKit Go.Shelf Go.Proofs.YtfmfojogcghkkaaW.PrintWords Go.Proofs.YtfmfojogcghkkaaW.PrintLast Go.Proofs.YtfmfojogcghkkaaW.PrintMore
open Go.Proofs.Ytfmfojogcghkkaa.Bf
set_option linter.unusedVariables false
attribute [local go_sem] Oper.semAt_some

/-- A vertex that is come to: by which edge, against it. -/
abbrev Cd (N : Int) := { c : Int × Nat × Bool // 0 ≤ c.1 ∧ c.1 < N }
/-- What the first i edges offer. -/
def cdsK (l : List S41) (F : List Int) (u : Int) : Nat → List (Int × Nat × Bool)
  | 0 => []
  | i + 1 => match cand l F u i with
    | none => cdsK l F u i
    | some (v, b) => cdsK l F u i ++ [(v, i, b)]
theorem cdsK_len (l : List S41) (F : List Int) (u : Int) : ∀ i, (cdsK l F u i).length ≤ i
  | 0 => Nat.le_refl _
  | i + 1 => by
    have ih := cdsK_len l F u i
    unfold cdsK
    cases cand l F u i with
    | none => exact Nat.le_succ_of_le ih
    | some x => simp; omega
/-- What a round that goes on keeps: all that lay, and the iterator's three boxes. -/
structure Kq (n₀ Bn : Nat) (W W' : World) : Prop where
  bel : Below n₀ W W'
  box : ∀ k, Bn ≤ k → k < Bn + 3 → W'.heap[k]? = W.heap[k]?
theorem Kq.refl (n₀ Bn : Nat) (W : World) : Kq n₀ Bn W W := ⟨Below.refl _ _, fun _ _ _ => rfl⟩
theorem Kq.trans {n₀ Bn : Nat} {A B C : World} (h : Kq n₀ Bn A B) (k : Kq n₀ Bn B C) : Kq n₀ Bn A C := ⟨h.bel.trans k.bel, fun i a b => (k.box i a b).trans (h.box i a b)⟩

/-- The iterator's three boxes. -/
structure Nx (w0 : World) (Bn : Nat) (N : Int) (A : Option Addr) (n c : Nat) (A1 : Option Addr) (n1 c1 : Nat) (u : Int) (W : World) : Prop where
  bel : Below w0.heap.size w0 W
  b0 : W.heap[Bn]? = some (.cells #[.int .i64 N, .slice A n c] 24)
  b1 : W.heap[Bn + 1]? = some (.cells #[.slice A1 n1 c1] 25)
  b2 : W.heap[Bn + 2]? = some (.cells #[.int .i64 u] 3)
theorem Nx.kq {w0 : World} {Bn : Nat} {N : Int} {A : Option Addr} {n c : Nat} {A1 : Option Addr} {n1 c1 : Nat} {u : Int} {W W' : World} (h : Nx w0 Bn N A n c A1 n1 c1 u W) (hk : Kq w0.heap.size Bn W W') : Nx w0 Bn N A n c A1 n1 c1 u W' :=
  ⟨h.bel.trans hk.bel, (hk.box _ (by omega) (by omega)).trans h.b0, (hk.box _ (by omega) (by omega)).trans h.b1, (hk.box _ (by omega) (by omega)).trans h.b2⟩
theorem Nx.cells {w0 : World} {Bn : Nat} {N : Int} {A : Option Addr} {n c : Nat} {A1 : Option Addr} {n1 c1 : Nat} {u : Int} {W : World} (h : Nx w0 Bn N A n c A1 n1 c1 u W) :
    W.cell? ⟨Bn, 0, none⟩ = some (.int .i64 N) ∧ W.cell? ⟨Bn, 1, none⟩ = some (.slice A n c) ∧ W.cell? ⟨Bn + 1, 0, none⟩ = some (.slice A1 n1 c1) ∧ W.cell? ⟨Bn + 2, 0, none⟩ = some (.int .i64 u) :=
  ⟨by simp [World.cell?, h.b0], by simp [World.cell?, h.b0], by simp [World.cell?, h.b1], by simp [World.cell?, h.b2]⟩
theorem kq_alloc {n₀ Bn : Nat} {W : World} (h : n₀ ≤ W.heap.size) (hB : Bn + 3 ≤ W.heap.size) (o : Obj) : Kq n₀ Bn W (W.alloc o) := ⟨(Below.refl _ _).alloc h o, fun k _ hk => Below.heap_alloc W o k (by omega)⟩

set_option maxHeartbeats 400000 in
theorem next_in (n : Nat) (N : Int) (A : Option Addr) (m c : Nat) (A1 : Option Addr) (m1 c1 : Nat) (u : Int) (w : World) :
    Calls Try.prog 45 #[.agg #[.int .i64 N, .slice A m c], .slice A1 m1 c1, .int .i64 u] w fun e w' => e = .returned (.func (.func 58) #[] #[.pointer (some ⟨w.heap.size, 0, none⟩), .pointer (some ⟨w.heap.size + 2, 0, none⟩), .pointer (some ⟨w.heap.size + 1, 0, none⟩)]) ∧
      w' = ((w.alloc (.cells #[.int .i64 N, .slice A m c] 24)).alloc (.cells #[.slice A1 m1 c1] 25)).alloc (.cells #[.int .i64 u] 3) := by
  go_enter Try.func45, Try.ntmps45
  go_wp2
  go_ret
  exact ⟨rfl, rfl⟩
set_option maxHeartbeats 3200000 in
set_option maxRecDepth 100000 in
theorem next1_in (n : Nat) (hn : 1 ≤ n) (L Bn : Nat) (w0 : World) (N u : Int) (A : Option Addr) (c : Nat) (l : List S41) (A1 : Option Addr) (c1 : Nat) (F : List Int) (hr : Kd.C k41 w0 A l.length l) (hr1 : Kd.C (Kd.int .i64) w0 A1 F.length F) (hl : F.length = l.length)
    (hE : Bf.Ends l N) (hll : l.length ≤ 256) (J Jx : List (Cd N) → World → Prop) (W : World) (hJ : AbidesFrom W.heap.size J) (h0B : w0.heap.size ≤ Bn)
    (hY : ∀ pre x W1, J pre W1 → pre.length < l.length → YieldAt Fence.wide (n - 1) Try.prog L #[.int .i64 x.1.1] W1 fun e W' => (e = .returned (.bool true) ∧ J (pre ++ [x]) W' ∧ Kq w0.heap.size Bn W1 W') ∨ (e = .returned (.bool false) ∧ Jx (pre ++ [x]) W'))
    (hX : Nx w0 Bn N A l.length c A1 F.length c1 u W) (h0 : J [] W) :
    CallsIn Fence.wide n Try.prog 58 #[.func (.yield L) #[] #[], .pointer (some ⟨Bn, 0, none⟩), .pointer (some ⟨Bn + 2, 0, none⟩), .pointer (some ⟨Bn + 1, 0, none⟩)] W fun e W' => (∃ v, e = .returned v) ∧
      ((∃ ys : List (Cd N), ys.map (·.1) = cdsK l F u l.length ∧ J ys W') ∨ (∃ pre, True ∧ Jx pre W')) := by
  have HR := Lib.hid hr
  have HR1 := Lib.hid hr1
  have HL := Lib.hid hl
  have HE := Lib.hid hE
  have HJ := Lib.hid hJ
  have HY := Lib.hid hY
  have HX := Lib.hid hX
  obtain ⟨x0, x1, x2, x3⟩ := hX.cells
  clear hr hr1 hl hE hJ hY hX
  refine callsIn_of_wp Try.func58 rfl trivial ?_ rfl
  simp only [Try.ntmps58, List.size_toArray, List.length_cons, List.length_nil, Nat.reduceAdd, Nat.reduceSub, Array.replicate_succ, Array.replicate_zero, List.push_toArray, List.append_toArray, List.nil_append, List.cons_append]
  gi_wp2
  clear x0 x1 x2 x3
  gi_loopw [10] (fun v10 wr => ∃ (i : Nat) (pre : List (Cd N)), i ≤ l.length ∧ v10 = .int .i64 i ∧ Hid (pre.map (·.1) = cdsK l F u i) ∧ Hid (J pre wr) ∧ Hid (Kq w0.heap.size Bn W wr) ∧ Hid (W.heap.size ≤ wr.heap.size)) (fun v10 _ => l.length - (intOf v10).toNat)
  case atStart => exact ⟨0, [], Nat.zero_le _, rfl, Lib.hid rfl, Lib.hid h0, Lib.hid (Kq.refl _ _ _), Lib.hid (Nat.le_refl _)⟩
  case round =>
    obtain ⟨i, pre, hi, rfl, HP, HJs, HK, HS⟩ := hrel
    have HXr := Lib.hid (HX.out.kq HK.out)
    obtain ⟨x0, x1, x2, x3⟩ := HXr.out.cells
    by_cases hil : i < l.length
    · obtain ⟨ad, rfl, hx0, hx1, hx2⟩ := at_T41 (Kd.C_below HR.out HXr.out.bel) (i : Int) (by omega) (by omega)
      obtain ⟨ad1, rfl, hy⟩ := Kd.at_int (Kd.C_below HR1.out HXr.out.bel) (i : Int) (by omega) (by rw [HL.out]; omega)
      rw [Int.toNat_natCast] at hx0 hx1 hx2 hy
      have hEi := HE.out i hil
      obtain ⟨f, Hf⟩ : ∃ f, Hid ((rd_T41 l i).f0 = f) := ⟨_, rfl⟩
      obtain ⟨t, Ht⟩ : ∃ t, Hid ((rd_T41 l i).f1 = t) := ⟨_, rfl⟩
      obtain ⟨cp, Hc⟩ : ∃ cp, Hid ((rd_T41 l i).f2 = cp) := ⟨_, rfl⟩
      obtain ⟨x, Hx⟩ : ∃ x, Hid (rd F i = x) := ⟨_, rfl⟩
      rw [Hf.out, Ht.out] at hEi
      obtain ⟨hEf, hEt, hEn⟩ := hEi
      have HEf := Lib.hid hEf
      have HEt := Lib.hid hEt
      have HEn := Lib.hid hEn
      clear hEf hEt hEn
      rw [Hf.out] at hx0
      rw [Ht.out] at hx1
      rw [Hc.out] at hx2
      rw [Hx.out] at hy
      have hl1 : (i : Int) < (F.length : Int) := by rw [HL.out]; omega
      have hJ0 : J pre ((wr.alloc (.cells #[.int .i64 f, .int .i64 t, .int .i64 cp] 41))) := HJ.out pre wr _ none HJs.out (World.grownBy_alloc wr _ none) (fun r e => by cases e)
      have hJq : ∀ nq, J pre ((wr.alloc (.cells #[.int .i64 f, .int .i64 t, .int .i64 cp] 41)).drewN nq) := fun nq => HJ.out pre _ _ none hJ0 ⟨rfl, rfl, rfl, Nat.le_refl _, fun _ _ _ => rfl⟩ (fun r e => by cases e)
      have HJq := Lib.hid hJq
      clear hJ0 hJq
      have HKq : ∀ nq, Hid (Kq w0.heap.size Bn W ((wr.alloc (.cells #[.int .i64 f, .int .i64 t, .int .i64 cp] 41)).drewN nq) ∧ W.heap.size ≤ (wr.alloc (.cells #[.int .i64 f, .int .i64 t, .int .i64 cp] 41)).heap.size) := fun nq => Lib.hid ⟨HK.out.trans ((kq_alloc (by have := HXr.out.bel.size; omega) (by have := (Array.getElem?_eq_some_iff.1 HXr.out.b2).1; omega) _).trans ⟨⟨rfl, rfl, rfl, Nat.le_refl _, fun _ _ => rfl⟩, fun _ _ _ => rfl⟩), by have := HS.out; simp; omega⟩
      have hpl : Hid (pre.length < l.length) := Lib.hid (by have h1 := congrArg List.length HP.out; rw [List.length_map] at h1; have := cdsK_len l F u i; omega)
      have hf0 : (wr.alloc (.cells #[.int .i64 f, .int .i64 t, .int .i64 cp] 41)).cell? ⟨wr.heap.size, 0, none⟩ = some (.int .i64 f) := (World.cell?_alloc_at _ _ _ 0 rfl).trans rfl
      have hf1 : (wr.alloc (.cells #[.int .i64 f, .int .i64 t, .int .i64 cp] 41)).cell? ⟨wr.heap.size, 1, none⟩ = some (.int .i64 t) := (World.cell?_alloc_at _ _ _ 1 rfl).trans rfl
      have hf2 : (wr.alloc (.cells #[.int .i64 f, .int .i64 t, .int .i64 cp] 41)).cell? ⟨wr.heap.size, 2, none⟩ = some (.int .i64 cp) := (World.cell?_alloc_at _ _ _ 2 rfl).trans rfl
      have hy3 : (wr.alloc (.cells #[.int .i64 f, .int .i64 t, .int .i64 cp] 41)).cell? (ad1.add i) = some (.int .i64 x) := (((Below.refl wr.heap.size wr).alloc (Nat.le_refl _) _).cell (World.block_lt_of_cell? wr _ hy)).trans hy
      have hx2' := (((Below.refl wr.heap.size wr).alloc (Nat.le_refl _) (.cells #[.int .i64 f, .int .i64 t, .int .i64 cp] 41)).cell (World.block_lt_of_cell? wr _ x2)).trans x2
      have hx3' := (((Below.refl wr.heap.size wr).alloc (Nat.le_refl _) (.cells #[.int .i64 f, .int .i64 t, .int .i64 cp] 41)).cell (World.block_lt_of_cell? wr _ x3)).trans x3
      gi_wp2
      refine wpIn_wide.2 ?_
      clear hx0 hx1 hx2 hy x0 x1 x2 x3
      generalize wr.alloc (.cells #[.int .i64 f, .int .i64 t, .int .i64 cp] 41) = w2 at HJq HKq hf0 hf1 hf2 hy3 hx2' hx3' ⊢
      generalize wr.heap.size = b3 at hf0 hf1 hf2 ⊢
      by_cases e1 : f = u
      · have b1 : (f == u) = true := by simpa using e1
        have b2 : (t == u) = false := by have := HEn.out; simp; omega
        have HFU := Lib.hid e1
        have HTU : Hid (t ≠ u) := Lib.hid (by have := HEn.out; omega)
        clear e1
        by_cases e2 : x < cp
        · have HE2 := Lib.hid e2
          have HC := Lib.hid (show cand l F u i = some (t, false) from by unfold cand; rw [Hf.out, Ht.out, Hc.out, Hx.out, if_pos ⟨HFU.out, HE2.out⟩])
          go_quiet (fail)
          obtain ⟨fn, tmps, assign, body, hy, hR⟩ := HY.out pre ⟨(t, i, false), HEt.out⟩ (w2.drewN nq) (HJq.out nq) hpl.out
          dsimp only at hy
          gi_wp2
          refine hR.mono ?_
          rintro e W3 (⟨rfl, hJ3, hk3⟩ | ⟨rfl, hJx3⟩)
          · have HJ3 := Lib.hid hJ3
            have HK3 := Lib.hid hk3
            clear hJ3 hk3 hy hR
            gi_wp2
            go_roundw
            case rel => exact ⟨i + 1, pre ++ [⟨(t, i, false), HEt.out⟩], by omega, by go_num, Lib.hid (by simp only [cdsK]; rw [HC.out, List.map_append, HP.out]; rfl), HJ3, Lib.hid ((HKq nq).out.1.trans HK3.out), Lib.hid (Nat.le_trans (HKq nq).out.2 HK3.out.bel.size)⟩
            case measure => simp [intOf]; omega
          · have HJ3 := Lib.hid hJx3
            clear hJx3 hy hR
            gi_wp2
            refine bodyPost_ret (results_none rfl _ _ _) rfl ?_
            exact ⟨⟨_, rfl⟩, .inr ⟨_, trivial, HJ3.out⟩⟩
        · have HC := Lib.hid (show cand l F u i = none from by unfold cand; rw [Hf.out, Ht.out, Hc.out, Hx.out, if_neg (fun h => e2 h.2), if_neg (fun h => HTU.out h.1)])
          go_quiet (fail)
          gi_wp2
          go_roundw
          case rel => exact ⟨i + 1, pre, by omega, by go_num, Lib.hid (by simp only [cdsK]; rw [HC.out]; exact HP.out), Lib.hid (HJq.out nq), Lib.hid (HKq nq).out.1, Lib.hid (HKq nq).out.2⟩
          case measure => simp [intOf]; omega
      · have b1 : (f == u) = false := by simpa using e1
        have HFU := Lib.hid e1
        clear e1
        by_cases e3 : t = u
        · have b2 : (t == u) = true := by simpa using e3
          have HTU := Lib.hid e3
          clear e3
          by_cases e2 : 0 < x
          · have HE2 := Lib.hid e2
            have HC := Lib.hid (show cand l F u i = some (f, true) from by unfold cand; rw [Hf.out, Ht.out, Hc.out, Hx.out, if_neg (fun h => HFU.out h.1), if_pos ⟨HTU.out, HE2.out⟩])
            go_quiet (fail)
            obtain ⟨fn, tmps, assign, body, hy, hR⟩ := HY.out pre ⟨(f, i, true), HEf.out⟩ (w2.drewN nq) (HJq.out nq) hpl.out
            dsimp only at hy
            gi_wp2
            refine hR.mono ?_
            rintro e W3 (⟨rfl, hJ3, hk3⟩ | ⟨rfl, hJx3⟩)
            · have HJ3 := Lib.hid hJ3
              have HK3 := Lib.hid hk3
              clear hJ3 hk3 hy hR
              gi_wp2
              go_roundw
              case rel => exact ⟨i + 1, pre ++ [⟨(f, i, true), HEf.out⟩], by omega, by go_num, Lib.hid (by simp only [cdsK]; rw [HC.out, List.map_append, HP.out]; rfl), HJ3, Lib.hid ((HKq nq).out.1.trans HK3.out), Lib.hid (Nat.le_trans (HKq nq).out.2 HK3.out.bel.size)⟩
              case measure => simp [intOf]; omega
            · have HJ3 := Lib.hid hJx3
              clear hJx3 hy hR
              gi_wp2
              refine bodyPost_ret (results_none rfl _ _ _) rfl ?_
              exact ⟨⟨_, rfl⟩, .inr ⟨_, trivial, HJ3.out⟩⟩
          · have HC := Lib.hid (show cand l F u i = none from by unfold cand; rw [Hf.out, Ht.out, Hc.out, Hx.out, if_neg (fun h => HFU.out h.1), if_neg (fun h => e2 h.2)])
            go_quiet (fail)
            gi_wp2
            go_roundw
            case rel => exact ⟨i + 1, pre, by omega, by go_num, Lib.hid (by simp only [cdsK]; rw [HC.out]; exact HP.out), Lib.hid (HJq.out nq), Lib.hid (HKq nq).out.1, Lib.hid (HKq nq).out.2⟩
            case measure => simp [intOf]; omega
        · have b2 : (t == u) = false := by simpa using e3
          have HC := Lib.hid (show cand l F u i = none from by unfold cand; rw [Hf.out, Ht.out, Hc.out, Hx.out, if_neg (fun h => HFU.out h.1), if_neg (fun h => e3 h.1)])
          clear e3
          go_quiet (fail)
          gi_wp2
          go_roundw
          case rel => exact ⟨i + 1, pre, by omega, by go_num, Lib.hid (by simp only [cdsK]; rw [HC.out]; exact HP.out), Lib.hid (HJq.out nq), Lib.hid (HKq nq).out.1, Lib.hid (HKq nq).out.2⟩
          case measure => simp [intOf]; omega
    · obtain rfl : i = l.length := by omega
      gi_wp2
      go_end0
      exact ⟨⟨_, rfl⟩, .inl ⟨pre, HP.out, HJs.out⟩⟩
#print axioms next1_in
end Go.Proofs.Ytfmfojogcghkkaa.P
