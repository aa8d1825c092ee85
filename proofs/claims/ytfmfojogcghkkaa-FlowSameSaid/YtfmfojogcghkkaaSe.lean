/- flow.search: what a vertex was come to by, in a map; the queue is a row that begins inside its block. -/
import Derived.Test.YtfmfojogcghkkaaBf
import Derived.Test.YtfmfojogcghkkaaMp
import Derived.Lib.Hide
import Derived.Deep.QuietTactic
import Derived.Deep.LoopGhost
import Derived.BigQuiet
namespace Go.Proofs.Ytfmfojogcghkkaa.P
open Go.RowKit Go.Proofs.YtfmfojogcghkkaaW.PrintWords Go.Proofs.YtfmfojogcghkkaaW.PrintLast Go.Proofs.YtfmfojogcghkkaaW.PrintMore
open Go.Proofs.Ytfmfojogcghkkaa.Bf Go.Proofs.Ytfmfojogcghkkaa.Mp
open Go.Maps (Keyed int_keyed keyOf_int_mk)
set_option linter.unusedVariables false

def stepV (x : S66) : Value := .agg #[.int .i64 x.f0, .int .i64 x.f1, .bool x.f2]
def fM (g : Int → Option S66) : Value → Option Value
  | .int .i64 v => (g v).map stepV
  | _ => none
theorem fM_up (g : Int → Option S66) (v : Int) (x : S66) : Mp.up (fM g) (.int .i64 v) (stepV x) = fM (fun y => if y = v then some x else g y) := by
  funext key
  unfold Mp.up
  by_cases h : key = .int .i64 v
  · subst h
    rw [if_pos rfl]
    simp [fM]
  · rw [if_neg h]
    cases key with
    | int k n =>
      cases k <;> try rfl
      have : n ≠ v := fun e => h (by rw [e])
      simp [fM, this]
    | _ => rfl
theorem law3 : Keyed Try.prog 3 := int_keyed Try.underlying3
theorem key3 {v N : Int} (h0 : 0 ≤ v) (h1 : v < N) (h2 : N ≤ 64) : keyOf Try.prog 3 (.int .i64 v) = some (.int .i64 v) := keyOf_int_mk Try.underlying3 (by simp only [Lit.wf, IntKind.min, IntKind.max, IntKind.signed, IntKind.bits, Bool.and_eq_true, decide_eq_true_eq, if_true]; omega)

section
variable {P : Program} {k e t : TypeId} {w w1 : World} {b n : Nat} {f : Value → Option Value}
/-- A map literal's entry: as a store. -/
theorem wpList_ins {ops : Array Oper} {rest : List Oper} {o : Oper} {a : Act} {Q : Exit → Act → World → Prop}
    (hg : o.guard = none) (m x v : Operand) (t : TypeId) (hop : o.op = Op.insert t m x v)
    (k e : TypeId) (K : Keyed P k) (ht : P.underlying t = some (.map k e)) (b n : Nat) (f : Value → Option Value)
    (hm : a.eval m = .map (some b)) (hIs : Is P k w b n f) (hn : n < maxLen) (key val : Value) (kl : Lit) (hx : a.eval x = key) (hv : a.eval v = val) (hkey : keyOf P k key = some kl)
    (hK : ∀ w', Is P k w' b (n + 1) (Mp.up f key val) → w.grownBy w' (some b) → wpList P ops Q rest (a.put o.dst undef) w') :
    wpList P ops Q (o :: rest) a w := by
  refine wpList_plain hg fun K' hK' => ?_
  obtain ⟨w', hrun, r1, r2⟩ := hIs.update K ht hn hkey val
  unfold Oper.wp
  simp [execOp, hop, hm, hx, hv, hrun, Result.andThen]
  exact hK' _ _ (hK w' r1 r2)
end

/-- What search has in memory. -/
structure Sw (w0 : World) (N : Int) (A : Option Addr) (n c : Nat) (g : Int → Option S66) (q : List Int) (v8 : Value) (nM : Nat) (W : World) : Prop where
  bel : Below w0.heap.size w0 W
  box : W.heap[w0.heap.size]? = some (.cells #[.int .i64 N, .slice A n c] 24)
  map : Is Try.prog 3 W (w0.heap.size + 1) nM (fM g)
  q : Kd.Q (Kd.int .i64) 3 W w0.heap.size (fun _ => True) v8 q
theorem Sw.below {w0 : World} {N : Int} {A : Option Addr} {n c : Nat} {g : Int → Option S66} {q : List Int} {v8 : Value} {nM : Nat} {W W' : World} (h : Sw w0 N A n c g q v8 nM W) (hb : Below W.heap.size W W') : Sw w0 N A n c g q v8 nM W' :=
  ⟨h.bel.trans (hb.mono h.bel.size), (hb.block _ (Array.getElem?_eq_some_iff.1 h.box).1).trans h.box, h.map.of_block (hb.block _ h.map.lt), Kd.Q_below h.q hb⟩
theorem Sw.cells {w0 : World} {N : Int} {A : Option Addr} {n c : Nat} {g : Int → Option S66} {q : List Int} {v8 : Value} {nM : Nat} {W : World} (h : Sw w0 N A n c g q v8 nM W) : W.cell? ⟨w0.heap.size, 0, none⟩ = some (.int .i64 N) ∧ W.cell? ⟨w0.heap.size, 1, none⟩ = some (.slice A n c) :=
  ⟨by simp [World.cell?, h.box], by simp [World.cell?, h.box]⟩

/-- A block more. -/
theorem Sw.alloc {w0 : World} {N : Int} {A : Option Addr} {n c : Nat} {g : Int → Option S66} {q : List Int} {v8 : Value} {nM : Nat} {W : World} (h : Sw w0 N A n c g q v8 nM W) (o : Obj) : Sw w0 N A n c g q v8 nM (W.alloc o) := h.below ((Below.refl _ _).alloc (Nat.le_refl _) o)
theorem Sw.drewN {w0 : World} {N : Int} {A : Option Addr} {n c : Nat} {g : Int → Option S66} {q : List Int} {v8 : Value} {nM : Nat} {W : World} (h : Sw w0 N A n c g q v8 nM W) (m : Nat) : Sw w0 N A n c g q v8 nM (W.drewN m) := h.below ⟨rfl, rfl, rfl, Nat.le_refl _, fun _ _ => rfl⟩
/-- An entry more. -/
theorem Sw.put {w0 : World} {N : Int} {A : Option Addr} {n c : Nat} {g g' : Int → Option S66} {q : List Int} {v8 : Value} {nM nM' : Nat} {W W' : World} (h : Sw w0 N A n c g q v8 nM W) (hM : Is Try.prog 3 W' (w0.heap.size + 1) nM' (fM g')) (hg : W.grownBy W' (some (w0.heap.size + 1))) : Sw w0 N A n c g' q v8 nM' W' := by
  obtain ⟨es, cl, e⟩ := h.map.isMap
  refine ⟨h.bel.grown hg h.bel.size (fun k hk => by cases hk; omega), (hg.block _ (Array.getElem?_eq_some_iff.1 h.box).1 (by simp)).trans h.box, hM, ?_⟩
  refine Kd.Q_mono (Kd.Q_grown (Kd.Q_bound h.q) hg (fun k hk e2 => ?_)) (fun _ _ => trivial)
  cases e2
  obtain ⟨_, _, _, q', _, cells, hc⟩ := hk
  rw [e] at hc; cases hc
/-- A vertex more. -/
theorem Sw.app {w0 : World} {N : Int} {A : Option Addr} {n c : Nat} {g : Int → Option S66} {q q' : List Int} {v8 v9 : Value} {nM : Nat} {W W' : World} (h : Sw w0 N A n c g q v8 nM W) (hq : Kd.Q (Kd.int .i64) 3 W' w0.heap.size (fun _ => True) v9 q') (hb : Below w0.heap.size w0 W') (hg : W.grownBy W' v8.ownBlock) : Sw w0 N A n c g q' v9 nM W' := by
  obtain ⟨es, cl, e⟩ := h.map.isMap
  refine ⟨hb, (hg.block _ (Array.getElem?_eq_some_iff.1 h.box).1 (fun hk => ?_)).trans h.box, h.map.kept hg (fun hk => ?_), hq⟩
  · obtain ⟨cells, hc⟩ := Kd.Q_typed h.q _ hk.symm
    rw [h.box] at hc; injection hc with hc; injection hc with _ hc; cases hc
  · obtain ⟨cells, hc⟩ := Kd.Q_typed h.q _ hk.symm
    rw [e] at hc; cases hc
theorem drop_app_ {q : List Int} {k : Nat} (h : k ≤ q.length) (v : Int) : (q ++ [v]).drop k = q.drop k ++ [v] := by
  rw [List.drop_append, show k - q.length = 0 by omega]; rfl

theorem fM_none : (fun _ => none : Value → Option Value) = fM (fun _ => none) := by
  funext key
  cases key with
  | int k n => cases k <;> rfl
  | _ => rfl
theorem rd_drop (q : List Int) (k : Nat) : rd (q.drop k) 0 = rd q k := by
  unfold rd
  rw [Int.toNat_natCast, List.getD_eq_getElem?_getD, List.getD_eq_getElem?_getD, List.getElem?_drop]; rfl

def SearchPost (l : List S41) (F : List Int) (s N : Int) (w : World) (e : Ending) (w' : World) : Prop := ∃ M n, e = .returned (.map (some M)) ∧ Is Try.prog 3 w' M n (fM (bfs l F s N).2) ∧ Below w.heap.size w w'

set_option maxHeartbeats 1600000 in
set_option maxRecDepth 100000 in
theorem search_any (N : Int) (A : Option Addr) (c : Nat) (l : List S41) (A1 : Option Addr) (c1 : Nat) (F : List Int) (s : Int) (w : World) (hr : Kd.C k41 w A l.length l) (hr1 : Kd.C (Kd.int .i64) w A1 F.length F) (hl : F.length = l.length)
    (hE : Bf.Ends l N) (hN : N ≤ 64) (hll : l.length ≤ 256) (hs : 0 ≤ s ∧ s < N) :
    Calls Try.prog 60 #[.agg #[.int .i64 N, .slice A l.length c], .slice A1 F.length c1, .int .i64 s] w (SearchPost l F s N w) := by
  have HR := Lib.hid hr
  have HR1 := Lib.hid hr1
  have HL := Lib.hid hl
  have HE := Lib.hid hE
  obtain ⟨hs0, hs1⟩ := hs
  have HI := Lib.hid (fun k => bfsK_inv (F := F) hE ⟨hs0, hs1⟩ k)
  clear hr hr1 hl hE
  have hmm := @run_makeMap Try.prog
  go_enter Try.func60, Try.ntmps60
  go_wp2_with (refine wpList_ins rfl (.tmp 16) (.tmp 17) (.tmp 18) 74 rfl 3 66 law3 Try.underlying74 (w.heap.size + 1) 0 (fun _ => none) rfl (by simpa using Is.made (w.alloc (.cells #[.int .i64 N, .slice A l.length c] 24)) Try.prog 3) (by decide) (.int .i64 s) (stepV ⟨0, 0, false⟩) _ rfl rfl (key3 hs0 hs1 hN) ?_; intro w1 hI1 hg1; have HI1 := Lib.hid hI1; have HG1 := Lib.hid hg1; clear hI1 hg1)
  clear hmm
  have hb0 : Below w.heap.size w ((w.alloc (.cells #[.int .i64 N, .slice A l.length c] 24)).alloc (.map #[] 0)) := ((Below.refl _ _).alloc (Nat.le_refl _) _).alloc (by simp) _
  have HSa : Hid (Sw w N A l.length c (bfsK l F s 0).2 ((bfsK l F s 0).1.drop 0) (.slice (some ⟨w1.heap.size, 0, none⟩) 1 1) (bfsK l F s 0).1.length (w1.alloc (.cells #[.int .i64 s] 3))) := by
    have hb1 : Below w.heap.size w w1 := hb0.grown HG1.out hb0.size (fun k hk => by cases hk; omega)
    have hbox : w1.heap[w.heap.size]? = some (.cells #[.int .i64 N, .slice A l.length c] 24) := (HG1.out.block _ (by simp; omega) (by simp)).trans ((Below.heap_alloc _ _ _ (by simp)).trans (heap_alloc_new _ _))
    refine Lib.hid ⟨hb1.alloc hb1.size _, (Below.heap_alloc _ _ _ (Array.getElem?_eq_some_iff.1 hbox).1).trans hbox, ?_, ?_⟩
    · have hI := HI1.out
      rw [fM_none, show (Mp.up (fM (fun _ => none)) (.int .i64 s) (stepV ⟨0, 0, false⟩)) = fM (bfsK l F s 0).2 from fM_up (fun _ => none) s ⟨0, 0, false⟩] at hI
      exact hI.of_block (Below.heap_alloc _ _ _ hI.lt)
    · refine Kd.Q_of_R ⟨fun _ _ => trivial, [.int .i64 s], ⟨rfl, .inr ⟨w1.heap.size, 1, #[.int .i64 s], rfl, hb1.size, heap_alloc_new _ _, Nat.le_refl _, by decide, rfl, rfl⟩⟩, rfl, fun j p hj => ?_⟩
      match j, hj with
      | 0, hj =>
        simp [bfsK] at hj
        subst hj
        rfl
  clear HI1 HG1 hb0
  generalize w1.alloc (.cells #[.int .i64 s] 3) = w2 at HSa ⊢
  generalize w1.heap.size = b8 at HSa ⊢
  clear w1
  go_loopg [8] 65 (fun gk v8 wr => ∃ k : Nat, gk + k = 65 ∧ Hid (k ≤ (bfsK l F s k).1.length) ∧ Hid (Sw w N A l.length c (bfsK l F s k).2 ((bfsK l F s k).1.drop k) v8 (bfsK l F s k).1.length wr))
  case atStart => exact ⟨0, rfl, Lib.hid (Nat.zero_le _), HSa⟩
  case round =>
    clear HSa
    obtain ⟨k, hgk, HK, HS⟩ := hrel
    obtain ⟨st, HST⟩ : ∃ st, Hid (bfsK l F s k = st) := ⟨_, rfl⟩
    have HI' : Hid (BInv l F s N st) := Lib.hid (by rw [← HST.out]; exact HI.out k)
    rw [HST.out] at HK HS
    have HLe := Lib.hid HI'.out.le
    obtain ⟨qs, HQS⟩ : ∃ qs, Hid (st.1.drop k = qs) := ⟨_, rfl⟩
    rw [HQS.out] at HS
    have hql : Hid (qs.length = st.1.length - k) := Lib.hid (by rw [← HQS.out, List.length_drop])
    obtain ⟨A8, c8, e8, hc8⟩ := Kd.Q_slice HS.out.q
    subst e8
    have hq64 : qs.length ≤ 64 := by have := hql.out; have := HLe.out; omega
    by_cases hlt : 0 < qs.length
    · have hkl : k < st.1.length := by have := hql.out; omega
      obtain ⟨u, HU⟩ : ∃ u, Hid (rd st.1 k = u) := ⟨_, rfl⟩
      obtain ⟨ad8, rfl, hx8⟩ := Kd.at_int (Kd.Q_reads' HS.out.q).2.2 0 (by omega) (by omega)
      rw [show rd qs 0 = u by rw [← HQS.out, rd_drop, HU.out]] at hx8
      have hx8' : wr.cell? ad8 = some (.int .i64 u) := by simpa [Addr.add] using hx8
      clear hx8
      have hcells := HS.out.cells
      obtain ⟨hbx0, hbx1⟩ := hcells
      have hk64 : k < 65 := by have := HLe.out; omega
      go_wp2_with fail
      clear hx8' hbx0 hbx1
      go_loopw [8, 33] (fun v8 v33 wr => ∃ i : Nat, i ≤ l.length ∧ v33 = .int .i64 i ∧ Hid (Sw w N A l.length c (scanK l F u st i).2 ((scanK l F u st i).1.drop k) v8 (scanK l F u st i).1.length wr)) (fun _ v33 _ => l.length - (intOf v33).toNat)
      case atStart => exact ⟨0, Nat.zero_le _, rfl, by show Hid (Sw w N A l.length c st.2 (st.1.drop k) _ st.1.length _); rw [HQS.out]; exact HS⟩
      case round =>
        clear HS
        obtain ⟨i, hi, rfl, HS2⟩ := hrel
        obtain ⟨qs2, HQS2⟩ : ∃ q, Hid ((scanK l F u st i).1.drop k = q) := ⟨_, rfl⟩
        rw [HQS2.out] at HS2
        obtain ⟨A9, c9, e9, hc9⟩ := Kd.Q_slice HS2.out.q
        subst e9
        have HIi : Hid (BInv l F s N (scanK l F u st i)) := Lib.hid (by rw [← HU.out]; exact scanK_inv HE.out HI'.out hkl i hi)
        have HKi : Hid (k ≤ (scanK l F u st i).1.length) := Lib.hid (Nat.le_trans HK.out (scanK_ext l F u st i).len)
        have HLen : Hid (((scanK l F u st i).1.length : Int) ≤ N) := Lib.hid HIi.out.le
        have HLd : Hid (qs2.length ≤ 64) := Lib.hid (by have := HLen.out; rw [← HQS2.out, List.length_drop]; omega)
        by_cases hil : i < l.length
        · obtain ⟨ad, rfl, hx0, hx1, hx2⟩ := at_T41 (Kd.C_below HR.out HS2.out.bel) (i : Int) (by omega) (by omega)
          obtain ⟨ad1, rfl, hy⟩ := Kd.at_int (Kd.C_below HR1.out HS2.out.bel) (i : Int) (by omega) (by rw [HL.out]; omega)
          rw [Int.toNat_natCast] at hx0 hx1 hx2 hy
          have hEi := HE.out i hil
          obtain ⟨f, Hf⟩ : ∃ f, Hid ((rd_T41 l i).f0 = f) := ⟨_, rfl⟩
          obtain ⟨t, Ht⟩ : ∃ t, Hid ((rd_T41 l i).f1 = t) := ⟨_, rfl⟩
          obtain ⟨cp, Hc⟩ : ∃ cp, Hid ((rd_T41 l i).f2 = cp) := ⟨_, rfl⟩
          obtain ⟨x, Hx⟩ : ∃ x, Hid (rd F i = x) := ⟨_, rfl⟩
          rw [Hf.out, Ht.out] at hEi
          obtain ⟨hEf, hEt, hEn⟩ := hEi
          have HEf := Lib.hid hEf
          have HEt := Lib.hid hEt
          rw [Hf.out] at hx0
          rw [Ht.out] at hx1
          rw [Hc.out] at hx2
          rw [Hx.out] at hy
          have hl1 : (i : Int) < (F.length : Int) := by rw [HL.out]; omega
          by_cases e1 : f = u
          · have b1 : (f == u) = true := by simpa using e1
            have b2 : (t == u) = false := by simp; omega
            have HFU := Lib.hid e1
            have HTU : Hid (t ≠ u) := Lib.hid (by omega)
            clear e1 hEn hEf hEt
            by_cases e2 : x < cp
            · have HE2 := Lib.hid e2
              have HV := HEt
              go_wp2_with fail
              have HS3 := Lib.hid (HS2.out.alloc (.cells #[.int .i64 f, .int .i64 t, .int .i64 cp] 41))
              have hf0 : (wr.alloc (.cells #[.int .i64 f, .int .i64 t, .int .i64 cp] 41)).cell? ⟨wr.heap.size, 0, none⟩ = some (.int .i64 f) := (World.cell?_alloc_at _ _ _ 0 rfl).trans rfl
              have hf1 : (wr.alloc (.cells #[.int .i64 f, .int .i64 t, .int .i64 cp] 41)).cell? ⟨wr.heap.size, 1, none⟩ = some (.int .i64 t) := (World.cell?_alloc_at _ _ _ 1 rfl).trans rfl
              have hf2 : (wr.alloc (.cells #[.int .i64 f, .int .i64 t, .int .i64 cp] 41)).cell? ⟨wr.heap.size, 2, none⟩ = some (.int .i64 cp) := (World.cell?_alloc_at _ _ _ 2 rfl).trans rfl
              have hy3 : (wr.alloc (.cells #[.int .i64 f, .int .i64 t, .int .i64 cp] 41)).cell? (ad1.add i) = some (.int .i64 x) := (((Below.refl wr.heap.size wr).alloc (Nat.le_refl _) _).cell (World.block_lt_of_cell? wr _ hy)).trans hy
              clear hx0 hx1 hx2 hy
              generalize wr.alloc (.cells #[.int .i64 f, .int .i64 t, .int .i64 cp] 41) = w2 at HS3 hf0 hf1 hf2 hy3 ⊢
              generalize wr.heap.size = b3 at hf0 hf1 hf2 ⊢
              go_quiet (fail)
              have HS4 := Lib.hid (HS3.out.drewN nq)
              have hg0 : (w2.drewN nq).cell? ⟨b3, 0, none⟩ = some (.int .i64 f) := hf0
              have hg1 : (w2.drewN nq).cell? ⟨b3, 1, none⟩ = some (.int .i64 t) := hf1
              have hy4 : (w2.drewN nq).cell? (ad1.add i) = some (.int .i64 x) := hy3
              clear HS3 HS2 hf0 hf1 hf2 hy3
              generalize w2.drewN nq = w3 at HS4 hg0 hg1 hy4 ⊢
              have hk3 := key3 HV.out.1 HV.out.2 hN
              have HC := Lib.hid (show cand l F u i = some (t, false) from by unfold cand; rw [Hf.out, Ht.out, Hc.out, Hx.out, if_pos ⟨HFU.out, HE2.out⟩])
              cases hg : (scanK l F u st i).2 t with
              | none =>
                have hlk : (Instr.lookup 74 (.map (some (w.heap.size + 1))) (.int .i64 t) true).run Try.prog w3 = .ok (.tuple #[.agg #[.int .i64 0, .int .i64 0, .bool false], .bool false]) w3 := by
                  have := HS4.out.map.look_ok law3 Try.underlying74 (Try.zeroValue66 _) hk3
                  simpa [fM, hg] using this
                have HG := Lib.hid hg
                have HK3 := Lib.hid hk3
                clear hg hk3
                go_wp2_with (first
                  | (at_mapUpdate; refine wpList_up rfl _ _ _ 74 rfl 3 66 law3 Try.underlying74 (w.heap.size + 1) _ _ rfl (HS4.out.alloc _).map (by have := HLen.out; unfold maxLen; omega) (.int .i64 t) (stepV ⟨u, i, false⟩) _ rfl rfl HK3.out ?_; intro w4 hI4 hg4; have HS5 := Lib.hid ((HS4.out.alloc _).put (by rw [fM_up] at hI4; exact hI4) hg4); clear hI4 hg4)
                  | (at_builtin; refine Kd.Q_append (Kd.int .i64) (w0 := w) w.heap.size rfl (.tmp 82) (.tmp 84) 25 3 (.int .i64 0) 8 rfl Try.underlying25 info3 rfl (by decide) (by omega) (.slice A9 qs2.length c9) qs2 t [.int .i64 t] (fun _ => True) (fun _ => False) rfl rfl rfl (fun _ hk => hk.elim) (fun _ _ => trivial) HS5.out.q HS5.out.bel HS5.out.bel.size (by have := HLd.out; omega) ?_; intro v8 w5 ho hb hg5 hat; have HS6 := Lib.hid (HS5.out.app ho hb hg5); clear ho hb hg5 hat))
                go_roundw
                case rel =>
                  refine ⟨i + 1, by omega, by go_num, ?_⟩
                  have e : scanK l F u st (i + 1) = ((scanK l F u st i).1 ++ [t], fun x => if x = t then some ⟨u, i, false⟩ else (scanK l F u st i).2 x) := by
                    show scan1 l F u (scanK l F u st i) i = _
                    unfold scan1; rw [HC.out]; show visit u i _ t false = _; unfold visit; rw [if_neg (by rw [HG.out]; simp)]
                  have h5 := HS6.out
                  rw [← HQS2.out, ← drop_app_ HKi.out] at h5
                  rw [e]
                  exact Lib.hid (by rw [show ((scanK l F u st i).1 ++ [t]).length = (scanK l F u st i).1.length + 1 by simp]; exact h5)
                case measure => simp [intOf]; omega
              | some y =>
                have hlk : (Instr.lookup 74 (.map (some (w.heap.size + 1))) (.int .i64 t) true).run Try.prog w3 = .ok (.tuple #[.agg #[.int .i64 y.f0, .int .i64 y.f1, .bool y.f2], .bool true]) w3 := by
                  have := HS4.out.map.look_ok law3 Try.underlying74 (Try.zeroValue66 _) hk3
                  simpa [fM, hg, stepV] using this
                have HG := Lib.hid hg
                clear hg hk3
                go_wp2_with fail
                go_roundw
                case rel =>
                  refine ⟨i + 1, by omega, by go_num, ?_⟩
                  have e : scanK l F u st (i + 1) = scanK l F u st i := by
                    show scan1 l F u (scanK l F u st i) i = _
                    unfold scan1; rw [HC.out]; show visit u i _ t false = _; unfold visit; rw [if_pos (by rw [HG.out]; rfl)]
                  rw [e, HQS2.out]
                  exact Lib.hid (HS4.out.alloc _)
                case measure => simp [intOf]; omega
            · have HE2 := Lib.hid e2
              go_wp2_with fail
              have HS3 := Lib.hid (HS2.out.alloc (.cells #[.int .i64 f, .int .i64 t, .int .i64 cp] 41))
              have hf0 : (wr.alloc (.cells #[.int .i64 f, .int .i64 t, .int .i64 cp] 41)).cell? ⟨wr.heap.size, 0, none⟩ = some (.int .i64 f) := (World.cell?_alloc_at _ _ _ 0 rfl).trans rfl
              have hf1 : (wr.alloc (.cells #[.int .i64 f, .int .i64 t, .int .i64 cp] 41)).cell? ⟨wr.heap.size, 1, none⟩ = some (.int .i64 t) := (World.cell?_alloc_at _ _ _ 1 rfl).trans rfl
              have hf2 : (wr.alloc (.cells #[.int .i64 f, .int .i64 t, .int .i64 cp] 41)).cell? ⟨wr.heap.size, 2, none⟩ = some (.int .i64 cp) := (World.cell?_alloc_at _ _ _ 2 rfl).trans rfl
              have hy3 : (wr.alloc (.cells #[.int .i64 f, .int .i64 t, .int .i64 cp] 41)).cell? (ad1.add i) = some (.int .i64 x) := (((Below.refl wr.heap.size wr).alloc (Nat.le_refl _) _).cell (World.block_lt_of_cell? wr _ hy)).trans hy
              clear hx0 hx1 hx2 hy
              generalize wr.alloc (.cells #[.int .i64 f, .int .i64 t, .int .i64 cp] 41) = w2 at HS3 hf0 hf1 hf2 hy3 ⊢
              generalize wr.heap.size = b3 at hf0 hf1 hf2 ⊢
              go_quiet (fail)
              have HS4 := Lib.hid (HS3.out.drewN nq)
              have hg0 : (w2.drewN nq).cell? ⟨b3, 0, none⟩ = some (.int .i64 f) := hf0
              have hg1 : (w2.drewN nq).cell? ⟨b3, 1, none⟩ = some (.int .i64 t) := hf1
              have hy4 : (w2.drewN nq).cell? (ad1.add i) = some (.int .i64 x) := hy3
              clear HS3 HS2 hf0 hf1 hf2 hy3
              generalize w2.drewN nq = w3 at HS4 hg0 hg1 hy4 ⊢
              have HC := Lib.hid (show cand l F u i = none from by unfold cand; rw [Hf.out, Ht.out, Hc.out, Hx.out, if_neg (fun h => absurd h.2 (by have := HE2.out; omega)), if_neg (fun h => HTU.out h.1)])
              go_wp2_with fail
              go_roundw
              case rel =>
                refine ⟨i + 1, by omega, by go_num, ?_⟩
                have e : scanK l F u st (i + 1) = scanK l F u st i := by
                  show scan1 l F u (scanK l F u st i) i = _
                  unfold scan1; rw [HC.out]
                rw [e, HQS2.out]
                exact HS4
              case measure => simp [intOf]; omega
          · have b1 : (f == u) = false := by simpa using e1
            have HFU := Lib.hid e1
            clear e1
            by_cases e2 : t = u
            · have b2 : (t == u) = true := by simpa using e2
              have HTU := Lib.hid e2
              clear e2 hEn hEf hEt
              by_cases e3 : 0 < x
              · have HE3 := Lib.hid e3
                have HV := HEf
                go_wp2_with fail
                have HS3 := Lib.hid (HS2.out.alloc (.cells #[.int .i64 f, .int .i64 t, .int .i64 cp] 41))
                have hf0 : (wr.alloc (.cells #[.int .i64 f, .int .i64 t, .int .i64 cp] 41)).cell? ⟨wr.heap.size, 0, none⟩ = some (.int .i64 f) := (World.cell?_alloc_at _ _ _ 0 rfl).trans rfl
                have hf1 : (wr.alloc (.cells #[.int .i64 f, .int .i64 t, .int .i64 cp] 41)).cell? ⟨wr.heap.size, 1, none⟩ = some (.int .i64 t) := (World.cell?_alloc_at _ _ _ 1 rfl).trans rfl
                have hf2 : (wr.alloc (.cells #[.int .i64 f, .int .i64 t, .int .i64 cp] 41)).cell? ⟨wr.heap.size, 2, none⟩ = some (.int .i64 cp) := (World.cell?_alloc_at _ _ _ 2 rfl).trans rfl
                have hy3 : (wr.alloc (.cells #[.int .i64 f, .int .i64 t, .int .i64 cp] 41)).cell? (ad1.add i) = some (.int .i64 x) := (((Below.refl wr.heap.size wr).alloc (Nat.le_refl _) _).cell (World.block_lt_of_cell? wr _ hy)).trans hy
                clear hx0 hx1 hx2 hy
                generalize wr.alloc (.cells #[.int .i64 f, .int .i64 t, .int .i64 cp] 41) = w2 at HS3 hf0 hf1 hf2 hy3 ⊢
                generalize wr.heap.size = b3 at hf0 hf1 hf2 ⊢
                go_quiet (fail)
                have HS4 := Lib.hid (HS3.out.drewN nq)
                have hg0 : (w2.drewN nq).cell? ⟨b3, 0, none⟩ = some (.int .i64 f) := hf0
                have hg1 : (w2.drewN nq).cell? ⟨b3, 1, none⟩ = some (.int .i64 t) := hf1
                have hy4 : (w2.drewN nq).cell? (ad1.add i) = some (.int .i64 x) := hy3
                clear HS3 HS2 hf0 hf1 hf2 hy3
                generalize w2.drewN nq = w3 at HS4 hg0 hg1 hy4 ⊢
                have hk3 := key3 HV.out.1 HV.out.2 hN
                have HC := Lib.hid (show cand l F u i = some (f, true) from by unfold cand; rw [Hf.out, Ht.out, Hc.out, Hx.out, if_neg (fun h => HFU.out h.1), if_pos ⟨HTU.out, HE3.out⟩])
                cases hg : (scanK l F u st i).2 f with
                | none =>
                  have hlk : (Instr.lookup 74 (.map (some (w.heap.size + 1))) (.int .i64 f) true).run Try.prog w3 = .ok (.tuple #[.agg #[.int .i64 0, .int .i64 0, .bool false], .bool false]) w3 := by
                    have := HS4.out.map.look_ok law3 Try.underlying74 (Try.zeroValue66 _) hk3
                    simpa [fM, hg] using this
                  have HG := Lib.hid hg
                  have HK3 := Lib.hid hk3
                  clear hg hk3
                  go_wp2_with (first
                    | (at_mapUpdate; refine wpList_up rfl _ _ _ 74 rfl 3 66 law3 Try.underlying74 (w.heap.size + 1) _ _ rfl (HS4.out.alloc _).map (by have := HLen.out; unfold maxLen; omega) (.int .i64 f) (stepV ⟨u, i, true⟩) _ rfl rfl HK3.out ?_; intro w4 hI4 hg4; have HS5 := Lib.hid ((HS4.out.alloc _).put (by rw [fM_up] at hI4; exact hI4) hg4); clear hI4 hg4)
                    | (at_builtin; refine Kd.Q_append (Kd.int .i64) (w0 := w) w.heap.size rfl (.tmp 82) (.tmp 84) 25 3 (.int .i64 0) 8 rfl Try.underlying25 info3 rfl (by decide) (by omega) (.slice A9 qs2.length c9) qs2 f [.int .i64 f] (fun _ => True) (fun _ => False) rfl rfl rfl (fun _ hk => hk.elim) (fun _ _ => trivial) HS5.out.q HS5.out.bel HS5.out.bel.size (by have := HLd.out; omega) ?_; intro v8 w5 ho hb hg5 hat; have HS6 := Lib.hid (HS5.out.app ho hb hg5); clear ho hb hg5 hat))
                  go_roundw
                  case rel =>
                    refine ⟨i + 1, by omega, by go_num, ?_⟩
                    have e : scanK l F u st (i + 1) = ((scanK l F u st i).1 ++ [f], fun x => if x = f then some ⟨u, i, true⟩ else (scanK l F u st i).2 x) := by
                      show scan1 l F u (scanK l F u st i) i = _
                      unfold scan1; rw [HC.out]; show visit u i _ f true = _; unfold visit; rw [if_neg (by rw [HG.out]; simp)]
                    have h5 := HS6.out
                    rw [← HQS2.out, ← drop_app_ HKi.out] at h5
                    rw [e]
                    exact Lib.hid (by rw [show ((scanK l F u st i).1 ++ [f]).length = (scanK l F u st i).1.length + 1 by simp]; exact h5)
                  case measure => simp [intOf]; omega
                | some y =>
                  have hlk : (Instr.lookup 74 (.map (some (w.heap.size + 1))) (.int .i64 f) true).run Try.prog w3 = .ok (.tuple #[.agg #[.int .i64 y.f0, .int .i64 y.f1, .bool y.f2], .bool true]) w3 := by
                    have := HS4.out.map.look_ok law3 Try.underlying74 (Try.zeroValue66 _) hk3
                    simpa [fM, hg, stepV] using this
                  have HG := Lib.hid hg
                  clear hg hk3
                  go_wp2_with fail
                  go_roundw
                  case rel =>
                    refine ⟨i + 1, by omega, by go_num, ?_⟩
                    have e : scanK l F u st (i + 1) = scanK l F u st i := by
                      show scan1 l F u (scanK l F u st i) i = _
                      unfold scan1; rw [HC.out]; show visit u i _ f true = _; unfold visit; rw [if_pos (by rw [HG.out]; rfl)]
                    rw [e, HQS2.out]
                    exact Lib.hid (HS4.out.alloc _)
                  case measure => simp [intOf]; omega
              · have HE3 := Lib.hid e3
                go_wp2_with fail
                have HS3 := Lib.hid (HS2.out.alloc (.cells #[.int .i64 f, .int .i64 t, .int .i64 cp] 41))
                have hf0 : (wr.alloc (.cells #[.int .i64 f, .int .i64 t, .int .i64 cp] 41)).cell? ⟨wr.heap.size, 0, none⟩ = some (.int .i64 f) := (World.cell?_alloc_at _ _ _ 0 rfl).trans rfl
                have hf1 : (wr.alloc (.cells #[.int .i64 f, .int .i64 t, .int .i64 cp] 41)).cell? ⟨wr.heap.size, 1, none⟩ = some (.int .i64 t) := (World.cell?_alloc_at _ _ _ 1 rfl).trans rfl
                have hf2 : (wr.alloc (.cells #[.int .i64 f, .int .i64 t, .int .i64 cp] 41)).cell? ⟨wr.heap.size, 2, none⟩ = some (.int .i64 cp) := (World.cell?_alloc_at _ _ _ 2 rfl).trans rfl
                have hy3 : (wr.alloc (.cells #[.int .i64 f, .int .i64 t, .int .i64 cp] 41)).cell? (ad1.add i) = some (.int .i64 x) := (((Below.refl wr.heap.size wr).alloc (Nat.le_refl _) _).cell (World.block_lt_of_cell? wr _ hy)).trans hy
                clear hx0 hx1 hx2 hy
                generalize wr.alloc (.cells #[.int .i64 f, .int .i64 t, .int .i64 cp] 41) = w2 at HS3 hf0 hf1 hf2 hy3 ⊢
                generalize wr.heap.size = b3 at hf0 hf1 hf2 ⊢
                go_quiet (fail)
                have HS4 := Lib.hid (HS3.out.drewN nq)
                have hg0 : (w2.drewN nq).cell? ⟨b3, 0, none⟩ = some (.int .i64 f) := hf0
                have hg1 : (w2.drewN nq).cell? ⟨b3, 1, none⟩ = some (.int .i64 t) := hf1
                have hy4 : (w2.drewN nq).cell? (ad1.add i) = some (.int .i64 x) := hy3
                clear HS3 HS2 hf0 hf1 hf2 hy3
                generalize w2.drewN nq = w3 at HS4 hg0 hg1 hy4 ⊢
                have HC := Lib.hid (show cand l F u i = none from by unfold cand; rw [Hf.out, Ht.out, Hc.out, Hx.out, if_neg (fun h => HFU.out h.1), if_neg (fun h => absurd h.2 (by have := HE3.out; omega))])
                go_wp2_with fail
                go_roundw
                case rel =>
                  refine ⟨i + 1, by omega, by go_num, ?_⟩
                  have e : scanK l F u st (i + 1) = scanK l F u st i := by
                    show scan1 l F u (scanK l F u st i) i = _
                    unfold scan1; rw [HC.out]
                  rw [e, HQS2.out]
                  exact HS4
                case measure => simp [intOf]; omega
            · have b2 : (t == u) = false := by simpa using e2
              have HTU := Lib.hid e2
              clear e2 hEn hEf hEt
              go_wp2_with fail
              have HS3 := Lib.hid (HS2.out.alloc (.cells #[.int .i64 f, .int .i64 t, .int .i64 cp] 41))
              have hf0 : (wr.alloc (.cells #[.int .i64 f, .int .i64 t, .int .i64 cp] 41)).cell? ⟨wr.heap.size, 0, none⟩ = some (.int .i64 f) := (World.cell?_alloc_at _ _ _ 0 rfl).trans rfl
              have hf1 : (wr.alloc (.cells #[.int .i64 f, .int .i64 t, .int .i64 cp] 41)).cell? ⟨wr.heap.size, 1, none⟩ = some (.int .i64 t) := (World.cell?_alloc_at _ _ _ 1 rfl).trans rfl
              have hf2 : (wr.alloc (.cells #[.int .i64 f, .int .i64 t, .int .i64 cp] 41)).cell? ⟨wr.heap.size, 2, none⟩ = some (.int .i64 cp) := (World.cell?_alloc_at _ _ _ 2 rfl).trans rfl
              have hy3 : (wr.alloc (.cells #[.int .i64 f, .int .i64 t, .int .i64 cp] 41)).cell? (ad1.add i) = some (.int .i64 x) := (((Below.refl wr.heap.size wr).alloc (Nat.le_refl _) _).cell (World.block_lt_of_cell? wr _ hy)).trans hy
              clear hx0 hx1 hx2 hy
              generalize wr.alloc (.cells #[.int .i64 f, .int .i64 t, .int .i64 cp] 41) = w2 at HS3 hf0 hf1 hf2 hy3 ⊢
              generalize wr.heap.size = b3 at hf0 hf1 hf2 ⊢
              go_quiet (fail)
              have HS4 := Lib.hid (HS3.out.drewN nq)
              have hg0 : (w2.drewN nq).cell? ⟨b3, 0, none⟩ = some (.int .i64 f) := hf0
              have hg1 : (w2.drewN nq).cell? ⟨b3, 1, none⟩ = some (.int .i64 t) := hf1
              have hy4 : (w2.drewN nq).cell? (ad1.add i) = some (.int .i64 x) := hy3
              clear HS3 HS2 hf0 hf1 hf2 hy3
              generalize w2.drewN nq = w3 at HS4 hg0 hg1 hy4 ⊢
              have HC := Lib.hid (show cand l F u i = none from by unfold cand; rw [Hf.out, Ht.out, Hc.out, Hx.out, if_neg (fun h => HFU.out h.1), if_neg (fun h => HTU.out h.1)])
              go_wp2_with fail
              go_roundw
              case rel =>
                refine ⟨i + 1, by omega, by go_num, ?_⟩
                have e : scanK l F u st (i + 1) = scanK l F u st i := by
                  show scan1 l F u (scanK l F u st i) i = _
                  unfold scan1; rw [HC.out]
                rw [e, HQS2.out]
                exact HS4
              case measure => simp [intOf]; omega
        · obtain rfl : i = l.length := by omega
          have hq2 : Hid (0 < qs2.length) := Lib.hid (by rw [← HQS2.out, List.length_drop]; have := (scanK_ext l F u st l.length).len; omega)
          have hq2' := hq2.out
          have hcut := cut_from (P := Try.prog) 25 3 .i64 Try.underlying25 (show Try.prog.info? 3 = some Try.t3 by kernel_rfl) 1 rfl A9 qs2.length c9 1 (by omega) (by omega)
          have HQd := Lib.hid (Kd.Q_drop HS2.out.q (k := 1) (by omega))
          obtain ⟨A10, HA10⟩ : ∃ a, Hid ((if c9 = (1 : Int).toNat then A9 else A9.map (·.add ((1 : Int).toNat * 1))) = a) := ⟨_, rfl⟩
          rw [HA10.out] at hcut
          go_wp2_with fail
          go_roundg (gk - 1)
          case measure => omega
          case rel =>
            have en : bfsK l F s (k + 1) = scanK l F u st l.length := by
              rw [bfsK_next (by rw [HST.out]; exact hkl), HST.out, HU.out]
            refine ⟨k + 1, by omega, ?_, ?_⟩
            · rw [en]; exact Lib.hid (by have := (scanK_ext l F u st l.length).len; omega)
            · rw [en]
              refine Lib.hid ⟨HS2.out.bel, HS2.out.box, HS2.out.map, ?_⟩
              have h1 := HQd.out
              rw [← HQS2.out, List.drop_drop] at h1
              rw [← HA10.out, ← HQS2.out]
              exact h1
    · have hk0 : k = st.1.length := by have := hql.out; have := HK.out; omega
      have HF : Hid (bfs l F s N = st) := Lib.hid (by rw [← HST.out]; exact (bfs_at HE.out ⟨hs0, hs1⟩ (by rw [HST.out]; exact hk0)).symm)
      clear hk0
      go_wp2_with fail
      go_ret
      exact ⟨_, _, rfl, by rw [HF.out]; exact HS.out.map, HS.out.bel⟩
end Go.Proofs.Ytfmfojogcghkkaa.P
