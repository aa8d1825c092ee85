/- share.Trim: the whole of it. -/
import Derived.Test.YtpdgdogcfmfakaaTc
import Derived.Maps.OwnOps
import Derived.Maps.OwnSet
import Derived.StillTailTactics
namespace Go.Proofs.Ytpdgdogcfmfakaa.P
open Go.RowKit Go.Proofs.YtpdgdogcfmfakaaW.PrintWords Go.Proofs.YtpdgdogcfmfakaaW.PrintLast Go.Proofs.YtpdgdogcfmfakaaW.PrintMore
open Go.Proofs.Ytpdgdogcfmfakaa.Mp
set_option linter.unusedSimpArgs false
set_option linter.unusedVariables false

structure Stl (P : Program) (ops : Array Oper) (w : World) (Q : Act → Prop) (rest : List Oper) (a : Act) : Prop where
  out : wpStill P ops w Q rest a

theorem stl_tail {P : Program} {id : Nat} {Q : Exit → Act → World → Prop} {a : Act} {w : World} {l : List Oper} (n : Nat) (hm : P.follows .mixedOrders = true) (hB : Region.lexTailB .any l.toArray n = true)
    {l1 l2 : List Oper} (h1 : l.take n = l1) (h2 : l.drop n = l2)
    (h : Stl P l.toArray w.drew (fun a' => wpList P l.toArray Q l2 a' w.drew) l1 a) : (Code.region id l.toArray true).wp P Q a w := by
  subst h1; subst h2
  exact wp_region_still_tail n hm hB h.out

theorem stl_nil {P : Program} {ops : Array Oper} {w : World} {Q : Act → Prop} {a : Act} (h : Q a) : Stl P ops w Q [] a := ⟨h⟩

theorem stl_step {P : Program} {ops : Array Oper} {w : World} {Q : Act → Prop} {a : Act} {o : Oper} {rest : List Oper}
    (h : ∀ K : Act → Prop, (∀ a, Stl P ops w Q rest a → K a) → if Region.wanted o (yielded ops a.tmps) then o.still P a w K else K (a.put o.dst undef)) : Stl P ops w Q (o :: rest) a :=
  ⟨wpStill_step fun K hK => h K fun a ha => hK a ha.out⟩

def leftK (ws : List ByteArray) (al : List Int) : Nat → ByteArray → Option Int
  | 0, _ => none
  | k + 1, s => match leftK ws al k s with
    | some x => some x
    | none => if s = rdOf ByteArray.empty ws k then some (num (rd al k)) else none
def wasK (last : List S40) : Nat → ByteArray → ByteArray → Int
  | 0, _, _ => 0
  | k + 1, a, b => if a = (rd_T40 last k).f0 ∧ b = (rd_T40 last k).f1 then wrap64 (wasK last k a b + num (rd_T40 last k).f2) else wasK last k a b
def outK (t : List S40) (part : List Int) : Nat → List S40
  | 0 => []
  | k + 1 => if rd part k > 0 then outK t part k ++ [⟨(rd_T40 t k).f0, (rd_T40 t k).f1, rd part k⟩] else outK t part k

theorem outK_len (t : List S40) (p : List Int) : ∀ k, (outK t p k).length ≤ k
  | 0 => by simp [outK]
  | k + 1 => by
    have := outK_len t p k
    simp only [outK]
    split <;> simp <;> omega

def TrimPost (w : World) (r : List S40) (e : Ending) (w' : World) : Prop := ∃ v0_ : Value, e = .returned (v0_) ∧ Kd.R k40 40 w' w.heap.size (fun _ => True) v0_ r ∧ Below w.heap.size w w'

structure T1 (w0 : World) (N Ml Bl : Nat) (A : Option Addr) (c n : Nat) (f : Value → Option Value) (nL : Nat) (W : World) : Prop where
  bel : Below N w0 W
  hN : N ≤ Ml ∧ N ≤ Bl
  bt : W.heap[N]? = some (.cells #[.slice A n c] 23)
  bl : W.heap[Bl]? = some (.cells #[.map (some Ml)] 47)
  ml : Is Try.prog 9 W Ml nL f
theorem T1.setLeft {w0 : World} {N Ml Bl : Nat} {A : Option Addr} {c n : Nat} {f f' : Value → Option Value} {nL nL' : Nat} {W W' : World} (h : T1 w0 N Ml Bl A c n f nL W) (hM : Is Try.prog 9 W' Ml nL' f') (hg : W.grownBy W' (some Ml)) : T1 w0 N Ml Bl A c n f' nL' W' := by
  obtain ⟨es, cl, e⟩ := h.ml.isMap
  have n1 : N ≠ Ml := by rintro rfl; have := h.bt.symm.trans e; simp at this
  have n2 : Bl ≠ Ml := by rintro rfl; have := h.bl.symm.trans e; simp at this
  have l1 := (Array.getElem?_eq_some_iff.1 h.bt).1
  have l2 := (Array.getElem?_eq_some_iff.1 h.bl).1
  exact ⟨h.bel.grown hg (by omega) (fun k hk => by cases hk; exact h.hN.1), h.hN, (hg.block _ l1 (by simpa using n1)).trans h.bt, (hg.block _ l2 (by simpa using n2)).trans h.bl, hM⟩
theorem T1.keep {w0 : World} {N Ml Bl : Nat} {A : Option Addr} {c n : Nat} {f : Value → Option Value} {nL : Nat} {W W' : World} (h : T1 w0 N Ml Bl A c n f nL W) (hb : Below W.heap.size W W') : T1 w0 N Ml Bl A c n f nL W' := by
  have l1 := (Array.getElem?_eq_some_iff.1 h.bt).1
  have l2 := (Array.getElem?_eq_some_iff.1 h.bl).1
  exact ⟨h.bel.trans (hb.mono (by omega)), h.hN, (hb.block _ l1).trans h.bt, (hb.block _ l2).trans h.bl, h.ml.of_block (hb.block _ h.ml.lt)⟩

structure T2 (w0 : World) (N Ml Bl : Nat) (A : Option Addr) (c n : Nat) (f : Value → Option Value) (nL Mw Bm : Nat) (fW : Value → Option Value) (nW : Nat) (W : World) : Prop where
  t1 : T1 w0 N Ml Bl A c n f nL W
  bm : W.heap[Bm]? = some (.cells #[.map (some Mw)] 49)
  mw : Is Try.prog 51 W Mw nW fW
  hN : N ≤ Mw ∧ N ≤ Bm
  ne : Ml ≠ Mw
theorem T2.keep {w0 : World} {N Ml Bl : Nat} {A : Option Addr} {c n : Nat} {f fW : Value → Option Value} {nL Mw Bm nW : Nat} {W W' : World} (h : T2 w0 N Ml Bl A c n f nL Mw Bm fW nW W) (hb : Below W.heap.size W W') : T2 w0 N Ml Bl A c n f nL Mw Bm fW nW W' :=
  ⟨h.t1.keep hb, (hb.block _ (Array.getElem?_eq_some_iff.1 h.bm).1).trans h.bm, h.mw.of_block (hb.block _ h.mw.lt), h.hN, h.ne⟩
theorem T2.setWas {w0 : World} {N Ml Bl : Nat} {A : Option Addr} {c n : Nat} {f fW fW' : Value → Option Value} {nL Mw Bm nW nW' : Nat} {W W' : World} (h : T2 w0 N Ml Bl A c n f nL Mw Bm fW nW W) (hM : Is Try.prog 51 W' Mw nW' fW') (hg : W.grownBy W' (some Mw)) : T2 w0 N Ml Bl A c n f nL Mw Bm fW' nW' W' := by
  obtain ⟨es, cl, e⟩ := h.mw.isMap
  have n1 : N ≠ Mw := by rintro rfl; have := h.t1.bt.symm.trans e; simp at this
  have n2 : Bl ≠ Mw := by rintro rfl; have := h.t1.bl.symm.trans e; simp at this
  have n3 : Bm ≠ Mw := by rintro rfl; have := h.bm.symm.trans e; simp at this
  have l1 := (Array.getElem?_eq_some_iff.1 h.t1.bt).1
  have l2 := (Array.getElem?_eq_some_iff.1 h.t1.bl).1
  have l3 := (Array.getElem?_eq_some_iff.1 h.bm).1
  have ho : ∀ k, k < W.heap.size → k ≠ Mw → W'.heap[k]? = W.heap[k]? := fun k hk hne => hg.block k hk (by simpa using hne)
  exact ⟨⟨h.t1.bel.grown hg (by omega) (fun k hk => by cases hk; exact h.hN.1), h.t1.hN, (ho _ l1 n1).trans h.t1.bt, (ho _ l2 n2).trans h.t1.bl, h.t1.ml.of_block (ho _ h.t1.ml.lt h.ne)⟩, (ho _ l3 n3).trans h.bm, hM, h.hN, h.ne⟩
theorem T2.start {w0 : World} {N Ml Bl : Nat} {A : Option Addr} {c n : Nat} {f : Value → Option Value} {nL : Nat} {W : World} (h : T1 w0 N Ml Bl A c n f nL W) :
    T2 w0 N Ml Bl A c n f nL W.heap.size (W.heap.size + 1) (fun _ => none) 0 ((W.alloc (.map #[] 0)).alloc (.cells #[.map (some W.heap.size)] 49)) := by
  have e1 : (W.alloc (.map #[] 0)).heap.size = W.heap.size + 1 := by simp
  have l1 := (Array.getElem?_eq_some_iff.1 h.bt).1
  refine ⟨h.keep (((Below.refl _ _).alloc (Nat.le_refl _) _).alloc (by rw [e1]; omega) _), ?_, ?_, ⟨by omega, by omega⟩, by have := h.ml.lt; omega⟩
  · have := heap_alloc_new (W.alloc (.map #[] 0)) (.cells #[.map (some W.heap.size)] 49)
    rwa [e1] at this
  · exact (Is.made W Try.prog 51).of_block (Below.heap_alloc _ _ _ (by rw [e1]; omega))
def WV (fW : Value → Option Value) (was : ByteArray → ByteArray → Int) : Prop := ∀ a b : ByteArray, (fW (spotV a b)).getD (.int .i64 0) = .int .i64 (was a b)
theorem WV.up {fW : Value → Option Value} {last : List S40} {k : Nat} (h : WV fW (wasK last k)) {s0 s1 : ByteArray} {v2 : Int} (h0 : (rd_T40 last k).f0 = s0) (h1 : (rd_T40 last k).f1 = s1) (h2 : (rd_T40 last k).f2 = v2) :
    WV (Mp.up fW (spotV s0 s1) (.int .i64 (wrap64 (wasK last k s0 s1 + num v2)))) (wasK last (k + 1)) := by
  intro a b
  simp only [wasK, h0, h1, h2]
  by_cases e : a = s0 ∧ b = s1
  · obtain ⟨rfl, rfl⟩ := e
    simp [Mp.up]
  · have e' : spotV a b ≠ spotV s0 s1 := fun hh => e (by simp [spotV] at hh; exact hh)
    rw [if_neg e]
    simp only [Mp.up, e', if_false]
    exact h a b

def LVo (f : Value → Option Value) (lv : ByteArray → Option Int) : Prop := ∀ s : ByteArray, f (.string s) = (lv s).map (Value.int .i64)

theorem T1.start (w : World) (A : Option Addr) (c n : Nat) : T1 w w.heap.size (w.heap.size + 1) (w.heap.size + 1 + 1) A c n (fun _ => none) 0 (((w.alloc (.cells #[.slice A n c] 23)).alloc (.map #[] 0)).alloc (.cells #[.map (some (w.heap.size + 1))] 47)) := by
  have e1 : (w.alloc (.cells #[.slice A n c] 23)).heap.size = w.heap.size + 1 := by simp
  have e2 : ((w.alloc (.cells #[.slice A n c] 23)).alloc (.map #[] 0)).heap.size = w.heap.size + 1 + 1 := by simp
  refine ⟨(((Below.refl _ _).alloc (Nat.le_refl _) _).alloc (by simp) _).alloc (by simp; omega) _, ⟨by omega, by omega⟩, ?_, ?_, ?_⟩
  · rw [Below.heap_alloc _ _ _ (by rw [e2]; omega), Below.heap_alloc _ _ _ (by rw [e1]; omega)]
    exact heap_alloc_new _ _
  · have := heap_alloc_new ((w.alloc (.cells #[.slice A n c] 23)).alloc (.map #[] 0)) (.cells #[.map (some (w.heap.size + 1))] 47)
    rwa [e2] at this
  · have := Is.made (w.alloc (.cells #[.slice A n c] 23)) Try.prog 9
    rw [e1] at this
    exact this.of_block (Below.heap_alloc _ _ _ (by rw [e2]; omega))

theorem leftK_none {ws : List ByteArray} {al : List Int} {k : Nat} {s0 : ByteArray} {x : Int} {f : Value → Option Value} (h : LVo f (leftK ws al k)) (hs : rdOf ByteArray.empty ws k = s0) (hx : num (rd al k) = x) (hn : leftK ws al k s0 = none) : LVo (Mp.up f (.string s0) (.int .i64 x)) (leftK ws al (k + 1)) := by
  intro s
  simp only [leftK]
  by_cases e : s = s0
  · subst e; rw [hn]; simp [Mp.up, hs, hx]
  · have e' : (Value.string s) ≠ .string s0 := fun h => e (by injection h)
    simp only [Mp.up, e', if_false]
    rw [h s]
    cases hk : leftK ws al k s with
    | some y => rfl
    | none => simp [hs, e]
theorem leftK_some {ws : List ByteArray} {al : List Int} {k : Nat} {s0 : ByteArray} {y : Int} {f : Value → Option Value} (h : LVo f (leftK ws al k)) (hs : rdOf ByteArray.empty ws k = s0) (hn : leftK ws al k s0 = some y) : LVo f (leftK ws al (k + 1)) := by
  intro s
  simp only [leftK]
  rw [h s]
  cases hk : leftK ws al k s with
  | some z => rfl
  | none =>
    have e : s ≠ s0 := by rintro rfl; rw [hn] at hk; cases hk
    simp [hs, e]

theorem madeCells_eq (n : Nat) : madeCells #[Value.int .i64 0] n = ((List.replicate n (0 : Int)).map (Value.int .i64)).toArray := by
  apply Array.ext
  · simp [madeCells]
  · intro i h1 h2
    simp only [madeCells, Array.getElem_map, List.map_replicate, List.getElem_toArray, List.getElem_replicate]
    simp [Nat.mod_one]

theorem LVo.lv {f : Value → Option Value} {l : ByteArray → Option Int} (h : LVo f l) : LV f (fun s => (l s).getD 0) := by
  intro s
  rw [h s]
  cases hl : l s <;> simp [hl]

theorem TS.start {w0 : World} {N Ml Bl : Nat} {A : Option Addr} {c n : Nat} {f fW : Value → Option Value} {nL Mw Bm nW : Nat} {W : World} (h : T2 w0 N Ml Bl A c n f nL Mw Bm fW nW W) :
    TS w0 N N Bl Bm (W.heap.size + 1) W.heap.size Ml Mw A c n f fW nL nW (List.replicate n 0) ((W.alloc (.cells (madeCells #[Value.int .i64 0] n) 3)).alloc (.cells #[.slice (some ⟨W.heap.size, 0, none⟩) n n] 22)) := by
  have e1 : (W.alloc (.cells (madeCells #[Value.int .i64 0] n) 3)).heap.size = W.heap.size + 1 := by simp
  have l1 := (Array.getElem?_eq_some_iff.1 h.t1.bt).1
  have k := h.keep (((Below.refl _ _).alloc (Nat.le_refl _) (.cells (madeCells #[Value.int .i64 0] n) 3)).alloc (by rw [e1]; omega) (.cells #[.slice (some ⟨W.heap.size, 0, none⟩) n n] 22))
  refine ⟨k.t1.bel, ⟨Nat.le_refl _, h.t1.hN.2, h.hN.2, by omega, by omega, h.t1.hN.1, h.hN.1⟩, k.t1.bt, k.t1.bl, k.bm, ?_, ?_, by simp, k.t1.ml, k.mw, h.ne⟩
  · have := heap_alloc_new (W.alloc (.cells (madeCells #[Value.int .i64 0] n) 3)) (.cells #[.slice (some ⟨W.heap.size, 0, none⟩) n n] 22)
    rwa [e1] at this
  · rw [Below.heap_alloc _ _ _ (by rw [e1]; omega), heap_alloc_new, madeCells_eq]

theorem TS.grown {w0 : World} {N Bt Bl Bm Bp g Ml Mw : Nat} {A : Option Addr} {c n : Nat} {fL fW : Value → Option Value} {nL nW : Nat} {part : List Int} {W W' : World} (h : TS w0 N Bt Bl Bm Bp g Ml Mw A c n fL fW nL nW part W) {row : Option Nat} (hg : W.grownBy W' row)
    (hrow : ∀ k, row = some k → N ≤ k ∧ ∃ cells, W.heap[k]? = some (.cells cells 40 (0, 0))) : TS w0 N Bt Bl Bm Bp g Ml Mw A c n fL fW nL nW part W' := by
  obtain ⟨l1, l2, l3, l4, l5, l6, l7⟩ := h.lts
  have ho : ∀ k o, k < W.heap.size → W.heap[k]? = some o → (∀ cells, o ≠ .cells cells 40 (0, 0)) → W'.heap[k]? = W.heap[k]? := fun k o hk hc hne => hg.block k hk (fun e => by
    obtain ⟨_, cells, h2⟩ := hrow k e.symm
    rw [hc] at h2
    exact hne cells (Option.some.inj h2))
  obtain ⟨es1, cl1, m1⟩ := h.ml.isMap
  obtain ⟨es2, cl2, m2⟩ := h.mw.isMap
  exact ⟨h.bel.grown hg (by have := h.hN.1; omega) (fun k hk => (hrow k hk).1), h.hN, (ho _ _ l1 h.bt (by simp)).trans h.bt, (ho _ _ l2 h.bl (by simp)).trans h.bl, (ho _ _ l3 h.bm (by simp)).trans h.bm, (ho _ _ l4 h.bp (by simp)).trans h.bp, (ho _ _ l5 h.gp (by simp)).trans h.gp, h.pl,
    h.ml.of_block (ho _ _ l6 m1 (by simp)), h.mw.of_block (ho _ _ l7 m2 (by simp)), h.ne⟩

set_option maxHeartbeats 3200000 in
theorem Trim_any (A0 A1 A2 A3 : Option Addr) (c0 c1 c2 c3 : Nat) (l0 l1 : List S40) (l2 : List ByteArray) (l3 : List Int) (w : World)
    (hr0 : Kd.C k40 w A0 l0.length l0) (hr1 : Kd.C k40 w A1 l1.length l1) (hr2 : Kd.C Kd.string w A2 l2.length l2) (hr3 : Kd.C (Kd.int .i64) w A3 l3.length l3)
    (hl : l2.length = l3.length) (hb : l0.length + l1.length + l2.length < 1099511627776) (hs0 : ∀ i, (rd_T40 l0 i).f0.size ≤ maxLen ∧ (rd_T40 l0 i).f1.size ≤ maxLen) (hs1 : ∀ i, (rd_T40 l1 i).f0.size ≤ maxLen ∧ (rd_T40 l1 i).f1.size ≤ maxLen) (hs2 : ∀ i, (rdOf ByteArray.empty l2 i).size ≤ maxLen)
    (r : List S40) (hr : r = outK l0 (giveK (M3 l0) l0 (giveK (M2 l0 (wasK l1 l1.length)) l0 (List.replicate l0.length 0) (fun s => (leftK l2 l3 l2.length s).getD 0) l0.length).1 (giveK (M2 l0 (wasK l1 l1.length)) l0 (List.replicate l0.length 0) (fun s => (leftK l2 l3 l2.length s).getD 0) l0.length).2 l0.length).1 l0.length) :
    Calls Try.prog 13 #[.slice A0 l0.length c0, .slice A1 l1.length c1, .slice A2 l2.length c2, .slice A3 l3.length c3] w (TrimPost w r) := by
  have hmm := @run_makeMap Try.prog
  have hm0 := Kd.C_max hr0
  have hm1 := Kd.C_max hr1
  have hm2 := Kd.C_max hr2
  have H0 := Lib.hid hr0
  have H1 := Lib.hid hr1
  have H2 := Lib.hid hr2
  have H3 := Lib.hid hr3
  have HS0 := Lib.hid hs0
  have HS1 := Lib.hid hs1
  have HS2 := Lib.hid hs2
  have HL := Lib.hid hl
  have HR := Lib.hid hr
  have hlb : ((l2.length : Int) != (l3.length : Int)) = false := by rw [hl]; simp
  have hlb2 : (l2.length == l3.length) = true := by rw [hl]; simp
  clear hr0 hr1 hr2 hr3 hs0 hs1 hs2 hl hr
  go_enter Try.func13, Try.ntmps13
  go_wp2_with fail
  go_loopw [30] (fun i wr => ∃ (k : Nat) (f : Value → Option Value), k ≤ l2.length ∧ i = .int .i64 k ∧ Hid (T1 w w.heap.size (w.heap.size + 1) (w.heap.size + 1 + 1) A0 c0 l0.length f k wr) ∧ Hid (LVo f (leftK l2 l3 k))) (fun i _ => l2.length - (intOf i).toNat)
  case atStart => exact ⟨0, _, Nat.zero_le _, rfl, T1.start w A0 c0 l0.length, fun s => rfl⟩
  case round =>
    obtain ⟨k, f, hk, rfl, HT, HLk⟩ := hrel
    have c9 : wr.cell? ⟨w.heap.size + 1 + 1, 0, none⟩ = some (.map (some (w.heap.size + 1))) := by simp [World.cell?, HT.out.bl]
    by_cases hlt : k < l2.length
    · obtain ⟨ad, rfl, hx0⟩ := Kd.at_string (Kd.C_below H2.out HT.out.bel) (k : Int) (by omega) (by omega)
      obtain ⟨ad3, rfl, hx3⟩ := Kd.at_int (Kd.C_below H3.out HT.out.bel) (k : Int) (by omega) (by rw [← HL.out]; omega)
      rw [Int.toNat_natCast] at hx0 hx3
      obtain ⟨s0, HS⟩ : ∃ s0, Hid (rdOf ByteArray.empty l2 k = s0) := ⟨_, rfl⟩
      have hsz := HS2.out k
      rw [HS.out] at hx0 hsz
      have HZ := Lib.hid hsz
      clear hsz
      obtain ⟨x3, HX⟩ : ∃ x3, Hid (rd l3 k = x3) := ⟨_, rfl⟩
      rw [HX.out] at hx3
      have hl3 : k < l3.length := by have := HL.out; omega
      cases hq : leftK l2 l3 k s0 with
      | none =>
        have hlk : (Instr.lookup 47 (.map (some (w.heap.size + 1))) (.string s0) true).run Try.prog wr = .ok (.tuple #[.int .i64 0, .bool false]) wr := by
          have := HT.out.ml.look_ok law9 Try.underlying47 (zero3 _) (key9 HZ.out)
          rwa [HLk.out s0, hq] at this
        have HQ := Lib.hid hq
        clear hq
        go_wp2_with fail
        have c9' : wr.drew.cell? ⟨w.heap.size + 1 + 1, 0, none⟩ = _ := c9
        have x3' : wr.drew.cell? (ad3.add k) = _ := hx3
        have HT' : Hid (T1 w w.heap.size (w.heap.size + 1) (w.heap.size + 1 + 1) A0 c0 l0.length f k wr.drew) := HT.out.keep ⟨rfl, rfl, rfl, Nat.le_refl _, fun _ _ => rfl⟩
        refine stl_tail 7 (by kernel_rfl) (by kernel_rfl) rfl rfl ?_
        iterate 7 (refine stl_step (fun K hK => ?_); go_simp; first | (refine hK _ ?_; clear hK K) | (refine ⟨_, (num_any _ _).mono (fun _ _ h => ⟨h.1, h.2.symm⟩), hK _ ?_⟩; clear hK K))
        refine stl_nil ?_
        change wpList _ _ _ _ _ _
        clear c9 hx3 hlk HT
        generalize wr.drew = w2 at c9' x3' HT' ⊢
        refine wpList_up rfl _ _ _ 47 rfl 9 3 law9 Try.underlying47 (w.heap.size + 1) _ _ rfl HT'.out.ml (by unfold maxLen; omega) (.string s0) (.int .i64 (num x3)) _ rfl rfl (key9 HZ.out) ?_
        intro w3 hIs3 hg3
        clear c9' x3'
        go_wp2
        go_roundw
        case rel => exact ⟨k + 1, _, by omega, by go_num, HT'.out.setLeft hIs3 hg3, leftK_none HLk.out HS.out (by rw [HX.out]) HQ.out⟩
        case measure => simp [intOf]; omega
      | some y =>
        have hlk : (Instr.lookup 47 (.map (some (w.heap.size + 1))) (.string s0) true).run Try.prog wr = .ok (.tuple #[.int .i64 y, .bool true]) wr := by
          have := HT.out.ml.look_ok law9 Try.underlying47 (zero3 _) (key9 HZ.out)
          rwa [HLk.out s0, hq] at this
        have HQ := Lib.hid hq
        clear hq
        go_wp2_with fail
        go_roundw
        case rel => exact ⟨k + 1, _, by omega, by go_num, ⟨HT.out.bel, HT.out.hN, HT.out.bt, HT.out.bl, HT.out.ml.mono (by omega)⟩, leftK_some HLk.out HS.out HQ.out⟩
        case measure => simp [intOf]; omega
    · obtain rfl : k = l2.length := by omega
      go_wp2_with fail
      obtain ⟨wo, rfl⟩ : ∃ wo : World, wo = wr := ⟨_, rfl⟩
      clear c9
      go_loopw [54] (fun i wr => ∃ (k : Nat) (fW : Value → Option Value), k ≤ l1.length ∧ i = .int .i64 k ∧ Hid (T2 w w.heap.size (w.heap.size + 1) (w.heap.size + 1 + 1) A0 c0 l0.length f l2.length wo.heap.size (wo.heap.size + 1) fW k wr) ∧ Hid (WV fW (wasK l1 k))) (fun i _ => l1.length - (intOf i).toNat)
      case atStart => exact ⟨0, _, Nat.zero_le _, rfl, T2.start HT.out, fun _ _ => rfl⟩
      case round =>
        clear HT
        obtain ⟨k, fW, hk1, rfl, HT, HWk⟩ := hrel
        by_cases hlt1 : k < l1.length
        · obtain ⟨ad, rfl, hx0, hx1, hx2⟩ := at_T40 (Kd.C_below H1.out HT.out.t1.bel) (k : Int) (by omega) (by omega)
          rw [Int.toNat_natCast] at hx0 hx1 hx2
          obtain ⟨hz0, hz1⟩ := HS1.out k
          obtain ⟨s0, HA0⟩ : ∃ s0, Hid ((rd_T40 l1 k).f0 = s0) := ⟨_, rfl⟩
          obtain ⟨s1, HA1⟩ : ∃ s1, Hid ((rd_T40 l1 k).f1 = s1) := ⟨_, rfl⟩
          obtain ⟨v2, HA2⟩ : ∃ v2, Hid ((rd_T40 l1 k).f2 = v2) := ⟨_, rfl⟩
          rw [HA0.out] at hx0 hz0
          rw [HA1.out] at hx1 hz1
          rw [HA2.out] at hx2
          obtain ⟨kl, hkl⟩ := key51 s0 s1 hz0 hz1
          have HKL := Lib.hid hkl
          clear hkl hz0 hz1
          go_wp2_with fail
          have HT2 := Lib.hid (HT.out.keep (show Below wr.heap.size wr (wr.alloc (.cells #[.string s0, .string s1, .int .i64 v2] 40)).drew from ((Below.refl _ _).alloc (Nat.le_refl _) _).drew))
          have b0 : (wr.alloc (.cells #[.string s0, .string s1, .int .i64 v2] 40)).drew.heap[wr.heap.size]? = some (.cells #[.string s0, .string s1, .int .i64 v2] 40) := heap_alloc_new wr _
          have t0 : (wr.alloc (.cells #[.string s0, .string s1, .int .i64 v2] 40)).drew.cell? ⟨wo.heap.size + 1, 0, none⟩ = some (.map (some wo.heap.size)) := by simp only [World.cell?, HT2.out.bm]; rfl
          have t1 : (wr.alloc (.cells #[.string s0, .string s1, .int .i64 v2] 40)).drew.cell? ⟨wr.heap.size, 0, none⟩ = some (.string s0) := by simp only [World.cell?, b0]; rfl
          have t2 : (wr.alloc (.cells #[.string s0, .string s1, .int .i64 v2] 40)).drew.cell? ⟨wr.heap.size, 1, none⟩ = some (.string s1) := by simp only [World.cell?, b0]; rfl
          have t3 : (wr.alloc (.cells #[.string s0, .string s1, .int .i64 v2] 40)).drew.cell? ⟨wr.heap.size, 2, none⟩ = some (.int .i64 v2) := by simp only [World.cell?, b0]; rfl
          have t4 : (Instr.lookup 49 (.map (some wo.heap.size)) (.agg #[.string s0, .string s1]) false).run Try.prog (wr.alloc (.cells #[.string s0, .string s1, .int .i64 v2] 40)).drew = .ok (.int .i64 (wasK l1 k s0 s1)) (wr.alloc (.cells #[.string s0, .string s1, .int .i64 v2] 40)).drew := by
            have hq := HT2.out.mw.look law51 Try.underlying49 (zero3 _) HKL.out
            rwa [HWk.out s0 s1] at hq
          obtain ⟨v0, st, w9, hme, hIs9, hg9, hst⟩ := HT2.out.mw.entry law51 Try.underlying49 zero3 (by unfold maxLen; omega) HKL.out
          obtain ⟨w10, hes, hIs10, hg10⟩ := hst w9 (.int .i64 (wrap64 (wasK l1 k s0 s1 + num v2))) rfl
          have hle : wr.heap.size < (wr.alloc (.cells #[.string s0, .string s1, .int .i64 v2] 40)).drew.heap.size := (Array.getElem?_eq_some_iff.1 b0).1
          have hnm : wo.heap.size ≠ wr.heap.size := by have := HT.out.mw.lt; omega
          have hnb : wo.heap.size + 1 ≠ wr.heap.size := by have := (Array.getElem?_eq_some_iff.1 HT.out.bm).1; omega
          have hk9 : ∀ a : Addr, a.block < (wr.alloc (.cells #[.string s0, .string s1, .int .i64 v2] 40)).drew.heap.size → a.block ≠ wo.heap.size → w9.cell? a = (wr.alloc (.cells #[.string s0, .string s1, .int .i64 v2] 40)).drew.cell? a := fun a h1 h2 => World.cell?_of_block (hg9.block a.block h1 (by simpa using h2))
          have hlt2 := (Array.getElem?_eq_some_iff.1 HT2.out.bm).1
          have s0' := (hk9 ⟨wo.heap.size + 1, 0, none⟩ hlt2 (by simp)).trans t0
          have s1' := (hk9 ⟨wr.heap.size, 0, none⟩ hle (Ne.symm hnm)).trans t1
          have s2' := (hk9 ⟨wr.heap.size, 1, none⟩ hle (Ne.symm hnm)).trans t2
          have s3' := (hk9 ⟨wr.heap.size, 2, none⟩ hle (Ne.symm hnm)).trans t3
          have s4' : (Instr.lookup 49 (.map (some wo.heap.size)) (.agg #[.string s0, .string s1]) false).run Try.prog w9 = .ok (.int .i64 (wasK l1 k s0 s1)) w9 := by
            have hq := hIs9.look law51 Try.underlying49 (zero3 _) HKL.out
            rw [HWk.out s0 s1] at hq
            simpa [Mp.up, spotV] using hq
          have HG10 := Lib.hid (hg9.trans hg10)
          have HI10 := Lib.hid hIs10
          clear hk9 hIs9 hg9 hst hIs10 hg10 b0 hlt2 HT hx0 hx1 hx2
          simp only [goInt, spotV] at hme hes
          refine start_ (n := 14) (S := fun w' => w'.cell? ⟨wo.heap.size + 1, 0, none⟩ = some (.map (some wo.heap.size)) ∧ w'.cell? ⟨wr.heap.size, 0, none⟩ = some (.string s0) ∧ w'.cell? ⟨wr.heap.size, 1, none⟩ = some (.string s1) ∧ w'.cell? ⟨wr.heap.size, 2, none⟩ = some (.int .i64 v2) ∧ (Instr.lookup 49 (.map (some wo.heap.size)) (.agg #[.string s0, .string s1]) false).run Try.prog w' = .ok (.int .i64 (wasK l1 k s0 s1)) w') (ds := [13]) #[false, false, false, false, false, false, false, false, false, false, false, false, false, false] (by kernel_rfl) rfl rfl ⟨t0, t1, t2, t3, t4⟩ (fun hHeld => ?_)
          clear t0 t1 t2 t3 t4 hle hnm hnb
          generalize (wr.alloc (.cells #[.string s0, .string s1, .int .i64 v2] 40)).drew = w8 at HT2 hme HG10 hHeld ⊢
          refine take_ (i := 0) (N := some 58) (v := ?_) (a' := ?_) #[true, false, false, false, false, false, false, false, false, false, false, false, false, false] rfl rfl (by kernel_rfl) (fun _ _ _ h => h) (Or.inl ⟨by rfl, ?_⟩) hHeld ?_ ?_
          rotate_left
          · rintro w' ⟨e0, e1, e2, e3, e4⟩
            go_simp
            with_reducible rfl
          rotate_left
          · simp only [Act.put, List.setIfInBounds_toArray, List.set_cons_zero, List.set_cons_succ, i64_w, i32_w]
            rfl
          refine pure_ (i := 1) (N := some 59) (v := ?_) (a' := ?_) #[true, true, false, false, false, false, false, false, false, false, false, false, false, false] rfl rfl (by kernel_rfl) (fun _ _ _ h => h) (Or.inl ⟨by rfl, ?_⟩) ?_ ?_
          rotate_left
          · intro w'
            go_simp
            with_reducible rfl
          rotate_left
          · simp only [Act.put, List.setIfInBounds_toArray, List.set_cons_zero, List.set_cons_succ, i64_w, i32_w]
            rfl
          refine take_ (i := 2) (N := some 60) (v := ?_) (a' := ?_) #[true, true, true, false, false, false, false, false, false, false, false, false, false, false] rfl rfl (by kernel_rfl) (fun _ _ _ h => h) (Or.inl ⟨by rfl, ?_⟩) hHeld ?_ ?_
          rotate_left
          · rintro w' ⟨e0, e1, e2, e3, e4⟩
            go_simp
            with_reducible rfl
          rotate_left
          · simp only [Act.put, List.setIfInBounds_toArray, List.set_cons_zero, List.set_cons_succ, i64_w, i32_w]
            rfl
          refine pure_ (i := 3) (N := some 61) (v := ?_) (a' := ?_) #[true, true, true, true, false, false, false, false, false, false, false, false, false, false] rfl rfl (by kernel_rfl) (fun _ _ _ h => h) (Or.inl ⟨by rfl, ?_⟩) ?_ ?_
          rotate_left
          · intro w'
            go_simp
            with_reducible rfl
          rotate_left
          · simp only [Act.put, List.setIfInBounds_toArray, List.set_cons_zero, List.set_cons_succ, i64_w, i32_w]
            rfl
          refine take_ (i := 4) (N := some 62) (v := ?_) (a' := ?_) #[true, true, true, true, true, false, false, false, false, false, false, false, false, false] rfl rfl (by kernel_rfl) (fun _ _ _ h => h) (Or.inl ⟨by rfl, ?_⟩) hHeld ?_ ?_
          rotate_left
          · rintro w' ⟨e0, e1, e2, e3, e4⟩
            go_simp
            with_reducible rfl
          rotate_left
          · simp only [Act.put, List.setIfInBounds_toArray, List.set_cons_zero, List.set_cons_succ, i64_w, i32_w]
            rfl
          refine pure_ (i := 5) (N := some 63) (v := ?_) (a' := ?_) #[true, true, true, true, true, true, false, false, false, false, false, false, false, false] rfl rfl (by kernel_rfl) (fun _ _ _ h => h) (Or.inl ⟨by rfl, ?_⟩) ?_ ?_
          rotate_left
          · intro w'
            go_simp
            with_reducible rfl
          rotate_left
          · simp only [Act.put, List.setIfInBounds_toArray, List.set_cons_zero, List.set_cons_succ, i64_w, i32_w]
            rfl
          refine take_ (i := 6) (N := some 64) (v := ?_) (a' := ?_) #[true, true, true, true, true, true, true, false, false, false, false, false, false, false] rfl rfl (by kernel_rfl) (fun _ _ _ h => h) (Or.inl ⟨by rfl, ?_⟩) hHeld ?_ ?_
          rotate_left
          · rintro w' ⟨e0, e1, e2, e3, e4⟩
            go_simp
            with_reducible rfl
          rotate_left
          · simp only [Act.put, List.setIfInBounds_toArray, List.set_cons_zero, List.set_cons_succ, i64_w, i32_w]
            rfl
          refine pure_ (i := 7) (N := some 65) (v := ?_) (a' := ?_) #[true, true, true, true, true, true, true, true, false, false, false, false, false, false] rfl rfl (by kernel_rfl) (fun _ _ _ h => h) (Or.inl ⟨by rfl, ?_⟩) ?_ ?_
          rotate_left
          · intro w'
            go_simp
            with_reducible rfl
          rotate_left
          · simp only [Act.put, List.setIfInBounds_toArray, List.set_cons_zero, List.set_cons_succ, i64_w, i32_w]
            rfl
          refine take_ (i := 8) (N := some 66) (v := ?_) (a' := ?_) #[true, true, true, true, true, true, true, true, true, false, false, false, false, false] rfl rfl (by kernel_rfl) (fun _ _ _ h => h) (Or.inl ⟨by rfl, ?_⟩) hHeld ?_ ?_
          rotate_left
          · rintro w' ⟨e0, e1, e2, e3, e4⟩
            go_simp
            with_reducible rfl
          rotate_left
          · simp only [Act.put, List.setIfInBounds_toArray, List.set_cons_zero, List.set_cons_succ, i64_w, i32_w]
            rfl
          refine one_ (i := 9) (N := some 67) #[true, true, true, true, true, true, true, true, true, true, false, false, false, false] rfl rfl (by kernel_rfl) (by decide) (fun K hK => ?_)
          refine goes_ Try.func22 (by kernel_rfl) rfl #[.int .i64 v2] (by rfl) rfl rfl (by (try simp only [List.map_toArray, List.map_cons, List.map_nil]); first | done | rfl) ?_
          refine (num_any _ _).mono ?_
          rintro e w41 ⟨rfl, rfl⟩
          refine ⟨_, rfl, ?_⟩
          refine hK.out _ _ hHeld (fun hHeld => ?_)
          clear hK K
          refine norm_ (a' := ?_) ?_ ?_
          rotate_left
          · show Act.put _ (some 67) _ = _
            simp only [Act.put, List.setIfInBounds_toArray, List.set_cons_zero, List.set_cons_succ, i64_w, i32_w]
            rfl
          refine pure_ (i := 10) (N := some 68) (v := ?_) (a' := ?_) #[true, true, true, true, true, true, true, true, true, true, true, false, false, false] rfl rfl (by kernel_rfl) (fun _ _ _ h => h) (Or.inl ⟨by rfl, ?_⟩) ?_ ?_
          rotate_left
          · intro w'
            go_simp
            with_reducible rfl
          rotate_left
          · simp only [Act.put, List.setIfInBounds_toArray, List.set_cons_zero, List.set_cons_succ, i64_w, i32_w]
            rfl
          refine one_ (i := 11) (N := some 69) #[true, true, true, true, true, true, true, true, true, true, true, true, false, false] rfl rfl (by kernel_rfl) (by decide) (fun K hK => ?_)
          refine value_ (w1 := w9) (v := .tuple #[v0, .int .i64 (st : Int)]) (by rfl) rfl ?_ ?_
          · go_simp
          refine hK.out _ _ ⟨s0', s1', s2', s3', s4'⟩ (fun hHeld => ?_)
          clear hK K
          refine norm_ (a' := ?_) ?_ ?_
          rotate_left
          · show Act.put _ (some 69) _ = _
            simp only [Act.put, List.setIfInBounds_toArray, List.set_cons_zero, List.set_cons_succ, i64_w, i32_w]
            rfl
          refine pure_ (i := 12) (N := some 70) (v := ?_) (a' := ?_) #[true, true, true, true, true, true, true, true, true, true, true, true, true, false] rfl rfl (by kernel_rfl) (fun _ _ _ h => h) (Or.inl ⟨by rfl, ?_⟩) ?_ ?_
          rotate_left
          · intro w'
            go_simp
            with_reducible rfl
          rotate_left
          · simp only [Act.put, List.setIfInBounds_toArray, List.set_cons_zero, List.set_cons_succ, i64_w, i32_w]
            rfl
          refine last_ (i := 13) (N := none) #[true, true, true, true, true, true, true, true, true, true, true, true, true, true] rfl rfl (by kernel_rfl) (by decide) (fun K hK => ?_)
          refine skip_ (w1 := w10) (by rfl) rfl ?_ ?_
          · go_simp
          refine hK.out _ _ ?_
          clear hK K
          refine done_ (by kernel_rfl) ?_
          go_wp2
          go_roundw
          case rel => exact ⟨k + 1, _, by omega, by go_num, HT2.out.setWas HI10.out HG10.out, HWk.out.up HA0.out HA1.out HA2.out⟩
          case measure => simp [intOf]; omega
        · obtain rfl : k = l1.length := by omega
          have hmk := run_make_row' (P := Try.prog) 22 3 (.int .i64 0) 8 Try.underlying22 (by kernel_rfl) rfl .i64 .i64 l0.length (by omega) (by omega)
          have c4 : wr.cell? ⟨w.heap.size, 0, none⟩ = some (.slice A0 l0.length c0) := by simp only [World.cell?, HT.out.t1.bt]; rfl
          clear hmm
          go_wp2_with fail
          refine (give2_any w _ w.heap.size w.heap.size (w.heap.size + 1 + 1) (wo.heap.size + 1) (wr.heap.size + 1) wr.heap.size (w.heap.size + 1) wo.heap.size A0 c0 l0 f fW l2.length l1.length (List.replicate l0.length 0) (fun s => (leftK l2 l3 l2.length s).getD 0) (wasK l1 l1.length) H0.out rfl (fun i => (HS0.out i).1) (fun i => (HS0.out i).2) HWk.out (by omega) (TS.start HT.out) HLk.out.lv).mono ?_
          rintro e w5 ⟨rfl, f5, HT5, HL5⟩
          have HT5 := Lib.hid HT5
          have HL5 := Lib.hid HL5
          go_wp2_with fail
          refine (give3_any w _ w.heap.size w.heap.size (w.heap.size + 1 + 1) (wo.heap.size + 1) (wr.heap.size + 1) wr.heap.size (w.heap.size + 1) wo.heap.size A0 c0 l0 f5 fW _ l1.length _ _ H0.out rfl (fun i => (HS0.out i).1) (by omega) HT5.out HL5.out).mono ?_
          rintro e w6 ⟨rfl, f6, HT6, HL6⟩
          have HT6 := Lib.hid HT6
          clear HL6 HT5 HL5 HT HLk HWk hmk c4
          have c4 : w6.cell? ⟨w.heap.size, 0, none⟩ = some (.slice A0 l0.length c0) := HT6.out.cells.1
          generalize (giveK (M3 l0) l0 (giveK (M2 l0 (wasK l1 l1.length)) l0 (List.replicate l0.length 0) (fun s => (leftK l2 l3 l2.length s).getD 0) l0.length).1 (giveK (M2 l0 (wasK l1 l1.length)) l0 (List.replicate l0.length 0) (fun s => (leftK l2 l3 l2.length s).getD 0) l0.length).2 l0.length).1 = P3 at HR HT6
          go_wp2_with fail
          clear c4
          obtain ⟨wp, rfl⟩ : ∃ wp : World, wp = wr := ⟨_, rfl⟩
          go_loopw [19, 84] (fun v i wr => ∃ (k : Nat), k ≤ l0.length ∧ i = .int .i64 k ∧ Hid (TS w w.heap.size w.heap.size (w.heap.size + 1 + 1) (wo.heap.size + 1) (wp.heap.size + 1) wp.heap.size (w.heap.size + 1) wo.heap.size A0 c0 l0.length f6 fW (l2.length + l0.length + l0.length) l1.length P3 wr) ∧
              Hid (Kd.R k40 40 wr w.heap.size (fun _ => True) v (outK l0 P3 k))) (fun _ i _ => l0.length - (intOf i).toNat)
          case atStart => exact ⟨0, Nat.zero_le _, rfl, HT6.out, Kd.R_nil _ _ _ _ _⟩
          case round =>
            clear HT6
            obtain ⟨k, hk2, rfl, HT, HO⟩ := hrel
            by_cases hlt2 : k < l0.length
            · obtain ⟨d1, _, _, d4, d5⟩ := HT.out.cells
              obtain ⟨d6, _⟩ := d5 k hlt2
              clear d5
              obtain ⟨m1, _, _, m4, m5, _, _⟩ := HT.out.lts
              obtain ⟨ad, rfl, hx0, hx1, hx2⟩ := at_T40 (Kd.C_below H0.out HT.out.bel) (k : Int) (by omega) (by omega)
              rw [Int.toNat_natCast] at hx0 hx1 hx2
              by_cases hpos : 0 < rd P3 k
              · have HK := Lib.hid (show outK l0 P3 (k + 1) = outK l0 P3 k ++ [⟨(rd_T40 l0 k).f0, (rd_T40 l0 k).f1, rd P3 k⟩] from by simp only [outK]; rw [if_pos hpos])
                go_wp2_with fail
                obtain ⟨s0, HA0⟩ : ∃ s0, Hid ((rd_T40 l0 k).f0 = s0) := ⟨_, rfl⟩
                obtain ⟨s1, HA1⟩ : ∃ s1, Hid ((rd_T40 l0 k).f1 = s1) := ⟨_, rfl⟩
                obtain ⟨v2, HA2⟩ : ∃ v2, Hid ((rd_T40 l0 k).f2 = v2) := ⟨_, rfl⟩
                rw [HA0.out, HA1.out, HA2.out]
                rw [HA0.out, HA1.out] at HK
                have HT2 := Lib.hid (HT.out.keep (show Below wr.heap.size wr (wr.alloc (.cells #[.string s0, .string s1, .int .i64 v2] 40)).drew from ((Below.refl _ _).alloc (Nat.le_refl _) _).drew))
                have HO2 := Lib.hid (Kd.R_drew (Kd.R_alloc HO.out (.cells #[.string s0, .string s1, .int .i64 v2] 40)))
                have b0 : (wr.alloc (.cells #[.string s0, .string s1, .int .i64 v2] 40)).drew.heap[wr.heap.size]? = some (.cells #[.string s0, .string s1, .int .i64 v2] 40) := heap_alloc_new wr _
                have t1 : (wr.alloc (.cells #[.string s0, .string s1, .int .i64 v2] 40)).drew.cell? ⟨wr.heap.size, 0, none⟩ = some (.string s0) := by simp only [World.cell?, b0]; rfl
                have t2 : (wr.alloc (.cells #[.string s0, .string s1, .int .i64 v2] 40)).drew.cell? ⟨wr.heap.size, 1, none⟩ = some (.string s1) := by simp only [World.cell?, b0]; rfl
                obtain ⟨_, _, _, t4, t5⟩ := HT2.out.cells
                obtain ⟨t6, _⟩ := t5 k hlt2
                refine start_ (n := 13) (S := fun w' => w'.cell? ⟨wr.heap.size, 0, none⟩ = some (.string s0) ∧ w'.cell? ⟨wr.heap.size, 1, none⟩ = some (.string s1) ∧ w'.cell? ⟨wp.heap.size + 1, 0, none⟩ = some (.slice (some ⟨wp.heap.size, 0, none⟩) l0.length l0.length) ∧ w'.cell? ⟨wp.heap.size, k, none⟩ = some (.int .i64 (rd P3 k))) (ds := [10, 11]) #[false, false, false, false, false, false, false, false, false, false, false, false, false] (by kernel_rfl) rfl rfl ⟨t1, t2, t4, t6⟩ (fun hHeld => ?_)
                clear t5 t1 t2 t4 t6 d1 d4 d6 hx0 hx1 hx2 b0 HT HO m1 m4 m5
                generalize (wr.alloc (.cells #[.string s0, .string s1, .int .i64 v2] 40)).drew = w8 at HT2 HO2 hHeld ⊢
                refine pure_ (i := 0) (N := some 94) (v := ?_) (a' := ?_) #[true, false, false, false, false, false, false, false, false, false, false, false, false] rfl rfl (by kernel_rfl) (fun _ _ _ h => h) (Or.inl ⟨by rfl, ?_⟩) ?_ ?_
                rotate_left
                · intro w'
                  go_simp
                  with_reducible rfl
                rotate_left
                · simp only [Act.put, List.setIfInBounds_toArray, List.set_cons_zero, List.set_cons_succ, i64_w, i32_w]
                  rfl
                refine pure_ (i := 1) (N := some 95) (v := ?_) (a' := ?_) #[true, true, false, false, false, false, false, false, false, false, false, false, false] rfl rfl (by kernel_rfl) (fun _ _ _ h => h) (Or.inl ⟨by rfl, ?_⟩) ?_ ?_
                rotate_left
                · intro w'
                  go_simp
                  with_reducible rfl
                rotate_left
                · simp only [Act.put, List.setIfInBounds_toArray, List.set_cons_zero, List.set_cons_succ, i64_w, i32_w]
                  rfl
                refine take_ (i := 2) (N := some 96) (v := ?_) (a' := ?_) #[true, true, true, false, false, false, false, false, false, false, false, false, false] rfl rfl (by kernel_rfl) (fun _ _ _ h => h) (Or.inl ⟨by rfl, ?_⟩) hHeld ?_ ?_
                rotate_left
                · rintro w' ⟨e0, e1, e2, e3⟩
                  go_simp
                  with_reducible rfl
                rotate_left
                · simp only [Act.put, List.setIfInBounds_toArray, List.set_cons_zero, List.set_cons_succ, i64_w, i32_w]
                  rfl
                refine pure_ (i := 3) (N := some 97) (v := ?_) (a' := ?_) #[true, true, true, true, false, false, false, false, false, false, false, false, false] rfl rfl (by kernel_rfl) (fun _ _ _ h => h) (Or.inl ⟨by rfl, ?_⟩) ?_ ?_
                rotate_left
                · intro w'
                  go_simp
                  with_reducible rfl
                rotate_left
                · simp only [Act.put, List.setIfInBounds_toArray, List.set_cons_zero, List.set_cons_succ, i64_w, i32_w]
                  rfl
                refine take_ (i := 4) (N := some 98) (v := ?_) (a' := ?_) #[true, true, true, true, true, false, false, false, false, false, false, false, false] rfl rfl (by kernel_rfl) (fun _ _ _ h => h) (Or.inl ⟨by rfl, ?_⟩) hHeld ?_ ?_
                rotate_left
                · rintro w' ⟨e0, e1, e2, e3⟩
                  go_simp
                  with_reducible rfl
                rotate_left
                · simp only [Act.put, List.setIfInBounds_toArray, List.set_cons_zero, List.set_cons_succ, i64_w, i32_w]
                  rfl
                refine take_ (i := 5) (N := some 99) (v := ?_) (a' := ?_) #[true, true, true, true, true, true, false, false, false, false, false, false, false] rfl rfl (by kernel_rfl) (fun _ _ _ h => h) (Or.inl ⟨by rfl, ?_⟩) hHeld ?_ ?_
                rotate_left
                · rintro w' ⟨e0, e1, e2, e3⟩
                  go_simp
                  with_reducible rfl
                rotate_left
                · simp only [Act.put, List.setIfInBounds_toArray, List.set_cons_zero, List.set_cons_succ, i64_w, i32_w]
                  rfl
                refine pure_ (i := 6) (N := some 100) (v := ?_) (a' := ?_) #[true, true, true, true, true, true, true, false, false, false, false, false, false] rfl rfl (by kernel_rfl) (fun _ _ _ h => h) (Or.inl ⟨by rfl, ?_⟩) ?_ ?_
                rotate_left
                · intro w'
                  go_simp
                  with_reducible rfl
                rotate_left
                · simp only [Act.put, List.setIfInBounds_toArray, List.set_cons_zero, List.set_cons_succ, i64_w, i32_w]
                  rfl
                refine pure_ (i := 7) (N := some 101) (v := ?_) (a' := ?_) #[true, true, true, true, true, true, true, true, false, false, false, false, false] rfl rfl (by kernel_rfl) (fun _ _ _ h => h) (Or.inl ⟨by rfl, ?_⟩) ?_ ?_
                rotate_left
                · intro w'
                  go_simp
                  with_reducible rfl
                rotate_left
                · simp only [Act.put, List.setIfInBounds_toArray, List.set_cons_zero, List.set_cons_succ, i64_w, i32_w]
                  rfl
                refine take_ (i := 8) (N := some 102) (v := ?_) (a' := ?_) #[true, true, true, true, true, true, true, true, true, false, false, false, false] rfl rfl (by kernel_rfl) (fun _ _ _ h => h) (Or.inl ⟨by rfl, ?_⟩) hHeld ?_ ?_
                rotate_left
                · rintro w' ⟨e0, e1, e2, e3⟩
                  go_simp
                  with_reducible rfl
                rotate_left
                · simp only [Act.put, List.setIfInBounds_toArray, List.set_cons_zero, List.set_cons_succ, i64_w, i32_w]
                  rfl
                refine pure_ (i := 9) (N := some 103) (v := ?_) (a' := ?_) #[true, true, true, true, true, true, true, true, true, true, false, false, false] rfl rfl (by kernel_rfl) (fun _ _ _ h => h) (Or.inl ⟨by rfl, ?_⟩) ?_ ?_
                rotate_left
                · intro w'
                  go_simp
                  with_reducible rfl
                rotate_left
                · simp only [Act.put, List.setIfInBounds_toArray, List.set_cons_zero, List.set_cons_succ, i64_w, i32_w]
                  rfl
                clear hHeld
                refine last_ (i := 10) (N := some 104) #[true, true, true, true, true, true, true, true, true, true, true, false, false] rfl rfl (by kernel_rfl) (by decide) (fun K hK => ?_)
                refine value_ (w1 := ?_) (v := ?_) (by rfl) rfl ?_ ?_
                rotate_left 2
                · go_simp
                  constructor
                  · rfl
                  · rfl
                refine hK.out _ _ ?_
                clear hK K
                refine norm_ (a' := ?_) ?_ ?_
                rotate_left
                · show Act.put _ (some 104) _ = _
                  simp only [Act.put, List.setIfInBounds_toArray, List.set_cons_zero, List.set_cons_succ, i64_w, i32_w]
                  rfl
                refine last_ (i := 11) (N := some 105) #[true, true, true, true, true, true, true, true, true, true, true, true, false] rfl rfl (by kernel_rfl) (by decide) (fun K hK => ?_)
                refine Kd.R_append_step k40 (w0 := w) w.heap.size (by rfl) (.tmp 94) (.tmp 104) 23 40 (.agg #[(.string ⟨#[]⟩), (.string ⟨#[]⟩), (.int .i64 0)]) 40 rfl Try.underlying23 (by kernel_rfl) rfl (by decide) (by omega) u19 (outK l0 P3 k) (⟨s0, s1, rd P3 k⟩ : S40) [.string s0, .string s1, .int .i64 (rd P3 k)] (fun _ => True) (fun _ => False) rfl rfl (k40_mkM _ _ _ (⟨s0, s1, rd P3 k⟩ : S40)) (fun _ hk => hk.elim) (fun _ _ => trivial) HO2.out HT2.out.bel HT2.out.bel.size (by have := outK_len l0 P3 k; omega) ?_
                intro v1 w1 ho1 hb1 hg1 hat1
                have HT3 := Lib.hid (HT2.out.grown hg1 (fun k hk => ⟨Kd.R_base HO2.out k hk, Kd.R_typed HO2.out k hk⟩))
                rw [← HK.out] at ho1
                have HO3 := Lib.hid ho1
                clear ho1 hb1 hg1 hat1 HT2 HO2
                refine hK.out _ _ ?_
                clear hK K
                refine norm_ (a' := ?_) ?_ ?_
                rotate_left
                · show Act.put _ (some 105) _ = _
                  simp only [Act.put, List.setIfInBounds_toArray, List.set_cons_zero, List.set_cons_succ, i64_w, i32_w]
                  rfl
                refine pure_ (i := 12) (N := some 19) (v := ?_) (a' := ?_) #[true, true, true, true, true, true, true, true, true, true, true, true, true] rfl rfl (by kernel_rfl) (fun _ _ _ h => h) (Or.inl ⟨by rfl, ?_⟩) ?_ ?_
                rotate_left
                · intro w'
                  go_simp
                  with_reducible rfl
                rotate_left
                · simp only [Act.put, List.setIfInBounds_toArray, List.set_cons_zero, List.set_cons_succ, i64_w, i32_w]
                  rfl
                refine done_ (by kernel_rfl) ?_
                go_wp2
                go_roundw
                case rel => exact ⟨k + 1, by omega, by go_num, HT3.out, HO3.out⟩
                case measure => simp [intOf]; omega
              · have HK := Lib.hid (show outK l0 P3 (k + 1) = outK l0 P3 k from by simp only [outK]; rw [if_neg hpos])
                go_wp2_with fail
                go_roundw
                case rel => exact ⟨k + 1, by omega, by go_num, HT.out.alloc _, by rw [HK.out]; exact Kd.R_alloc HO.out _⟩
                case measure => simp [intOf]; omega
            · obtain rfl : k = l0.length := by omega
              go_wp2_with fail
              go_ret
              exact ⟨_, rfl, by rw [HR.out]; exact HO.out, HT.out.bel⟩
end Go.Proofs.Ytpdgdogcfmfakaa.P
