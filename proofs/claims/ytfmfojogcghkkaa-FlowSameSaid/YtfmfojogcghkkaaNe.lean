/- flow.next: the way back, from its end on. -/
import Derived.Test.YtfmfojogcghkkaaSe
import Derived.Test.YtfmfojogcghkkaaPp
namespace Go.Proofs.Ytfmfojogcghkkaa.P
open Go.RowKit Go.Proofs.YtfmfojogcghkkaaW.PrintWords Go.Proofs.YtfmfojogcghkkaaW.PrintLast Go.Proofs.YtfmfojogcghkkaaW.PrintMore
open Go.Proofs.Ytfmfojogcghkkaa.Bf Go.Proofs.Ytfmfojogcghkkaa.Mp Go.Proofs.Ytfmfojogcghkkaa.Pp
set_option linter.unusedVariables false

theorem info66 : (Try.prog.info? 66).map (fun i => (i.zero, i.size, i.bytes)) = some (some (.agg #[(.int .i64 0), (.int .i64 0), (.bool false)]), 3, 24) := by kernel_rfl
def k66 : Kd S66 := Kd.iso (Kd.pair (Kd.int .i64) (Kd.pair (Kd.int .i64) Kd.bool)) (fun x : S66 => (x.f0, x.f1, x.f2))
theorem k66_open {w : World} {x : S66} {cs : List Value} (h : k66.K w x cs) : cs = [.int .i64 x.f0, .int .i64 x.f1, .bool x.f2] := by
  obtain ⟨_, _, rfl, rfl, ⟨_, _, rfl, rfl, rfl⟩⟩ := h
  exact rfl
theorem k66_mkM (w : World) (base : Nat) (ok : Nat → Prop) (x : S66)  : k66.M w base ok x [.int .i64 x.f0, .int .i64 x.f1, .bool x.f2] := ⟨[.int .i64 x.f0], [.int .i64 x.f1, .bool x.f2], rfl, rfl, ⟨[.int .i64 x.f1], [.bool x.f2], rfl, rfl, rfl⟩⟩
theorem at_T66 {w : World} {A : Option Addr} {n : Nat} {xs : List S66} (h : Kd.C k66 w A n xs) (i : Int) (h0 : 0 ≤ i) (h1 : i < n) : ∃ ad , A = some ad ∧ w.cell? (ad.add (i.toNat * 3)) = some (.int .i64 (rd66 xs i).f0) ∧ w.cell? ⟨(ad.add (i.toNat * 3)).block, (ad.add (i.toNat * 3)).off + 1, none⟩ = some (.int .i64 (rd66 xs i).f1) ∧ w.cell? ⟨(ad.add (i.toNat * 3)).block, (ad.add (i.toNat * 3)).off + 2, none⟩ = some (.bool (rd66 xs i).f2) := by
  obtain ⟨ad, c, e, _, hK, hc0⟩ := Kd.C_get h z66 i h0 h1
  have hc : ∀ j u, c[j]? = some u → w.cell? (ad.add (i.toNat * 3 + j)) = some u := hc0
  obtain rfl := k66_open hK
  exact ⟨ad, e, hc 0 _ rfl, by rw [← add_field _ _ 1 (by omega)]; exact hc 1 _ rfl, by rw [← add_field _ _ 2 (by omega)]; exact hc 2 _ rfl⟩

def NextPost (N : Int) (l : List S41) (F : List Int) (s t : Int) (w : World) (e : Ending) (w' : World) : Prop :=
  ∃ v, e = .returned v ∧ Kd.R k66 66 w' w.heap.size (fun _ => True) v (wayOf N l F s t) ∧ (v = .slice none 0 0 ↔ wayOf N l F s t = []) ∧ Below w.heap.size w w'

/-- What next has in memory behind the search. -/
structure Nx (w0 : World) (M n : Nat) (g : Int → Option S66) (v8 : Value) (W0 : List S66) (W : World) : Prop where
  bel : Below w0.heap.size w0 W
  map : Is Try.prog 3 W M n (fM g)
  way : Kd.R k66 66 W w0.heap.size (fun _ => True) v8 W0
  nil : v8 = .slice none 0 0 ↔ W0 = []
theorem Nx.below {w0 : World} {M n : Nat} {g : Int → Option S66} {v8 : Value} {W0 : List S66} {W W' : World} (h : Nx w0 M n g v8 W0 W) (hb : Below W.heap.size W W') : Nx w0 M n g v8 W0 W' :=
  ⟨h.bel.trans (hb.mono h.bel.size), h.map.of_block (hb.block _ h.map.lt), Kd.R_below h.way hb, h.nil⟩
theorem Nx.app {w0 : World} {M n : Nat} {g : Int → Option S66} {v8 v9 : Value} {W0 W1 : List S66} {W W' : World} (h : Nx w0 M n g v8 W0 W) (hw : Kd.R k66 66 W' w0.heap.size (fun _ => True) v9 W1) (hb : Below w0.heap.size w0 W') (hg : W.grownBy W' v8.ownBlock) (hn : W1 ≠ []) : Nx w0 M n g v9 W1 W' := by
  obtain ⟨es, cl, e⟩ := h.map.isMap
  refine ⟨hb, h.map.kept hg (fun hk => ?_), hw, ⟨fun e => ?_, fun e => absurd e hn⟩⟩
  · obtain ⟨cells, hc⟩ := Kd.R_typed h.way _ hk.symm
    rw [e] at hc; cases hc
  · subst e
    obtain ⟨A, c, e2, _, _⟩ := Kd.R_reads hw
    injection e2 with _ e3 _
    exact List.eq_nil_of_length_eq_zero e3.symm

set_option maxHeartbeats 1600000 in
theorem next_any (N : Int) (A : Option Addr) (c : Nat) (l : List S41) (A1 : Option Addr) (c1 : Nat) (F : List Int) (s t : Int) (w : World) (hr : Kd.C k41 w A l.length l) (hr1 : Kd.C (Kd.int .i64) w A1 F.length F) (hl : F.length = l.length)
    (hE : Bf.Ends l N) (hN : N ≤ 64) (hll : l.length ≤ 256) (hs : 0 ≤ s ∧ s < N) (ht : 0 ≤ t ∧ t < N) :
    Calls Try.prog 53 #[.agg #[.int .i64 N, .slice A l.length c], .slice A1 F.length c1, .int .i64 s, .int .i64 t] w (NextPost N l F s t w) := by
  have hb0 : Below w.heap.size w (w.alloc (.cells #[.int .i64 N, .slice A l.length c] 24)) := (Below.refl _ _).alloc (Nat.le_refl _) _
  have hcall := search_any N A c l A1 c1 F s (w.alloc (.cells #[.int .i64 N, .slice A l.length c] 24)) (Kd.C_below hr hb0) (Kd.C_below hr1 hb0) hl hE hN hll hs
  have HB0 := Lib.hid hb0
  have HI := Lib.hid (bfs_inv (F := F) hE hs)
  have hk3 := key3 ht.1 ht.2 hN
  have HK3 := Lib.hid hk3
  obtain ⟨hs0, hs1⟩ := hs
  have HL := Lib.hid hl
  clear hr hr1 hE hb0 hk3 hl
  go_enter Try.func53, Try.ntmps53
  go_wp2_with fail
  refine hcall.mono ?_
  rintro e w1 ⟨M, n, rfl, hIs, hbel⟩
  have HIs := Lib.hid hIs
  have HB1 := Lib.hid (HB0.out.trans (hbel.mono HB0.out.size))
  clear hcall hIs hbel
  generalize hst : bfs l F s N = st at HIs HI
  have HST := Lib.hid hst
  clear hst
  cases hg : st.2 t with
  | none =>
    have hlk : (Instr.lookup 74 (.map (some M)) (.int .i64 t) true).run Try.prog w1 = .ok (.tuple #[.agg #[.int .i64 0, .int .i64 0, .bool false], .bool false]) w1 := by
      have := HIs.out.look_ok law3 Try.underlying74 (Try.zeroValue66 _) HK3.out
      simpa [fM, hg] using this
    have HW : Hid (wayOf N l F s t = []) := Lib.hid (by unfold wayOf; rw [HST.out, hg]; rfl)
    clear hg
    go_wp2_with fail
    go_ret
    exact ⟨_, rfl, by rw [HW.out]; exact Kd.R_nil _ _ _ _ _, by rw [HW.out]; simp, HB1.out.alloc HB1.out.size _⟩
  | some y =>
    have hlk : (Instr.lookup 74 (.map (some M)) (.int .i64 t) true).run Try.prog w1 = .ok (.tuple #[.agg #[.int .i64 y.f0, .int .i64 y.f1, .bool y.f2], .bool true]) w1 := by
      have := HIs.out.look_ok law3 Try.underlying74 (Try.zeroValue66 _) HK3.out
      simpa [fM, hg, stepV] using this
    have HW : Hid (wayOf N l F s t = wayL st.2 s N.toNat t) := Lib.hid (by unfold wayOf; rw [HST.out, hg]; rfl)
    obtain ⟨pt, hpt, ept⟩ := (HI.out.mem t).1 (by rw [hg]; rfl)
    have HPT := Lib.hid hpt
    have HEP := Lib.hid ept
    have HLe := Lib.hid HI.out.le
    have HWl : Hid ((wayOf N l F s t).length ≤ 64) := Lib.hid (by
      have h4 := (wayL_ok HI.out N.toNat pt (by have := HLe.out; omega) hpt).2.2.2.1
      rw [ept] at h4
      rw [HW.out]; have := HLe.out; omega)
    clear hg hpt ept
    go_wp2_with fail
    clear hlk
    have HN0 : Hid (Nx w M n st.2 (.slice none 0 0) [] (w1.alloc (.cells #[.int .i64 y.f0, .int .i64 y.f1, .bool y.f2] 66))) := Lib.hid ((Nx.mk HB1.out HIs.out (Kd.R_nil _ _ _ _ _) (by simp)).below ((Below.refl _ _).alloc (Nat.le_refl _) _))
    clear HIs HB1
    generalize w1.alloc (.cells #[.int .i64 y.f0, .int .i64 y.f1, .bool y.f2] 66) = w2 at HN0 ⊢
    go_loopg [8, 12] (pt + 1) (fun gk v8 v12 wr => ∃ (p : Nat) (v : Int) (W0 : List S66), gk = p + 1 ∧ v12 = .int .i64 v ∧ Hid (p < st.1.length) ∧ Hid (rd st.1 p = v) ∧ Hid (W0 ++ wayL st.2 s N.toNat v = wayOf N l F s t) ∧ Hid (Nx w M n st.2 v8 W0 wr))
    case atStart => exact ⟨pt, t, [], rfl, rfl, HPT, HEP, Lib.hid (by rw [HW.out]; rfl), HN0⟩
    case round =>
      clear HN0
      obtain ⟨p, v, W0, rfl, rfl, HP, HV, HA, HX⟩ := hrel
      obtain ⟨A8, c8, e8⟩ := Kd.R_slice HX.out.way
      subst e8
      have hk4 := key3 (v := v) (N := N) (by rw [← HV.out]; exact (HI.out.rng p HP.out).1) (by rw [← HV.out]; exact (HI.out.rng p HP.out).2) hN
      have HK4 := Lib.hid hk4
      clear hk4
      have HW0 : Hid (W0.length ≤ 64) := Lib.hid (by have h := congrArg List.length HA.out; rw [List.length_append] at h; have := HWl.out; omega)
      by_cases hp0 : p = 0
      · subst hp0
        have hvs : (v != s) = false := by rw [← HV.out]; have := HI.out.head; simpa using this
        have HE0 : Hid (W0 = wayOf N l F s t) := Lib.hid (by
          have h := HA.out
          have e : wayL st.2 s N.toNat v = [] := by
            cases hn : N.toNat with
            | zero => rfl
            | succ m => simp only [wayL]; rw [if_pos (by simpa using hvs)]
          rw [e, List.append_nil] at h; exact h)
        go_wp2_with fail
        go_ret
        exact ⟨_, rfl, by rw [← HE0.out]; exact HX.out.way, by rw [← HE0.out]; exact HX.out.nil, HX.out.bel⟩
      · have hvs : (v != s) = true := by
          have : v ≠ s := fun e => hp0 (HI.out.inj p 0 HP.out HI.out.pos (HV.out.trans (e.trans HI.out.head.symm)))
          simpa using this
        obtain ⟨r, i, b, h1, h2, h3, h4⟩ := HI.out.par p (by omega) HP.out
        rw [HV.out] at h3
        obtain ⟨vr, HVr⟩ : ∃ vr, Hid (rd st.1 r = vr) := ⟨_, rfl⟩
        rw [HVr.out] at h3
        have HA' : Hid ((W0 ++ [⟨vr, i, b⟩]) ++ wayL st.2 s N.toNat vr = wayOf N l F s t) := Lib.hid (by
          have h := HA.out
          have hNp : p ≤ N.toNat := by have := HLe.out; have := HP.out; omega
          have e : wayL st.2 s N.toNat v = ⟨vr, i, b⟩ :: wayL st.2 s N.toNat vr := by
            obtain ⟨m, hm⟩ : ∃ m, N.toNat = m + 1 := ⟨N.toNat - 1, by omega⟩
            rw [hm]
            simp only [wayL]
            rw [if_neg (by simpa using hvs), h3]
            have w6 := (wayL_ok HI.out m r (by omega) (by have := HP.out; omega)).2.2.2.2.2 (m + 1) (by omega)
            rw [HVr.out] at w6
            simp only []
            rw [← w6]
            rfl
          rw [e] at h
          simpa using h)
        have HR' : Hid (r < st.1.length) := Lib.hid (by have := HP.out; omega)
        have hlk : (Instr.lookup 74 (.map (some M)) (.int .i64 v) false).run Try.prog wr = .ok (.agg #[.int .i64 vr, .int .i64 i, .bool b]) wr := by
          have := HX.out.map.look law3 Try.underlying74 (Try.zeroValue66 _) HK4.out
          simpa [fM, h3, stepV] using this
        have HG3 := Lib.hid h3
        have hfd : ∀ w : World, (Instr.field 66 (.agg #[.int .i64 vr, .int .i64 (i : Int), .bool b]) 0).run Try.prog w = .ok (.int .i64 vr) w := fun _ => by kernel_rfl
        clear h3 h4 h2
        go_wp2_with (at_builtin; refine Kd.R_append k66 (w0 := w) w.heap.size rfl (.tmp 33) (.tmp 37) 63 66 (.agg #[(.int .i64 0), (.int .i64 0), (.bool false)]) 24 rfl Try.underlying63 info66 rfl (by decide) (by omega) (.slice A8 W0.length c8) W0 (⟨vr, i, b⟩ : S66) [.int .i64 vr, .int .i64 i, .bool b] (fun _ => True) (fun _ => False) rfl rfl (k66_mkM _ _ _ ⟨vr, i, b⟩) (fun _ hk => hk.elim) (fun _ _ => trivial) HX.out.way HX.out.bel HX.out.bel.size (by have := HW0.out; omega) ?_; intro v9 w4 ho hb hg hat; have HX4 := Lib.hid (HX.out.app ho hb hg (by simp)); clear ho hb hg hat hlk; have hlk4 : (Instr.lookup 74 (.map (some M)) (.int .i64 v) false).run Try.prog w4 = .ok (.agg #[.int .i64 vr, .int .i64 i, .bool b]) w4 := (by have := HX4.out.map.look law3 Try.underlying74 (Try.zeroValue66 _) HK4.out; simpa [fM, HG3.out, stepV] using this))
        go_roundg (r + 1)
        case measure => omega
        case rel => exact ⟨r, vr, W0 ++ [⟨vr, i, b⟩], rfl, rfl, HR', HVr, HA', HX4⟩
end Go.Proofs.Ytfmfojogcghkkaa.P
