/- LeaseHeld of layer 14: its walk. -/
import Derived.Test.YtcmaoldklldfmaaBn
import Derived.Test.YtcmaoldklldfmaaBp
import Derived.Test.YtcmaoldklldfmaaBl
import Derived.Test.YtcmaoldklldfmaaC
import Derived.Test.YtcmaoldklldfmaaHm
import Derived.Deep.QuietTactic
import Derived.BigQuiet
import Derived.StillTailTactics
import Derived.Deep.RegionWith
import Derived.Deep.DeepCutAuto
import Derived.Deep.CutBlock
namespace Go.Proofs.Ytcmaoldklldfmaa.P
open Go.RowKit Go.Proofs.YtcmaoldklldfmaaW.PrintWords Go.Proofs.YtcmaoldklldfmaaW.PrintLast Go.Proofs.YtcmaoldklldfmaaW.PrintMore
attribute [local go_sem] max2_int min2_int
set_option linter.unusedSimpArgs false
set_option linter.unusedVariables false

theorem at_kL {W : World} {N g n cap : Nat} {ok : Nat → Prop} {xs : List (List S42)} (h : kL.R 33 W N ok (.slice (some ⟨g, 0, none⟩) n cap) xs) (k : Nat) (hk : k < n) : ∃ A c, W.cell? ⟨g, k, none⟩ = some (.slice A (rd_L3 xs k).length c) ∧ Kd.R k42 42 W N (fun _ => True) (.slice A (rd_L3 xs k).length c) (rd_L3 xs k) := by
  obtain ⟨c, hl, hM, hc, hf⟩ := Kd.R_elem h ([] : List S42) (k : Int) (by omega) (by omega)
  rw [Int.toNat_natCast] at hc hM
  have e : rd_L3 xs k = xs.getD k [] := by unfold rd_L3; rw [Int.toNat_natCast]
  rw [← e] at hM
  obtain ⟨v, rfl, hR⟩ := hM
  obtain ⟨A, c', rfl⟩ := Kd.R_slice hR
  have h0 := hc 0 _ rfl
  have es : k * kL.sz + 0 = k := by show k * 1 + 0 = k; omega
  rw [es] at h0
  exact ⟨A, c', h0, Kd.R_mono hR (fun _ _ => trivial)⟩
theorem int_cell {W : World} {N g n cap : Nat} {ok : Nat → Prop} {xs : List Int} (h : (Kd.int .i64).R 3 W N ok (.slice (some ⟨g, 0, none⟩) n cap) xs) (k : Nat) (hk : k < n) : W.cell? ⟨g, k, none⟩ = some (.int .i64 (rd xs k)) := by
  have := (Kd.R_celln 0 h (k : Int) (by omega) (by omega)).1
  rwa [Int.toNat_natCast] at this
theorem R42_ne {W : World} {N b : Nat} {cs : Array Value} {A : Option Addr} {n c : Nat} {t : List S42} (h : Kd.R k42 42 W N (fun _ => True) (.slice A n c) t) (hb : W.heap[b]? = some (Obj.cells cs 52 (0, 0))) : ∀ ad, A = some ad → 0 < t.length → ad.block ≠ b := by
  intro ad e h0 e2
  obtain ⟨g, cap, e3, _, _, cs', hc⟩ := Kd.R_form h h0
  injection e3 with e3
  rw [e] at e3; injection e3 with e3
  subst e3
  rw [← e2] at hb
  rw [hc] at hb; cases hb

set_option maxHeartbeats 4000000 in
set_option maxRecDepth 100000 in
theorem LeaseHeld_any (A0 : Option Addr) (c0 : Nat) (first : List Int) (A1 : Option Addr) (c1 : Nat) (l : List S38) (A2 : Option Addr) (c2 : Nat) (sk : List Int) (w : World)
    (hr0 : Kd.C (Kd.int .i64) w A0 first.length first) (hc0 : first.length ≤ c0) (hw0 : ∀ x ∈ first, (Lit.int .i64 x).wf = true)
    (hr1 : Kd.C k38 w A1 l.length l) (hw1 : ∀ x ∈ l, Wf38 x) (hr2 : Kd.C (Kd.int .i64) w A2 sk.length sk) (hw2 : ∀ x ∈ sk, (Lit.int .i64 x).wf = true) :
    Calls Try.prog 7 #[.slice A0 first.length c0, .slice A1 l.length c1, .slice A2 sk.length c2] w fun e w' => e = .returned (.bool true) ∧ Below w.heap.size w w' := by
  have HR1 := Lib.hid hr1
  have HW1 := Lib.hid hw1
  have HR2 := Lib.hid hr2
  have HW2 := Lib.hid hw2
  have HR0 := Lib.hid hr0
  have HC0 := Lib.hid hc0
  have hm := Kd.C_max hr1
  obtain ⟨t0, hraw0, hbin0⟩ := binds_any A0 c0 first hw0
  have HRaw0 := Lib.hid hraw0
  have HBin0 := Lib.hid hbin0
  clear hr0 hr1 hr2 hw1 hw2 hw0 hc0 hraw0 hbin0
  go_enter Try.func7, Try.ntmps7
  go_wp2_with (first
    | (go_at_call 9; refine (awake_any _).mono ?_; rintro e w' ⟨rfl, hB⟩)
    | (go_at_call 16; fail))
  have hB0 : Below w.heap.size w w' := ((Below.refl _ _).alloc (Nat.le_refl _) _).trans (hB.mono (by simp))
  have hs0 : w'.heap[w.heap.size]? = some (Obj.cells #[.slice A2 sk.length c2] 36 (0, 0)) := (hB.block _ (by simp)).trans (heap_alloc_new w _)
  refine (New_b (N := w.heap.size) 0 w' hB0.size).mono ?_
  rintro e w1 ⟨rfl, hK, hb1⟩
  have HK := Lib.hid hK
  have HB1 := Lib.hid (hB0.trans (hb1.mono hB0.size))
  have HS1 := Lib.hid ((hb1.block _ (lt_of_some hs0)).trans hs0)
  have hsz : w.heap.size ≤ w1.heap.size := HB1.out.size
  obtain ⟨b, Hb⟩ : ∃ b, Hid (w'.heap.size = b) := ⟨_, rfl⟩
  rw [Hb.out] at HK ⊢
  obtain ⟨sb, Hsb⟩ : ∃ sb, Hid (w.heap.size = sb) := ⟨_, rfl⟩
  have hsb := Hsb.out
  clear hK hb1 hB hB0 hs0
  go_wp2_with (first | (go_at_call 23; fail))
  refine (HBin0.out _ (Kd.C_below HR0.out HB1.out) HC0.out).mono ?_
  rintro e w2 ⟨v32, rfl, hR32, hb2⟩
  have HR32 := Lib.hid (Kd.R_lower hR32 hsz)
  have HK2 := Lib.hid (HK.out.below hb2)
  have HB2 := Lib.hid (HB1.out.trans (hb2.mono hsz))
  have HS2 := Lib.hid ((hb2.block _ (lt_of_some HS1.out)).trans HS1.out)
  obtain ⟨A8, c8, rfl, hc8, hC8⟩ := Kd.R_reads HR32.out
  clear hC8
  have hsz2 : w.heap.size ≤ w2.heap.size := HB2.out.size
  clear hR32 hb2 hsz HK HS1
  go_wp2_with (first | (go_at_call 34; fail))
  have hal : Below w2.heap.size w2 (w2.alloc (.cells #[.slice A8 t0.length c8] 33)) := (Below.refl _ _).alloc (Nat.le_refl _) _
  have HAl := Lib.hid hal
  have hSk := skew_any sb A2 c2 sk 0 (by omega) (w2.alloc (.cells #[.slice A8 t0.length c8] 33)) HW2.out (Kd.C_below HR2.out (HB2.out.trans (hal.mono hsz2))) (by
    have : (w2.alloc (.cells #[.slice A8 t0.length c8] 33)).heap[sb]? = some (Obj.cells #[.slice A2 sk.length c2] 36 (0, 0)) := by rw [← hsb]; exact (hal.block _ (lt_of_some HS2.out)).trans HS2.out
    simp [World.cell?, this])
  have hr11 : kL.R 33 (w2.alloc (.cells #[.slice A8 t0.length c8] 33)) w.heap.size (fun _ => True) (.slice (some ⟨w2.heap.size, 0, none⟩) 1 1) [t0] :=
    R_one kL 33 t0 [.slice A8 t0.length c8] (fun _ => True) ⟨_, rfl, HR32.out⟩ hsz2
  have HR11 := Lib.hid hr11
  clear hal hr11
  refine hSk.mono ?_
  rintro e w3 ⟨rfl, m, hw3⟩
  have hb3 : Below (w2.alloc (.cells #[.slice A8 t0.length c8] 33)).heap.size (w2.alloc (.cells #[.slice A8 t0.length c8] 33)) w3 := by rw [hw3]; exact pw_below_drewN (Below.refl _ _) m
  have HR3 := Lib.hid (Kd.R_below HR11.out hb3)
  have hbb : Below w2.heap.size w2 w3 := HAl.out.trans (hb3.mono (by simp))
  have HK3 := Lib.hid (HK2.out.below hbb)
  have HB3 := Lib.hid (HB2.out.trans (hbb.mono hsz2))
  have HS3 : Hid (w3.heap[sb]? = some (Obj.cells #[.slice A2 sk.length c2] 36 (0, 0))) := Lib.hid (by rw [← hsb]; exact (hbb.block _ (lt_of_some HS2.out)).trans HS2.out)
  have hsz3 : w.heap.size ≤ w3.heap.size := HB3.out.size
  have hsk0 := skF_bd sk 0
  obtain ⟨s0, HS0⟩ : ∃ s, Hid (skF sk 0 = s) := ⟨_, rfl⟩
  rw [HS0.out] at hsk0 ⊢
  generalize w2.heap.size = g11 at *
  clear hw3 hb3 hbb HAl HR11 HK2 HB2 HS2 hSk hsz2 HR32 hc8 w2
  go_wp2_with (first | (go_at_call 11; refine (Until_any _ _).mono ?_; rintro e w' ⟨rfl, rfl⟩))
  have hbel4 : Below w3.heap.size w3 (w3.alloc (.cells #[.int .i64 (unt s0)] 3)).drew := ((Below.refl _ _).alloc (Nat.le_refl _) _).drew
  have HR4 := Lib.hid (Kd.R_below HR3.out hbel4)
  have HI4 : Hid ((Kd.int .i64).R 3 (w3.alloc (.cells #[.int .i64 (unt s0)] 3)).drew w.heap.size (fun _ => True) (.slice (some ⟨w3.heap.size, 0, none⟩) 1 1) [unt s0]) := Lib.hid (Kd.R_drew (R_one (Kd.int .i64) 3 (unt s0) [.int .i64 (unt s0)] (fun _ => True) rfl hsz3))
  have HK4 := Lib.hid (HK3.out.below hbel4)
  have HB4 := Lib.hid (HB3.out.trans (hbel4.mono hsz3))
  have HS4 : Hid ((w3.alloc (.cells #[.int .i64 (unt s0)] 3)).drew.heap[sb]? = some (Obj.cells #[.slice A2 sk.length c2] 36 (0, 0))) := Lib.hid ((hbel4.block _ (lt_of_some HS3.out)).trans HS3.out)
  obtain ⟨e12, _⟩ := Kd.R_celln 0 HI4.out 0 (by omega) (by omega)
  obtain ⟨A9, c9, e11, hr9⟩ := at_kL HR4.out 0 (by omega)
  have HR9 := Lib.hid hr9
  have e12' : (w3.alloc (.cells #[.int .i64 (unt s0)] 3)).drew.cell? ⟨w3.heap.size, 0, none⟩ = some (.int .i64 (unt s0)) := e12
  have e11' : (w3.alloc (.cells #[.int .i64 (unt s0)] 3)).drew.cell? ⟨g11, 0, none⟩ = some (.slice A9 t0.length c9) := e11
  clear hbel4 hr9 HK3 HB3 HS3 HR3 e12 e11
  refine stl_tail 7 (by kernel_rfl) (by kernel_rfl) rfl rfl ?_
  iterate 7 (refine stl_step (fun K hK => ?_); go_simp; (refine hK _ ?_; clear hK K))
  refine stl_nil ?_
  clear e12' e11'
  generalize (w3.alloc (.cells #[.int .i64 (unt s0)] 3)).drew = w4 at HR4 HI4 HK4 HB4 HS4 HR9 ⊢
  generalize w3.heap.size = g12 at HI4 ⊢
  clear hsz3
  have hsz4 := HB4.out.size
  have HLearn := Lib.hid (Learn_any 0 (unt s0) A9 c9 t0 (Kd.R_reads' HR9.out).2.2 (R42_ne HR9.out HK4.out.box) (HRaw0.out.size) (by have := HRaw0.out.1; omega) hsz4 HK4.out)
  clear hsz4
  go_wp2_with (first | (go_at_call 24; fail))
  refine HLearn.out.mono ?_
  rintro e w5 ⟨rfl, v, m5, hB, hC⟩
  have hsz4 := HB4.out.size
  have HH5 : Hid (HS w b sb (unt 0 + 4) v [⟨0, unt s0, allC t0, m5⟩] (.slice A2 sk.length c2) (.slice (some ⟨g11, 0, none⟩) 1 1) [t0] (.slice (some ⟨g12, 0, none⟩) 1 1) [unt s0] w5) :=
    Lib.hid ⟨hB, HB4.out.trans (hC.below hsz4), hC.block _ _ HS4.out (.inr (by intro h; rcases h with h | h <;> cases h)), R_ch HR4.out hC (fun q hq => by rcases kL_E q hq with rfl | rfl <;> decide), R_ch HI4.out hC (fun q hq => by obtain rfl := kI_E q hq; decide)⟩
  have HPI : Hid (PI 0 0 [t0] [unt s0] 0 [⟨0, unt s0, allC t0, m5⟩]) := Lib.hid (by
    have := PI.start t0 HRaw0.out s0 hsk0 m5
    rwa [Int.zero_add] at this)
  clear hB hC hsz4 HLearn HK4 HB4 HS4 HR4 HI4 HR9
  generalize unt 0 + 4 = tt at HH5
  go_wp2_with fail
  go_loopw [8, 11, 12, 13, 14] (fun i8 i11 i12 i13 i14 wr => ∃ (i : Nat) (now : Int) (has : Nat) (v v11 v12 : Value) (gs : List Gr) (sent : List (List S42)) (un : List Int), i8 = .int .i64 now ∧ i11 = v11 ∧ i12 = v12 ∧ i13 = .int .i64 has ∧ i14 = .int .i64 i ∧ i ≤ l.length ∧ i ≤ 80 ∧ Hid (HS w b sb tt v gs (.slice A2 sk.length c2) v11 sent v12 un wr) ∧ Hid (PI i now sent un has gs)) (fun _ _ _ _ i14 _ => l.length - (intOf i14).toNat)
  case atStart => exact ⟨0, 0, 0, _, _, _, _, _, _, rfl, rfl, rfl, rfl, rfl, Nat.zero_le _, by omega, HH5.out, HPI.out⟩
  case round =>
    clear HH5 HPI hsk0 HS0
    obtain ⟨i, now, has, v, v11, v12, gs, sent, un, rfl, rfl, rfl, rfl, rfl, hi, hi80, HH, HPI⟩ := hrel
    by_cases hlt : i < l.length
    · by_cases h80 : i < 80
      · have hwf := rd38_wf HW1.out i hlt
        obtain ⟨ad, A3, c3, rfl, hx0, hx1, hx2, hx3, hc3, hC3⟩ := at_38 (Kd.C_below HR1.out HH.out.bel) (i : Int) (by omega) (by omega)
        rw [Int.toNat_natCast] at hx0 hx1 hx2 hx3
        obtain ⟨x, HX⟩ : ∃ x, Hid (rd38 l i = x) := ⟨_, rfl⟩
        rw [HX.out] at hx0 hx1 hx2 hx3 hc3 hC3 hwf
        obtain ⟨y0, y1, y2, y3⟩ := x
        obtain ⟨f0, f1, f2, f3⟩ := hwf
        obtain ⟨t, hraw, hbin⟩ := binds_any A3 c3 y3 f3
        have HRaw := Lib.hid hraw
        have ht20 := hraw.1
        have HBin := Lib.hid hbin
        have HC3 := Lib.hid hC3
        have HF0 := Lib.hid (wf_bd f0)
        have HF1 := Lib.hid (wf_bd f1)
        have HF2 := Lib.hid (wf_bd f2)
        clear f0 f1 f2 f3 hraw hbin hC3 HX
        simp only at hx0 hx1 hx2 hx3 hc3 HC3
        obtain ⟨A11, c11, rfl⟩ := Kd.R_slice HH.out.r11
        obtain ⟨A12, c12, rfl⟩ := Kd.R_slice HH.out.r12
        have hpb := pk_bd y0 7 (by omega)
        have hsl := HPI.out.sz
        have HUL := Lib.hid HPI.out.len
        have hunl : un.length ≤ 81 := by have := HUL.out; omega
        have hnow := HPI.out.nw
        go_upto_block 2 with (go_at_call 13; refine (pick_any _ _ _ (by omega) HF0.out).mono ?_; rintro e w' ⟨rfl, rfl⟩)
        obtain ⟨wt, HWt⟩ : ∃ wt, Hid (pk y0 7 = wt) := ⟨_, rfl⟩
        rw [HWt.out] at hpb ⊢
        go_cut [8, 11, 12, 13] (fun s8 s11 s12 s13 wx => ∃ (now : Int) (has : Nat) (v v11 v12 : Value) (gs : List Gr) (sent : List (List S42)) (un : List Int), s8 = .int .i64 now ∧ s11 = v11 ∧ s12 = v12 ∧ s13 = .int .i64 has ∧ Hid (HS w b sb tt v gs (.slice A2 sk.length c2) v11 sent v12 un wx) ∧ Hid (PI (i + 1) now sent un has gs))
        case first =>
          have hb1 : Below wr.heap.size wr (wr.alloc (.cells #[.int .i64 y0, .int .i64 y1, .int .i64 y2, .slice A3 y3.length c3] 38)) := (Below.refl _ _).alloc (Nat.le_refl _) _
          have HH1 := Lib.hid (HH.out.keep hb1)
          have hX : (wr.alloc (.cells #[.int .i64 y0, .int .i64 y1, .int .i64 y2, .slice A3 y3.length c3] 38)).heap[wr.heap.size]? = some (Obj.cells #[.int .i64 y0, .int .i64 y1, .int .i64 y2, .slice A3 y3.length c3] 38 (0, 0)) := heap_alloc_new wr _
          have HC4 := Lib.hid (Kd.C_below HC3.out hb1)
          clear hb1 hx0 hx1 hx2 hx3 HC3 HH
          generalize wr.alloc (.cells #[.int .i64 y0, .int .i64 y1, .int .i64 y2, .slice A3 y3.length c3] 38) = w1 at HH1 hX HC4 ⊢
          have d1 : w1.cell? ⟨wr.heap.size, 1, none⟩ = some (.int .i64 y1) := by simp [World.cell?, hX]
          have d2 : w1.cell? ⟨wr.heap.size, 2, none⟩ = some (.int .i64 y2) := by simp [World.cell?, hX]
          have d3 : w1.cell? ⟨wr.heap.size, 3, none⟩ = some (.slice A3 y3.length c3) := by simp [World.cell?, hX]
          clear hX
          obtain rfl | rfl | rfl | rfl | rfl | rfl | rfl : wt = 0 ∨ wt = 1 ∨ wt = 2 ∨ wt = 3 ∨ wt = 4 ∨ wt = 5 ∨ wt = 6 := by omega
          · go_wp2_with (first | (go_at_call 23; fail))
            refine (HBin.out _ HC4.out hc3).mono ?_
            rintro e w2 ⟨v16, rfl, hR16, hb2⟩
            have HH2 := Lib.hid (HH1.out.keep hb2)
            have HR16 := Lib.hid (Kd.R_lower hR16 HH1.out.bel.size)
            obtain ⟨A16, c16, rfl⟩ := Kd.R_slice HR16.out
            have HA16 : Hid (Kd.R k42 42 w2 w.heap.size (fun k => True ∧ some k ≠ (Value.slice A11 sent.length c11).ownBlock) (.slice A16 t.length c16) t) := Lib.hid (Kd.R_apart' HR16.out (Kd.R_typed HH2.out.r11) (by decide))
            have hN2 := HH2.out.bel.size
            have HN2 := Lib.hid hN2
            clear hR16 hb2 hN2 d1 d2 d3 HH1 HC4
            go_wp2_with (first | (at_builtin; refine Kd.R_append kL (w0 := w) w.heap.size rfl (.tmp 84) (.tmp 86) 46 33 (.slice none 0 0) 24 rfl Try.underlying46 info33 rfl (by decide) (by omega) (.slice A11 sent.length c11) sent t [.slice A16 t.length c16] (fun _ => True) (fun k => True ∧ some k ≠ (Value.slice A11 sent.length c11).ownBlock) rfl rfl ⟨_, rfl, HA16.out⟩ (fun _ h => h) (fun _ _ => trivial) HH2.out.r11 HH2.out.bel HN2.out (by omega) ?_; intro v1 w3 ho3 hb3 hg3 hat3) | (go_at_call 34; fail))
            have HH3 := Lib.hid (HH2.out.app11 ho3 hb3 hg3)
            have HR16' := Lib.hid (R_types_keep HR16.out (fun k cs q hq hk => grown_keep hg3 (Kd.R_typed HH2.out.r11) hk (fun cs e => by
              obtain rfl : q = 42 := (by simpa [k42, Kd.iso, Kd.pair, Kd.int, Kd.string, Kd.scalar] using hq)
              cases e)))
            obtain ⟨A11', c11', hv1⟩ := Kd.R_slice ho3
            rw [List.length_append] at hv1
            subst hv1
            clear ho3 hb3 hg3 hat3 HH2 HR16 HA16 HN2
            refine (skew_any sb A2 c2 sk i (by omega) w3 HW2.out (Kd.C_below HR2.out HH3.out.bel) HH3.out.skc).mono ?_
            rintro e w4 ⟨rfl, m, hw4⟩
            have hb4 : Below w3.heap.size w3 w4 := by rw [hw4]; exact pw_below_drewN (Below.refl _ _) m
            have HH4 := Lib.hid (HH3.out.keep hb4)
            have HR4 := Lib.hid (Kd.R_below HR16'.out hb4)
            have hN4 := HH4.out.bel.size
            have HN4 := Lib.hid hN4
            have hs := skF_bd sk i
            obtain ⟨s, HSk⟩ : ∃ s, Hid (skF sk i = s) := ⟨_, rfl⟩
            rw [HSk.out] at hs ⊢
            clear hw4 hb4 HH3 HR16' hN4
            go_upto_region 24 with (first
              | (go_at_call 11; refine (Until_any _ _).mono ?_; rintro e w' ⟨rfl, rfl⟩)
              | (at_builtin; refine Kd.R_append (Kd.int .i64) (w0 := w) w.heap.size rfl (.tmp 88) (.tmp 95) 36 3 (.int .i64 0) 8 rfl Try.underlying36 info3 rfl (by decide) (by omega) (.slice A12 un.length c12) un (unt (now + s)) [.int .i64 (unt (now + s))] (fun _ => True) (fun _ => False) rfl rfl rfl (fun _ h => h.elim) (fun _ _ => trivial) HH4.out.r12 HH4.out.bel HN4.out (by omega) ?_; intro v2 w5 ho5 hb5 hg5 hat5))
            have HH5 := Lib.hid (HH4.out.app12 ho5 hb5 hg5)
            have HR5 := Lib.hid (R_types_keep HR4.out (fun k cs q hq hk => grown_keep hg5 (Kd.R_typed HH4.out.r12) hk (fun cs e => by
              obtain rfl : q = 42 := (by simpa [k42, Kd.iso, Kd.pair, Kd.int, Kd.string, Kd.scalar] using hq)
              cases e)))
            obtain ⟨g, cap, hv2, _, _, _⟩ := Kd.R_form ho5 (by simp)
            rw [List.length_append] at hv2
            subst hv2
            have hcell := int_cell ho5 sent.length (by rw [HUL.out]; simp)
            have hval : rd (un ++ [unt (now + s)]) (sent.length : Int) = unt (now + s) := by rw [HUL.out]; exact rd_app_eq
            rw [hval] at hcell
            have hlu : (sent.length : Int) < (un.length : Int) + 1 := by rw [HUL.out]; omega
            clear ho5 hb5 hg5 hat5 hval HH4 HR4 HN4
            go_wp2_with (first | (go_at_call 26; fail))
            have hgl : gs.length ≤ 1000000 := by have := HPI.out.gl; omega
            refine (Sent_any (sent.length : Int) (unt (now + s)) A16 c16 t (Kd.R_reads' HR5.out).2.2 (HRaw.out.size) (by omega) hgl HH5.out.bel.size HH5.out.bk).mono ?_
            rintro e w6 ⟨rfl, v', m6, hB, hC⟩
            have HH6 := Lib.hid (HH5.out.ch hB hC)
            have HP6 := Lib.hid (HPI.out.send h80 t HRaw.out s hs m6)
            clear hB hC hgl hlu hcell HH5 HR5
            go_wp2_with fail
            go_meet
            have HH7 := HH6.out
            exact ⟨now, has, v', _, _, _, _, _, rfl, rfl, rfl, rfl, HH6, HP6⟩
          · go_wp2_with (first | (go_at_call 23; fail))
            refine (HBin.out _ HC4.out hc3).mono ?_
            rintro e w2 ⟨v16, rfl, hR16, hb2⟩
            have HH2 := Lib.hid (HH1.out.keep hb2)
            have HR16 := Lib.hid (Kd.R_lower hR16 HH1.out.bel.size)
            obtain ⟨A16, c16, rfl⟩ := Kd.R_slice HR16.out
            have HA16 : Hid (Kd.R k42 42 w2 w.heap.size (fun k => True ∧ some k ≠ (Value.slice A11 sent.length c11).ownBlock) (.slice A16 t.length c16) t) := Lib.hid (Kd.R_apart' HR16.out (Kd.R_typed HH2.out.r11) (by decide))
            have hN2 := HH2.out.bel.size
            have HN2 := Lib.hid hN2
            clear hR16 hb2 hN2 d1 d2 d3 HH1 HC4
            go_wp2_with (first | (at_builtin; refine Kd.R_append kL (w0 := w) w.heap.size rfl (.tmp 84) (.tmp 86) 46 33 (.slice none 0 0) 24 rfl Try.underlying46 info33 rfl (by decide) (by omega) (.slice A11 sent.length c11) sent t [.slice A16 t.length c16] (fun _ => True) (fun k => True ∧ some k ≠ (Value.slice A11 sent.length c11).ownBlock) rfl rfl ⟨_, rfl, HA16.out⟩ (fun _ h => h) (fun _ _ => trivial) HH2.out.r11 HH2.out.bel HN2.out (by omega) ?_; intro v1 w3 ho3 hb3 hg3 hat3) | (go_at_call 34; fail))
            have HH3 := Lib.hid (HH2.out.app11 ho3 hb3 hg3)
            have HR16' := Lib.hid (R_types_keep HR16.out (fun k cs q hq hk => grown_keep hg3 (Kd.R_typed HH2.out.r11) hk (fun cs e => by
              obtain rfl : q = 42 := (by simpa [k42, Kd.iso, Kd.pair, Kd.int, Kd.string, Kd.scalar] using hq)
              cases e)))
            obtain ⟨A11', c11', hv1⟩ := Kd.R_slice ho3
            rw [List.length_append] at hv1
            subst hv1
            clear ho3 hb3 hg3 hat3 HH2 HR16 HA16 HN2
            refine (skew_any sb A2 c2 sk i (by omega) w3 HW2.out (Kd.C_below HR2.out HH3.out.bel) HH3.out.skc).mono ?_
            rintro e w4 ⟨rfl, m, hw4⟩
            have hb4 : Below w3.heap.size w3 w4 := by rw [hw4]; exact pw_below_drewN (Below.refl _ _) m
            have HH4 := Lib.hid (HH3.out.keep hb4)
            have HR4 := Lib.hid (Kd.R_below HR16'.out hb4)
            have hN4 := HH4.out.bel.size
            have HN4 := Lib.hid hN4
            have hs := skF_bd sk i
            obtain ⟨s, HSk⟩ : ∃ s, Hid (skF sk i = s) := ⟨_, rfl⟩
            rw [HSk.out] at hs ⊢
            clear hw4 hb4 HH3 HR16' hN4
            go_upto_region 24 with (first
              | (go_at_call 11; refine (Until_any _ _).mono ?_; rintro e w' ⟨rfl, rfl⟩)
              | (at_builtin; refine Kd.R_append (Kd.int .i64) (w0 := w) w.heap.size rfl (.tmp 88) (.tmp 95) 36 3 (.int .i64 0) 8 rfl Try.underlying36 info3 rfl (by decide) (by omega) (.slice A12 un.length c12) un (unt (now + s)) [.int .i64 (unt (now + s))] (fun _ => True) (fun _ => False) rfl rfl rfl (fun _ h => h.elim) (fun _ _ => trivial) HH4.out.r12 HH4.out.bel HN4.out (by omega) ?_; intro v2 w5 ho5 hb5 hg5 hat5))
            have HH5 := Lib.hid (HH4.out.app12 ho5 hb5 hg5)
            have HR5 := Lib.hid (R_types_keep HR4.out (fun k cs q hq hk => grown_keep hg5 (Kd.R_typed HH4.out.r12) hk (fun cs e => by
              obtain rfl : q = 42 := (by simpa [k42, Kd.iso, Kd.pair, Kd.int, Kd.string, Kd.scalar] using hq)
              cases e)))
            obtain ⟨g, cap, hv2, _, _, _⟩ := Kd.R_form ho5 (by simp)
            rw [List.length_append] at hv2
            subst hv2
            have hcell := int_cell ho5 sent.length (by rw [HUL.out]; simp)
            have hval : rd (un ++ [unt (now + s)]) (sent.length : Int) = unt (now + s) := by rw [HUL.out]; exact rd_app_eq
            rw [hval] at hcell
            have hlu : (sent.length : Int) < (un.length : Int) + 1 := by rw [HUL.out]; omega
            clear ho5 hb5 hg5 hat5 hval HH4 HR4 HN4
            go_wp2_with (first | (go_at_call 26; fail))
            have hgl : gs.length ≤ 1000000 := by have := HPI.out.gl; omega
            refine (Sent_any (sent.length : Int) (unt (now + s)) A16 c16 t (Kd.R_reads' HR5.out).2.2 (HRaw.out.size) (by omega) hgl HH5.out.bel.size HH5.out.bk).mono ?_
            rintro e w6 ⟨rfl, v', m6, hB, hC⟩
            have HH6 := Lib.hid (HH5.out.ch hB hC)
            have HP6 := Lib.hid (HPI.out.send h80 t HRaw.out s hs m6)
            clear hB hC hgl hlu hcell HH5 HR5
            go_wp2_with fail
            go_meet
            have HH7 := HH6.out
            exact ⟨now, has, v', _, _, _, _, _, rfl, rfl, rfl, rfl, HH6, HP6⟩
          · go_wp2_with (first | (go_at_call 23; fail))
            refine (HBin.out _ HC4.out hc3).mono ?_
            rintro e w2 ⟨v16, rfl, hR16, hb2⟩
            have HH2 := Lib.hid (HH1.out.keep hb2)
            have HR16 := Lib.hid (Kd.R_lower hR16 HH1.out.bel.size)
            obtain ⟨A16, c16, rfl⟩ := Kd.R_slice HR16.out
            have HA16 : Hid (Kd.R k42 42 w2 w.heap.size (fun k => True ∧ some k ≠ (Value.slice A11 sent.length c11).ownBlock) (.slice A16 t.length c16) t) := Lib.hid (Kd.R_apart' HR16.out (Kd.R_typed HH2.out.r11) (by decide))
            have hN2 := HH2.out.bel.size
            have HN2 := Lib.hid hN2
            clear hR16 hb2 hN2 d1 d2 d3 HH1 HC4
            go_wp2_with (first | (at_builtin; refine Kd.R_append kL (w0 := w) w.heap.size rfl (.tmp 84) (.tmp 86) 46 33 (.slice none 0 0) 24 rfl Try.underlying46 info33 rfl (by decide) (by omega) (.slice A11 sent.length c11) sent t [.slice A16 t.length c16] (fun _ => True) (fun k => True ∧ some k ≠ (Value.slice A11 sent.length c11).ownBlock) rfl rfl ⟨_, rfl, HA16.out⟩ (fun _ h => h) (fun _ _ => trivial) HH2.out.r11 HH2.out.bel HN2.out (by omega) ?_; intro v1 w3 ho3 hb3 hg3 hat3) | (go_at_call 34; fail))
            have HH3 := Lib.hid (HH2.out.app11 ho3 hb3 hg3)
            have HR16' := Lib.hid (R_types_keep HR16.out (fun k cs q hq hk => grown_keep hg3 (Kd.R_typed HH2.out.r11) hk (fun cs e => by
              obtain rfl : q = 42 := (by simpa [k42, Kd.iso, Kd.pair, Kd.int, Kd.string, Kd.scalar] using hq)
              cases e)))
            obtain ⟨A11', c11', hv1⟩ := Kd.R_slice ho3
            rw [List.length_append] at hv1
            subst hv1
            clear ho3 hb3 hg3 hat3 HH2 HR16 HA16 HN2
            refine (skew_any sb A2 c2 sk i (by omega) w3 HW2.out (Kd.C_below HR2.out HH3.out.bel) HH3.out.skc).mono ?_
            rintro e w4 ⟨rfl, m, hw4⟩
            have hb4 : Below w3.heap.size w3 w4 := by rw [hw4]; exact pw_below_drewN (Below.refl _ _) m
            have HH4 := Lib.hid (HH3.out.keep hb4)
            have HR4 := Lib.hid (Kd.R_below HR16'.out hb4)
            have hN4 := HH4.out.bel.size
            have HN4 := Lib.hid hN4
            have hs := skF_bd sk i
            obtain ⟨s, HSk⟩ : ∃ s, Hid (skF sk i = s) := ⟨_, rfl⟩
            rw [HSk.out] at hs ⊢
            clear hw4 hb4 HH3 HR16' hN4
            go_upto_region 24 with (first
              | (go_at_call 11; refine (Until_any _ _).mono ?_; rintro e w' ⟨rfl, rfl⟩)
              | (at_builtin; refine Kd.R_append (Kd.int .i64) (w0 := w) w.heap.size rfl (.tmp 88) (.tmp 95) 36 3 (.int .i64 0) 8 rfl Try.underlying36 info3 rfl (by decide) (by omega) (.slice A12 un.length c12) un (unt (now + s)) [.int .i64 (unt (now + s))] (fun _ => True) (fun _ => False) rfl rfl rfl (fun _ h => h.elim) (fun _ _ => trivial) HH4.out.r12 HH4.out.bel HN4.out (by omega) ?_; intro v2 w5 ho5 hb5 hg5 hat5))
            have HH5 := Lib.hid (HH4.out.app12 ho5 hb5 hg5)
            have HR5 := Lib.hid (R_types_keep HR4.out (fun k cs q hq hk => grown_keep hg5 (Kd.R_typed HH4.out.r12) hk (fun cs e => by
              obtain rfl : q = 42 := (by simpa [k42, Kd.iso, Kd.pair, Kd.int, Kd.string, Kd.scalar] using hq)
              cases e)))
            obtain ⟨g, cap, hv2, _, _, _⟩ := Kd.R_form ho5 (by simp)
            rw [List.length_append] at hv2
            subst hv2
            have hcell := int_cell ho5 sent.length (by rw [HUL.out]; simp)
            have hval : rd (un ++ [unt (now + s)]) (sent.length : Int) = unt (now + s) := by rw [HUL.out]; exact rd_app_eq
            rw [hval] at hcell
            have hlu : (sent.length : Int) < (un.length : Int) + 1 := by rw [HUL.out]; omega
            clear ho5 hb5 hg5 hat5 hval HH4 HR4 HN4
            go_wp2_with (first | (go_at_call 26; fail))
            have hgl : gs.length ≤ 1000000 := by have := HPI.out.gl; omega
            refine (Sent_any (sent.length : Int) (unt (now + s)) A16 c16 t (Kd.R_reads' HR5.out).2.2 (HRaw.out.size) (by omega) hgl HH5.out.bel.size HH5.out.bk).mono ?_
            rintro e w6 ⟨rfl, v', m6, hB, hC⟩
            have HH6 := Lib.hid (HH5.out.ch hB hC)
            have HP6 := Lib.hid (HPI.out.send h80 t HRaw.out s hs m6)
            clear hB hC hgl hlu hcell HH5 HR5
            go_wp2_with fail
            go_meet
            have HH7 := HH6.out
            exact ⟨now, has, v', _, _, _, _, _, rfl, rfl, rfl, rfl, HH6, HP6⟩
          · have hpk := pk_bd y1 (sent.length : Int) (by have := HPI.out.hs; omega)
            obtain ⟨pn, HPn⟩ : ∃ pn : Nat, Hid (pk y1 (sent.length : Int) = (pn : Int)) := ⟨(pk y1 (sent.length : Int)).toNat, Lib.hid (by omega)⟩
            have HPk : Hid (∀ w, Calls Try.prog 13 #[.int .i64 y1, .int .i64 (sent.length : Int)] w fun e w' => e = .returned (.int .i64 (pn : Int)) ∧ w = w') := Lib.hid (fun w => by
              have := pick_any y1 (sent.length : Int) w (by have := HPI.out.hs; omega) HF1.out
              rwa [HPn.out] at this)
            have hpl : pn < sent.length := by have := HPn.out; omega
            have HP6 := Lib.hid (HPI.out.come pn hpl)
            clear hpk
            by_cases hlt2 : (has : Int) < (pn : Int)
            · rw [show max has pn = pn by omega] at HP6
              go_wp2_with (go_at_call 13; refine (HPk.out _).mono ?_; rintro e w' ⟨rfl, rfl⟩)
              go_meet
              exact ⟨now, pn, v, _, _, _, _, _, rfl, rfl, rfl, rfl, HH1, HP6⟩
            · rw [show max has pn = has by omega] at HP6
              go_wp2_with (go_at_call 13; refine (HPk.out _).mono ?_; rintro e w' ⟨rfl, rfl⟩)
              go_meet
              exact ⟨now, has, v, _, _, _, _, _, rfl, rfl, rfl, rfl, HH1, HP6⟩
          · have hpk := pk_bd y1 (sent.length : Int) (by have := HPI.out.hs; omega)
            obtain ⟨pn, HPn⟩ : ∃ pn : Nat, Hid (pk y1 (sent.length : Int) = (pn : Int)) := ⟨(pk y1 (sent.length : Int)).toNat, Lib.hid (by omega)⟩
            have HPk : Hid (∀ w, Calls Try.prog 13 #[.int .i64 y1, .int .i64 (sent.length : Int)] w fun e w' => e = .returned (.int .i64 (pn : Int)) ∧ w = w') := Lib.hid (fun w => by
              have := pick_any y1 (sent.length : Int) w (by have := HPI.out.hs; omega) HF1.out
              rwa [HPn.out] at this)
            have hpl : pn < sent.length := by have := HPn.out; omega
            have HP6 := Lib.hid (HPI.out.come pn hpl)
            clear hpk
            by_cases hlt2 : (has : Int) < (pn : Int)
            · rw [show max has pn = pn by omega] at HP6
              go_wp2_with (go_at_call 13; refine (HPk.out _).mono ?_; rintro e w' ⟨rfl, rfl⟩)
              go_meet
              exact ⟨now, pn, v, _, _, _, _, _, rfl, rfl, rfl, rfl, HH1, HP6⟩
            · rw [show max has pn = has by omega] at HP6
              go_wp2_with (go_at_call 13; refine (HPk.out _).mono ?_; rintro e w' ⟨rfl, rfl⟩)
              go_meet
              exact ⟨now, has, v, _, _, _, _, _, rfl, rfl, rfl, rfl, HH1, HP6⟩
          · have hhs := HPI.out.hs
            have hpk := pk_bd y1 ((has : Int) + 1) (by omega)
            have HPk : Hid (∀ w, Calls Try.prog 13 #[.int .i64 y1, .int .i64 ((has : Int) + 1)] w fun e w' => e = .returned (.int .i64 (pk y1 ((has : Int) + 1))) ∧ w = w') := Lib.hid (fun w => pick_any y1 ((has : Int) + 1) w (by omega) HF1.out)
            obtain ⟨q, HQ⟩ : ∃ q : Int, Hid (pk y1 ((has : Int) + 1) = q) := ⟨_, rfl⟩
            rw [HQ.out] at HPk hpk
            have HP6 := Lib.hid (HPI.out.ack q (by omega))
            have HAck := Lib.hid (Acked_any q HH1.out.bk)
            clear hpk
            go_wp2_with (first | (go_at_call 13; refine (HPk.out _).mono ?_; rintro e w' ⟨rfl, rfl⟩) | (go_at_call 28; fail))
            refine HAck.out.mono ?_
            rintro e w6 ⟨rfl, ⟨v', hB⟩, hC⟩
            have HH6 := Lib.hid (HH1.out.ch hB hC)
            clear hB hC HAck d1 d2 d3 HC4 HH1
            go_wp2_with fail
            go_meet
            exact ⟨now, has, v', _, _, _, _, _, rfl, rfl, rfl, rfl, HH6, HP6⟩
          · have hpk := pk_bd y2 9 (by omega)
            have HPk : Hid (∀ w, Calls Try.prog 13 #[.int .i64 y2, .int .i64 9] w fun e w' => e = .returned (.int .i64 (pk y2 9)) ∧ w = w') := Lib.hid (fun w => pick_any y2 9 w (by omega) HF2.out)
            obtain ⟨q, HQ⟩ : ∃ q : Int, Hid (pk y2 9 = q) := ⟨_, rfl⟩
            rw [HQ.out] at HPk hpk
            have hs := skF_bd sk i
            have HSk := Lib.hid (skew_any sb A2 c2 sk i (by omega) w1 HW2.out (Kd.C_below HR2.out HH1.out.bel) HH1.out.skc)
            obtain ⟨s, HSe⟩ : ∃ s, Hid (skF sk i = s) := ⟨_, rfl⟩
            rw [HSe.out] at hs HSk
            have HP6 := Lib.hid (HPI.out.pass h80 q s (by omega) hs)
            go_wp2_with (first | (go_at_call 13; refine (HPk.out _).mono ?_; rintro e w' ⟨rfl, rfl⟩) | (go_at_call 34; fail))
            refine HSk.out.mono ?_
            rintro e w4 ⟨rfl, m, hw4⟩
            have hb4 : Below w1.heap.size w1 w4 := by rw [hw4]; exact pw_below_drewN (Below.refl _ _) m
            have HH4 := Lib.hid (HH1.out.keep hb4)
            clear hw4 hb4 HSk d1 d2 d3 HC4
            have HPass := Lib.hid (Pass_any (now + q + s) HH4.out.bk)
            go_wp2_with (first | (go_at_call 18; fail))
            refine HPass.out.mono ?_
            rintro e w6 ⟨rfl, ⟨v', hB⟩, hC⟩
            rw [Bool.false_and] at hB
            have HH6 := Lib.hid (HH4.out.ch hB hC)
            clear hB hC HPass HH4 HH1
            go_wp2_with fail
            go_meet
            exact ⟨now + q, has, v', _, _, _, _, _, rfl, rfl, rfl, rfl, HH6, HP6⟩
        case rest =>
          obtain ⟨now, has, v, v11, v12, gs, sent, un, rfl, rfl, rfl, rfl, HHc, HPc⟩ := hcut
          clear hpb hsl HUL hunl hnow HPI HWt hc3 ht20 HRaw HBin HF0 HF1 HF2 hx0 hx1 hx2 hx3 HC3
          have hhs := HPc.out.hs
          have hul := HPc.out.len
          obtain ⟨g1, cap1, e11, _, hg1, _⟩ := Kd.R_form HHc.out.r11 (by omega)
          obtain ⟨g2, cap2, e12, _, hg2, _⟩ := Kd.R_form HHc.out.r12 (by omega)
          have hhu : (has : Int) < (un.length : Int) := by omega
          have hhz : (has : Int) < (sent.length : Int) := by omega
          have hhu' : has < un.length := by omega
          clear hul
          subst e11 e12
          have hb1 : Below wc.heap.size wc (wc.alloc (.cells #[.string ⟨#[119, 97]⟩, .string ⟨#[119, 98]⟩, .string ⟨#[119, 99]⟩] 9)) := (Below.refl _ _).alloc (Nat.le_refl _) _
          have HH1 := Lib.hid (HHc.out.keep hb1)
          have HNM : Hid ((wc.alloc (.cells #[.string ⟨#[119, 97]⟩, .string ⟨#[119, 98]⟩, .string ⟨#[119, 99]⟩] 9)).heap[wc.heap.size]? = some (Obj.cells nmC 9 (0, 0))) := Lib.hid (heap_alloc_new wc _)
          have HLt : Hid (sb < wc.heap.size + 1 ∧ g2 < wc.heap.size + 1 ∧ g1 < wc.heap.size + 1) := Lib.hid ⟨by have := lt_of_some HHc.out.sbx; omega, by omega, by omega⟩
          have hT := HPc.out.raw _ (rdL_mem hhs)
          obtain ⟨AT, cT, eT, hRT⟩ := at_kL HH1.out.r11 has (by omega)
          have eU := int_cell HH1.out.r12 has (by omega)
          have HCT := Lib.hid (Kd.R_reads' hRT).2.2
          obtain ⟨T, HT⟩ : ∃ T, Hid (rd_L3 sent has = T) := ⟨_, rfl⟩
          rw [HT.out] at hT eT HCT
          have HRawT := Lib.hid hT
          have ht20 := hT.1
          have HE := Lib.hid eT
          have HU := Lib.hid eU
          clear hT hRT eT eU hb1 HHc hg1 hg2
          go_wp2_with fail
          have hsz : (wc.alloc (.cells #[.string ⟨#[119, 97]⟩, .string ⟨#[119, 98]⟩, .string ⟨#[119, 99]⟩] 9)).heap.size = wc.heap.size + 1 := by simp
          generalize wc.alloc (.cells #[.string ⟨#[119, 97]⟩, .string ⟨#[119, 98]⟩, .string ⟨#[119, 99]⟩] 9) = wq at HH1 HNM HCT HE HU hsz ⊢
          have HSz := Lib.hid hsz
          have HLq : Hid (sb < wq.heap.size ∧ g2 < wq.heap.size ∧ g1 < wq.heap.size ∧ wc.heap.size < wq.heap.size) := Lib.hid (by have := HLt.out; omega)
          clear hsz HSz HLt
          generalize wc.heap.size = nm at HNM HLq ⊢
          go_loopw [18] (fun i18 wr => ∃ j : Nat, i18 = .int .i64 j ∧ j ≤ 3 ∧ Hid (Below wq.heap.size wq wr)) (fun i18 _ => 3 - (intOf i18).toNat)
          case atStart => exact ⟨0, rfl, by omega, Below.refl _ _⟩
          case round =>
            obtain ⟨j, rfl, hj, HBr⟩ := hrel
            by_cases hj3 : j < 3
            · have hj3z : (j : Int) < 3 := by omega
              have hj3d : decide ((j : Int) < 3) = true := decide_eq_true hj3z
              go_wp2_with fail
              go_loopw [19, 20] (fun i19 i20 wr => ∃ k : Nat, i20 = .int .i64 k ∧ i19 = .int .i64 (cntK T k (nmK j)) ∧ k ≤ T.length ∧ Hid (Below wq.heap.size wq wr)) (fun _ i20 _ => T.length - (intOf i20).toNat)
              case atStart => exact ⟨0, rfl, rfl, Nat.zero_le _, HBr.out⟩
              case round =>
                clear HBr
                obtain ⟨k, rfl, rfl, hk, HBr⟩ := hrel
                have eT : wr.cell? ⟨g1, has, none⟩ = some (.slice AT T.length cT) := (HBr.out.cell (p := ⟨g1, has, none⟩) HLq.out.2.2.1).trans HE.out
                by_cases hkt : k < T.length
                · go_wp2_with fail
                  have HBd := Lib.hid HBr.out.drew
                  have eT' : wr.drew.cell? ⟨g1, has, none⟩ = some (.slice AT T.length cT) := eT
                  have eN' : wr.drew.cell? ⟨nm, j, none⟩ = some (.string (nmK j)) := by
                    refine (HBd.out.cell (p := ⟨nm, j, none⟩) HLq.out.2.2.2).trans ?_
                    simp only [World.cell?, HNM.out]
                    match j, hj3 with
                    | 0, _ => rfl
                    | 1, _ => rfl
                    | 2, _ => rfl
                  obtain ⟨adT, rfl, z0, z1, z2⟩ := at_T42 (Kd.C_below HCT.out HBd.out) (k : Int) (by omega) (by omega)
                  rw [Int.toNat_natCast] at z0 z1 z2
                  have hnum := HRawT.out.num hkt
                  have hcb := cntK_bd T k (nmK j)
                  clear eT HBr
                  refine stl_tail 12 (by kernel_rfl) (by kernel_rfl) rfl rfl ?_
                  iterate 12 (refine stl_step (fun K hK => ?_); go_simp; (refine hK _ ?_; clear hK K))
                  refine stl_nil ?_
                  generalize wr.drew = w8 at HBd eT' eN' z0 z1 z2 ⊢
                  by_cases heq : (rd_T42 T k).f0 = nmK j
                  · have hbq : ((rd_T42 T k).f0.toList == (nmK j).toList) = true := beq_iff_eq.2 (toList_inj.2 heq)
                    have HN : Hid (cntK T (k + 1) (nmK j) = cntK T k (nmK j) + (rd_T42 T k).f2) := Lib.hid (by
                      show (if nmK j = (rd_T42 T k).f0 then cntK T k (nmK j) + num (rd_T42 T k).f2 else _) = _
                      rw [if_pos heq.symm, hnum.1])
                    obtain ⟨hn1, hn2, hn3⟩ := hnum
                    clear hn1
                    go_wp2_with fail
                    go_roundw
                    case rel => exact ⟨k + 1, by go_num, by rw [HN.out], by omega, HBd.out⟩
                    case measure => simp [intOf]; omega
                  · have hbq : ((rd_T42 T k).f0.toList == (nmK j).toList) = false := beq_eq_false_iff_ne.2 (fun e => heq (toList_inj.1 e))
                    have HN : Hid (cntK T (k + 1) (nmK j) = cntK T k (nmK j)) := Lib.hid (by
                      show (if nmK j = (rd_T42 T k).f0 then _ else cntK T k (nmK j)) = _
                      rw [if_neg (fun e => heq e.symm)])
                    clear hnum
                    go_wp2_with fail
                    go_roundw
                    case rel => exact ⟨k + 1, by go_num, by rw [HN.out], by omega, HBd.out⟩
                    case measure => simp [intOf]; omega
                · obtain rfl : k = T.length := by omega
                  go_wp2_with fail
                  have hs := skF_bd sk ((i : Int) + 1)
                  obtain ⟨s, HSe⟩ : ∃ s, Hid (skF sk ((i : Int) + 1) = s) := ⟨_, rfl⟩
                  rw [HSe.out] at hs
                  have hnow := HPc.out.nw
                  have HBd := Lib.hid HBr.out.drew
                  have HH8 := Lib.hid (HH1.out.keep HBd.out)
                  have u1 : wr.drew.cell? ⟨g2, has, none⟩ = some (.int .i64 (rd un has)) := (HBd.out.cell (p := ⟨g2, has, none⟩) HLq.out.2.1).trans HU.out
                  have u2 : wr.drew.cell? ⟨nm, j, none⟩ = some (.string (nmK j)) := by
                    refine (HBd.out.cell (p := ⟨nm, j, none⟩) HLq.out.2.2.2).trans ?_
                    simp only [World.cell?, HNM.out]
                    match j, hj3 with
                    | 0, _ => rfl
                    | 1, _ => rfl
                    | 2, _ => rfl
                  have u3 : wr.drew.cell? ⟨sb, 0, none⟩ = some (.slice A2 sk.length c2) := HH8.out.skc
                  have HSk := Lib.hid (skew_any sb A2 c2 sk ((i : Int) + 1) (by omega) wr.drew HW2.out (Kd.C_below HR2.out HH8.out.bel) HH8.out.skc)
                  rw [HSe.out] at HSk
                  have HLt : Hid (sb < wr.drew.heap.size ∧ g2 < wr.drew.heap.size ∧ nm < wr.drew.heap.size) := Lib.hid (by have := HLq.out; have := HBd.out.size; omega)
                  clear eT HBr
                  have HW3 : Hid (wrap64 ((i : Int) + 1) = (i : Int) + 1) := Lib.hid (w64 (by omega) (by omega))
                  have HW5 : Hid (wrap64 (now + s) = now + s) := Lib.hid (w64 (by omega) (by omega))
                  cases hh : hld (now + s) (rd un has)
                  · refine start_ (n := 21) (S := fun w' => w'.cell? ⟨g2, has, none⟩ = some (.int .i64 (rd un has)) ∧ w'.cell? ⟨nm, j, none⟩ = some (.string (nmK j)) ∧ w'.cell? ⟨sb, 0, none⟩ = some (.slice A2 sk.length c2) ∧ True) (ds := [17]) #[false, false, false, false, false, false, false, false, false, false, false, false, false, false, false, false, false, false, false, false, false] (by kernel_rfl) rfl rfl ⟨u1, u2, u3, trivial⟩ (fun hHeld => ?_)
                    clear u1 u2 u3
                    generalize wr.drew = w8 at HBd HH8 hHeld HSk HLt ⊢
                    refine pure_ (i := 0) (N := (some 165)) (v := ?_) (a' := ?_) #[true, false, false, false, false, false, false, false, false, false, false, false, false, false, false, false, false, false, false, false, false] rfl rfl (by kernel_rfl) (fun _ _ _ h => h) (Or.inl ⟨by rfl, ?_⟩) ?_ ?_
                    rotate_left
                    · intro w'
                      go_simp
                      with_reducible rfl
                    rotate_left
                    · simp only [Act.put, List.setIfInBounds_toArray, List.set_cons_zero, List.set_cons_succ, i64_w, i32_w]
                      rfl
                    refine pure_ (i := 1) (N := (some 166)) (v := ?_) (a' := ?_) #[true, true, false, false, false, false, false, false, false, false, false, false, false, false, false, false, false, false, false, false, false] rfl rfl (by kernel_rfl) (fun _ _ _ h => h) (Or.inl ⟨by rfl, ?_⟩) ?_ ?_
                    rotate_left
                    · intro w'
                      go_simp
                      with_reducible rfl
                    rotate_left
                    · simp only [Act.put, List.setIfInBounds_toArray, List.set_cons_zero, List.set_cons_succ, i64_w, i32_w]
                      rfl
                    refine pure_ (i := 2) (N := (some 167)) (v := ?_) (a' := ?_) #[true, true, true, false, false, false, false, false, false, false, false, false, false, false, false, false, false, false, false, false, false] rfl rfl (by kernel_rfl) (fun _ _ _ h => h) (Or.inl ⟨by rfl, ?_⟩) ?_ ?_
                    rotate_left
                    · intro w'
                      go_simp
                      with_reducible rfl
                    rotate_left
                    · simp only [Act.put, List.setIfInBounds_toArray, List.set_cons_zero, List.set_cons_succ, i64_w, i32_w]
                      rfl
                    refine pure_ (i := 3) (N := (some 168)) (v := ?_) (a' := ?_) #[true, true, true, true, false, false, false, false, false, false, false, false, false, false, false, false, false, false, false, false, false] rfl rfl (by kernel_rfl) (fun _ _ _ h => h) (Or.inl ⟨by rfl, ?_⟩) ?_ ?_
                    rotate_left
                    · intro w'
                      go_simp
                      with_reducible rfl
                    rotate_left
                    · simp only [Act.put, List.setIfInBounds_toArray, List.set_cons_zero, List.set_cons_succ, i64_w, i32_w]
                      rfl
                    rw [HW3.out]
                    refine pure_ (i := 6) (N := (some 171)) (v := ?_) (a' := ?_) #[true, true, true, true, false, false, true, false, false, false, false, false, false, false, false, false, false, false, false, false, false] rfl rfl (by kernel_rfl) (fun _ _ _ h => h) (Or.inl ⟨by rfl, ?_⟩) ?_ ?_
                    rotate_left
                    · intro w'
                      go_simp
                      with_reducible rfl
                    rotate_left
                    · simp only [Act.put, List.setIfInBounds_toArray, List.set_cons_zero, List.set_cons_succ, i64_w, i32_w]
                      rfl
                    refine pure_ (i := 7) (N := (some 172)) (v := ?_) (a' := ?_) #[true, true, true, true, false, false, true, true, false, false, false, false, false, false, false, false, false, false, false, false, false] rfl rfl (by kernel_rfl) (fun _ _ _ h => h) (Or.inl ⟨by rfl, ?_⟩) ?_ ?_
                    rotate_left
                    · intro w'
                      go_simp
                      with_reducible rfl
                    rotate_left
                    · simp only [Act.put, List.setIfInBounds_toArray, List.set_cons_zero, List.set_cons_succ, i64_w, i32_w]
                      rfl
                    refine pure_ (i := 8) (N := (some 173)) (v := ?_) (a' := ?_) #[true, true, true, true, false, false, true, true, true, false, false, false, false, false, false, false, false, false, false, false, false] rfl rfl (by kernel_rfl) (fun _ _ _ h => h) (Or.inl ⟨by rfl, ?_⟩) ?_ ?_
                    rotate_left
                    · intro w'
                      go_simp
                      with_reducible rfl
                    rotate_left
                    · simp only [Act.put, List.setIfInBounds_toArray, List.set_cons_zero, List.set_cons_succ, i64_w, i32_w]
                      rfl
                    refine take_ (i := 9) (N := (some 174)) (v := ?_) (a' := ?_) #[true, true, true, true, false, false, true, true, true, true, false, false, false, false, false, false, false, false, false, false, false] rfl rfl (by kernel_rfl) (fun _ _ _ h => h) (Or.inl ⟨by rfl, ?_⟩) hHeld ?_ ?_
                    rotate_left
                    · rintro w' ⟨e0, e1, e2, e3⟩
                      go_simp
                      with_reducible rfl
                    rotate_left
                    · simp only [Act.put, List.setIfInBounds_toArray, List.set_cons_zero, List.set_cons_succ, i64_w, i32_w]
                      rfl
                    refine one_ (i := 4) (N := (some 169)) #[true, true, true, true, true, false, true, true, true, true, false, false, false, false, false, false, false, false, false, false, false] rfl rfl (by kernel_rfl) (by decide) (fun K hK => ?_)
                    refine call_ 34 #[.int .i64 ((i : Int) + 1), .pointer (some ⟨sb, 0, none⟩)] (by rfl) rfl (by go_simp; first | done | rfl) ?_
                    refine HSk.out.mono ?_
                    rintro e w9 ⟨rfl, m9, hw9⟩
                    have hb9 : Below w8.heap.size w8 w9 := by rw [hw9]; exact pw_below_drewN (Below.refl _ _) m9
                    have HB9 := Lib.hid hb9
                    clear hb9 hw9
                    refine ⟨_, rfl, hK.out _ _ ?_ (fun _ => ?_)⟩
                    · exact ⟨(HB9.out.cell (HLt.out.2.1)).trans hHeld.1, (HB9.out.cell HLt.out.2.2).trans hHeld.2.1, (HB9.out.cell HLt.out.1).trans hHeld.2.2.1, trivial⟩
                    clear hK K
                    refine norm_ (a' := ?_) ?_ ?_
                    rotate_left
                    · show Act.put _ (some 169) _ = _
                      simp only [Act.put, List.setIfInBounds_toArray, List.set_cons_zero, List.set_cons_succ, i64_w, i32_w]
                      rfl
                    have hHeld : (fun w' : World => w'.cell? ⟨g2, has, none⟩ = some (.int .i64 (rd un has)) ∧ w'.cell? ⟨nm, j, none⟩ = some (.string (nmK j)) ∧ w'.cell? ⟨sb, 0, none⟩ = some (.slice A2 sk.length c2) ∧ True) w9 := ⟨(HB9.out.cell (HLt.out.2.1)).trans hHeld.1, (HB9.out.cell HLt.out.2.2).trans hHeld.2.1, (HB9.out.cell HLt.out.1).trans hHeld.2.2.1, trivial⟩
                    refine pure_ (i := 5) (N := (some 170)) (v := ?_) (a' := ?_) #[true, true, true, true, true, true, true, true, true, true, false, false, false, false, false, false, false, false, false, false, false] rfl rfl (by kernel_rfl) (fun _ _ _ h => h) (Or.inl ⟨by rfl, ?_⟩) ?_ ?_
                    rotate_left
                    · intro w'
                      go_simp
                      with_reducible rfl
                    rotate_left
                    · simp only [Act.put, List.setIfInBounds_toArray, List.set_cons_zero, List.set_cons_succ, i64_w, i32_w]
                      rfl
                    rw [HW5.out]
                    refine one_ (i := 10) (N := (some 175)) #[true, true, true, true, true, true, true, true, true, true, true, false, false, false, false, false, false, false, false, false, false] rfl rfl (by kernel_rfl) (by decide) (fun K hK => ?_)
                    refine call_ 15 #[.int .i64 (now + s), .int .i64 (rd un has)] (by rfl) rfl (by go_simp; first | done | rfl) ?_
                    refine (Holds_any _ _ _).mono ?_
                    rintro e w' ⟨rfl, rfl⟩
                    rw [hh]
                    refine ⟨_, rfl, hK.out _ _ ?_ (fun _ => ?_)⟩
                    · exact hHeld
                    clear hK K
                    refine norm_ (a' := ?_) ?_ ?_
                    rotate_left
                    · show Act.put _ (some 175) _ = _
                      simp only [Act.put, List.setIfInBounds_toArray, List.set_cons_zero, List.set_cons_succ, i64_w, i32_w]
                      rfl
                    refine pure_ (i := 11) (N := (some 176)) (v := ?_) (a' := ?_) #[true, true, true, true, true, true, true, true, true, true, true, true, false, false, false, false, false, false, false, false, false] rfl rfl (by kernel_rfl) (fun _ _ _ h => h) (Or.inl ⟨by rfl, ?_⟩) ?_ ?_
                    rotate_left
                    · intro w'
                      go_simp
                      with_reducible rfl
                    rotate_left
                    · simp only [Act.put, List.setIfInBounds_toArray, List.set_cons_zero, List.set_cons_succ, i64_w, i32_w]
                      rfl
                    refine pure_ (i := 12) (N := (some 177)) (v := undef) (a' := ?_) #[true, true, true, true, true, true, true, true, true, true, true, true, true, false, false, false, false, false, false, false, false] rfl rfl (by kernel_rfl) (fun _ _ _ h => h) (Or.inr ⟨by rfl, rfl⟩) ?_ ?_
                    rotate_left
                    · simp only [Act.put, List.setIfInBounds_toArray, List.set_cons_zero, List.set_cons_succ, i64_w, i32_w]
                      rfl
                    refine pure_ (i := 13) (N := (some 178)) (v := undef) (a' := ?_) #[true, true, true, true, true, true, true, true, true, true, true, true, true, true, false, false, false, false, false, false, false] rfl rfl (by kernel_rfl) (fun _ _ _ h => h) (Or.inr ⟨by rfl, rfl⟩) ?_ ?_
                    rotate_left
                    · simp only [Act.put, List.setIfInBounds_toArray, List.set_cons_zero, List.set_cons_succ, i64_w, i32_w]
                      rfl
                    refine pure_ (i := 14) (N := (some 179)) (v := undef) (a' := ?_) #[true, true, true, true, true, true, true, true, true, true, true, true, true, true, true, false, false, false, false, false, false] rfl rfl (by kernel_rfl) (fun _ _ _ h => h) (Or.inr ⟨by rfl, rfl⟩) ?_ ?_
                    rotate_left
                    · simp only [Act.put, List.setIfInBounds_toArray, List.set_cons_zero, List.set_cons_succ, i64_w, i32_w]
                      rfl
                    refine pure_ (i := 15) (N := (some 180)) (v := undef) (a' := ?_) #[true, true, true, true, true, true, true, true, true, true, true, true, true, true, true, true, false, false, false, false, false] rfl rfl (by kernel_rfl) (fun _ _ _ h => h) (Or.inr ⟨by rfl, rfl⟩) ?_ ?_
                    rotate_left
                    · simp only [Act.put, List.setIfInBounds_toArray, List.set_cons_zero, List.set_cons_succ, i64_w, i32_w]
                      rfl
                    refine pure_ (i := 16) (N := (some 181)) (v := undef) (a' := ?_) #[true, true, true, true, true, true, true, true, true, true, true, true, true, true, true, true, true, false, false, false, false] rfl rfl (by kernel_rfl) (fun _ _ _ h => h) (Or.inr ⟨by rfl, rfl⟩) ?_ ?_
                    rotate_left
                    · simp only [Act.put, List.setIfInBounds_toArray, List.set_cons_zero, List.set_cons_succ, i64_w, i32_w]
                      rfl
                    refine pure_ (i := 17) (N := (some 182)) (v := undef) (a' := ?_) #[true, true, true, true, true, true, true, true, true, true, true, true, true, true, true, true, true, true, false, false, false] rfl rfl (by kernel_rfl) (fun _ _ _ h => h) (Or.inr ⟨by rfl, rfl⟩) ?_ ?_
                    rotate_left
                    · simp only [Act.put, List.setIfInBounds_toArray, List.set_cons_zero, List.set_cons_succ, i64_w, i32_w]
                      rfl
                    refine pure_ (i := 18) (N := (some 183)) (v := undef) (a' := ?_) #[true, true, true, true, true, true, true, true, true, true, true, true, true, true, true, true, true, true, true, false, false] rfl rfl (by kernel_rfl) (fun _ _ _ h => h) (Or.inr ⟨by rfl, rfl⟩) ?_ ?_
                    rotate_left
                    · simp only [Act.put, List.setIfInBounds_toArray, List.set_cons_zero, List.set_cons_succ, i64_w, i32_w]
                      rfl
                    refine pure_ (i := 19) (N := (some 184)) (v := undef) (a' := ?_) #[true, true, true, true, true, true, true, true, true, true, true, true, true, true, true, true, true, true, true, true, false] rfl rfl (by kernel_rfl) (fun _ _ _ h => h) (Or.inr ⟨by rfl, rfl⟩) ?_ ?_
                    rotate_left
                    · simp only [Act.put, List.setIfInBounds_toArray, List.set_cons_zero, List.set_cons_succ, i64_w, i32_w]
                      rfl
                    refine pure_ (i := 20) (N := (some 185)) (v := ?_) (a' := ?_) #[true, true, true, true, true, true, true, true, true, true, true, true, true, true, true, true, true, true, true, true, true] rfl rfl (by kernel_rfl) (fun _ _ _ h => h) (Or.inl ⟨by rfl, ?_⟩) ?_ ?_
                    rotate_left
                    · intro w'
                      go_simp
                      with_reducible rfl
                    rotate_left
                    · simp only [Act.put, List.setIfInBounds_toArray, List.set_cons_zero, List.set_cons_succ, i64_w, i32_w]
                      rfl
                    refine done_ (by kernel_rfl) ?_
                    go_wp2_with fail
                    go_roundw
                    case rel => exact ⟨j + 1, by go_num, by omega, HBd.out.trans (HB9.out.mono HBd.out.size)⟩
                    case measure => simp [intOf]; omega
                  · have hle : ¬ heldB false gs (nmK j) < cntK T T.length (nmK j) := by
                      have := HPc.out.holds (by omega) s hs hh (nmK j)
                      rw [HT.out] at this
                      unfold allC at this
                      omega
                    have hd : decide (heldB false gs (nmK j) < cntK T T.length (nmK j)) = false := decide_eq_false hle
                    refine start_ (n := 21) (S := fun w' => w'.cell? ⟨g2, has, none⟩ = some (.int .i64 (rd un has)) ∧ w'.cell? ⟨nm, j, none⟩ = some (.string (nmK j)) ∧ w'.cell? ⟨sb, 0, none⟩ = some (.slice A2 sk.length c2) ∧ True) (ds := [17]) #[false, false, false, false, false, false, false, false, false, false, false, false, false, false, false, false, false, false, false, false, false] (by kernel_rfl) rfl rfl ⟨u1, u2, u3, trivial⟩ (fun hHeld => ?_)
                    clear u1 u2 u3
                    generalize wr.drew = w8 at HBd HH8 hHeld HSk HLt ⊢
                    refine pure_ (i := 0) (N := (some 165)) (v := ?_) (a' := ?_) #[true, false, false, false, false, false, false, false, false, false, false, false, false, false, false, false, false, false, false, false, false] rfl rfl (by kernel_rfl) (fun _ _ _ h => h) (Or.inl ⟨by rfl, ?_⟩) ?_ ?_
                    rotate_left
                    · intro w'
                      go_simp
                      with_reducible rfl
                    rotate_left
                    · simp only [Act.put, List.setIfInBounds_toArray, List.set_cons_zero, List.set_cons_succ, i64_w, i32_w]
                      rfl
                    refine pure_ (i := 1) (N := (some 166)) (v := ?_) (a' := ?_) #[true, true, false, false, false, false, false, false, false, false, false, false, false, false, false, false, false, false, false, false, false] rfl rfl (by kernel_rfl) (fun _ _ _ h => h) (Or.inl ⟨by rfl, ?_⟩) ?_ ?_
                    rotate_left
                    · intro w'
                      go_simp
                      with_reducible rfl
                    rotate_left
                    · simp only [Act.put, List.setIfInBounds_toArray, List.set_cons_zero, List.set_cons_succ, i64_w, i32_w]
                      rfl
                    refine pure_ (i := 2) (N := (some 167)) (v := ?_) (a' := ?_) #[true, true, true, false, false, false, false, false, false, false, false, false, false, false, false, false, false, false, false, false, false] rfl rfl (by kernel_rfl) (fun _ _ _ h => h) (Or.inl ⟨by rfl, ?_⟩) ?_ ?_
                    rotate_left
                    · intro w'
                      go_simp
                      with_reducible rfl
                    rotate_left
                    · simp only [Act.put, List.setIfInBounds_toArray, List.set_cons_zero, List.set_cons_succ, i64_w, i32_w]
                      rfl
                    refine pure_ (i := 3) (N := (some 168)) (v := ?_) (a' := ?_) #[true, true, true, true, false, false, false, false, false, false, false, false, false, false, false, false, false, false, false, false, false] rfl rfl (by kernel_rfl) (fun _ _ _ h => h) (Or.inl ⟨by rfl, ?_⟩) ?_ ?_
                    rotate_left
                    · intro w'
                      go_simp
                      with_reducible rfl
                    rotate_left
                    · simp only [Act.put, List.setIfInBounds_toArray, List.set_cons_zero, List.set_cons_succ, i64_w, i32_w]
                      rfl
                    rw [HW3.out]
                    refine pure_ (i := 6) (N := (some 171)) (v := ?_) (a' := ?_) #[true, true, true, true, false, false, true, false, false, false, false, false, false, false, false, false, false, false, false, false, false] rfl rfl (by kernel_rfl) (fun _ _ _ h => h) (Or.inl ⟨by rfl, ?_⟩) ?_ ?_
                    rotate_left
                    · intro w'
                      go_simp
                      with_reducible rfl
                    rotate_left
                    · simp only [Act.put, List.setIfInBounds_toArray, List.set_cons_zero, List.set_cons_succ, i64_w, i32_w]
                      rfl
                    refine pure_ (i := 7) (N := (some 172)) (v := ?_) (a' := ?_) #[true, true, true, true, false, false, true, true, false, false, false, false, false, false, false, false, false, false, false, false, false] rfl rfl (by kernel_rfl) (fun _ _ _ h => h) (Or.inl ⟨by rfl, ?_⟩) ?_ ?_
                    rotate_left
                    · intro w'
                      go_simp
                      with_reducible rfl
                    rotate_left
                    · simp only [Act.put, List.setIfInBounds_toArray, List.set_cons_zero, List.set_cons_succ, i64_w, i32_w]
                      rfl
                    refine pure_ (i := 8) (N := (some 173)) (v := ?_) (a' := ?_) #[true, true, true, true, false, false, true, true, true, false, false, false, false, false, false, false, false, false, false, false, false] rfl rfl (by kernel_rfl) (fun _ _ _ h => h) (Or.inl ⟨by rfl, ?_⟩) ?_ ?_
                    rotate_left
                    · intro w'
                      go_simp
                      with_reducible rfl
                    rotate_left
                    · simp only [Act.put, List.setIfInBounds_toArray, List.set_cons_zero, List.set_cons_succ, i64_w, i32_w]
                      rfl
                    refine take_ (i := 9) (N := (some 174)) (v := ?_) (a' := ?_) #[true, true, true, true, false, false, true, true, true, true, false, false, false, false, false, false, false, false, false, false, false] rfl rfl (by kernel_rfl) (fun _ _ _ h => h) (Or.inl ⟨by rfl, ?_⟩) hHeld ?_ ?_
                    rotate_left
                    · rintro w' ⟨e0, e1, e2, e3⟩
                      go_simp
                      with_reducible rfl
                    rotate_left
                    · simp only [Act.put, List.setIfInBounds_toArray, List.set_cons_zero, List.set_cons_succ, i64_w, i32_w]
                      rfl
                    refine one_ (i := 4) (N := (some 169)) #[true, true, true, true, true, false, true, true, true, true, false, false, false, false, false, false, false, false, false, false, false] rfl rfl (by kernel_rfl) (by decide) (fun K hK => ?_)
                    refine call_ 34 #[.int .i64 ((i : Int) + 1), .pointer (some ⟨sb, 0, none⟩)] (by rfl) rfl (by go_simp; first | done | rfl) ?_
                    refine HSk.out.mono ?_
                    rintro e w9 ⟨rfl, m9, hw9⟩
                    have hb9 : Below w8.heap.size w8 w9 := by rw [hw9]; exact pw_below_drewN (Below.refl _ _) m9
                    have HB9 := Lib.hid hb9
                    clear hb9 hw9
                    refine ⟨_, rfl, hK.out _ _ ?_ (fun _ => ?_)⟩
                    · exact ⟨(HB9.out.cell (HLt.out.2.1)).trans hHeld.1, (HB9.out.cell HLt.out.2.2).trans hHeld.2.1, (HB9.out.cell HLt.out.1).trans hHeld.2.2.1, trivial⟩
                    clear hK K
                    refine norm_ (a' := ?_) ?_ ?_
                    rotate_left
                    · show Act.put _ (some 169) _ = _
                      simp only [Act.put, List.setIfInBounds_toArray, List.set_cons_zero, List.set_cons_succ, i64_w, i32_w]
                      rfl
                    have hHeld : (fun w' : World => w'.cell? ⟨g2, has, none⟩ = some (.int .i64 (rd un has)) ∧ w'.cell? ⟨nm, j, none⟩ = some (.string (nmK j)) ∧ w'.cell? ⟨sb, 0, none⟩ = some (.slice A2 sk.length c2) ∧ True) w9 := ⟨(HB9.out.cell (HLt.out.2.1)).trans hHeld.1, (HB9.out.cell HLt.out.2.2).trans hHeld.2.1, (HB9.out.cell HLt.out.1).trans hHeld.2.2.1, trivial⟩
                    refine pure_ (i := 5) (N := (some 170)) (v := ?_) (a' := ?_) #[true, true, true, true, true, true, true, true, true, true, false, false, false, false, false, false, false, false, false, false, false] rfl rfl (by kernel_rfl) (fun _ _ _ h => h) (Or.inl ⟨by rfl, ?_⟩) ?_ ?_
                    rotate_left
                    · intro w'
                      go_simp
                      with_reducible rfl
                    rotate_left
                    · simp only [Act.put, List.setIfInBounds_toArray, List.set_cons_zero, List.set_cons_succ, i64_w, i32_w]
                      rfl
                    rw [HW5.out]
                    refine one_ (i := 10) (N := (some 175)) #[true, true, true, true, true, true, true, true, true, true, true, false, false, false, false, false, false, false, false, false, false] rfl rfl (by kernel_rfl) (by decide) (fun K hK => ?_)
                    refine call_ 15 #[.int .i64 (now + s), .int .i64 (rd un has)] (by rfl) rfl (by go_simp; first | done | rfl) ?_
                    refine (Holds_any _ _ _).mono ?_
                    rintro e w' ⟨rfl, rfl⟩
                    rw [hh]
                    refine ⟨_, rfl, hK.out _ _ ?_ (fun _ => ?_)⟩
                    · exact hHeld
                    clear hK K
                    refine norm_ (a' := ?_) ?_ ?_
                    rotate_left
                    · show Act.put _ (some 175) _ = _
                      simp only [Act.put, List.setIfInBounds_toArray, List.set_cons_zero, List.set_cons_succ, i64_w, i32_w]
                      rfl
                    refine pure_ (i := 11) (N := (some 176)) (v := ?_) (a' := ?_) #[true, true, true, true, true, true, true, true, true, true, true, true, false, false, false, false, false, false, false, false, false] rfl rfl (by kernel_rfl) (fun _ _ _ h => h) (Or.inl ⟨by rfl, ?_⟩) ?_ ?_
                    rotate_left
                    · intro w'
                      go_simp
                      with_reducible rfl
                    rotate_left
                    · simp only [Act.put, List.setIfInBounds_toArray, List.set_cons_zero, List.set_cons_succ, i64_w, i32_w]
                      rfl
                    refine pure_ (i := 12) (N := (some 177)) (v := ?_) (a' := ?_) #[true, true, true, true, true, true, true, true, true, true, true, true, true, false, false, false, false, false, false, false, false] rfl rfl (by kernel_rfl) (fun _ _ _ h => h) (Or.inl ⟨by rfl, ?_⟩) ?_ ?_
                    rotate_left
                    · intro w'
                      go_simp
                      with_reducible rfl
                    rotate_left
                    · simp only [Act.put, List.setIfInBounds_toArray, List.set_cons_zero, List.set_cons_succ, i64_w, i32_w]
                      rfl
                    refine pure_ (i := 13) (N := (some 178)) (v := ?_) (a' := ?_) #[true, true, true, true, true, true, true, true, true, true, true, true, true, true, false, false, false, false, false, false, false] rfl rfl (by kernel_rfl) (fun _ _ _ h => h) (Or.inl ⟨by rfl, ?_⟩) ?_ ?_
                    rotate_left
                    · intro w'
                      go_simp
                      with_reducible rfl
                    rotate_left
                    · simp only [Act.put, List.setIfInBounds_toArray, List.set_cons_zero, List.set_cons_succ, i64_w, i32_w]
                      rfl
                    refine pure_ (i := 14) (N := (some 179)) (v := ?_) (a' := ?_) #[true, true, true, true, true, true, true, true, true, true, true, true, true, true, true, false, false, false, false, false, false] rfl rfl (by kernel_rfl) (fun _ _ _ h => h) (Or.inl ⟨by rfl, ?_⟩) ?_ ?_
                    rotate_left
                    · intro w'
                      go_simp
                      with_reducible rfl
                    rotate_left
                    · simp only [Act.put, List.setIfInBounds_toArray, List.set_cons_zero, List.set_cons_succ, i64_w, i32_w]
                      rfl
                    refine pure_ (i := 15) (N := (some 180)) (v := ?_) (a' := ?_) #[true, true, true, true, true, true, true, true, true, true, true, true, true, true, true, true, false, false, false, false, false] rfl rfl (by kernel_rfl) (fun _ _ _ h => h) (Or.inl ⟨by rfl, ?_⟩) ?_ ?_
                    rotate_left
                    · intro w'
                      go_simp
                      with_reducible rfl
                    rotate_left
                    · simp only [Act.put, List.setIfInBounds_toArray, List.set_cons_zero, List.set_cons_succ, i64_w, i32_w]
                      rfl
                    refine take_ (i := 16) (N := (some 181)) (v := ?_) (a' := ?_) #[true, true, true, true, true, true, true, true, true, true, true, true, true, true, true, true, true, false, false, false, false] rfl rfl (by kernel_rfl) (fun _ _ _ h => h) (Or.inl ⟨by rfl, ?_⟩) hHeld ?_ ?_
                    rotate_left
                    · rintro w' ⟨e0, e1, e2, e3⟩
                      go_simp
                      with_reducible rfl
                    rotate_left
                    · simp only [Act.put, List.setIfInBounds_toArray, List.set_cons_zero, List.set_cons_succ, i64_w, i32_w]
                      rfl
                    refine pure_ (i := 18) (N := (some 183)) (v := ?_) (a' := ?_) #[true, true, true, true, true, true, true, true, true, true, true, true, true, true, true, true, true, false, true, false, false] rfl rfl (by kernel_rfl) (fun _ _ _ h => h) (Or.inl ⟨by rfl, ?_⟩) ?_ ?_
                    rotate_left
                    · intro w'
                      go_simp
                      with_reducible rfl
                    rotate_left
                    · simp only [Act.put, List.setIfInBounds_toArray, List.set_cons_zero, List.set_cons_succ, i64_w, i32_w]
                      rfl
                    refine last_ (i := 17) (N := (some 182)) #[true, true, true, true, true, true, true, true, true, true, true, true, true, true, true, true, true, true, true, false, false] rfl rfl (by kernel_rfl) (by decide) (fun K hK => ?_)
                    refine call_ 32 #[.pointer (some ⟨b, 0, none⟩), .string (nmK j)] (by rfl) rfl (by go_simp; first | done | rfl) ?_
                    refine (Held_any (nmK j) (nmK_size j) (HH8.out.bk.below HB9.out)).mono ?_
                    rintro e w10 ⟨rfl, hb10⟩
                    have HB10 := Lib.hid (HB9.out.trans (hb10.mono HB9.out.size))
                    clear hb10
                    refine ⟨_, rfl, hK.out _ _ ?_⟩
                    clear hK K
                    refine norm_ (a' := ?_) ?_ ?_
                    rotate_left
                    · show Act.put _ (some 182) _ = _
                      simp only [Act.put, List.setIfInBounds_toArray, List.set_cons_zero, List.set_cons_succ, i64_w, i32_w]
                      rfl
                    refine pure_ (i := 19) (N := (some 184)) (v := ?_) (a' := ?_) #[true, true, true, true, true, true, true, true, true, true, true, true, true, true, true, true, true, true, true, true, false] rfl rfl (by kernel_rfl) (fun _ _ _ h => h) (Or.inl ⟨by rfl, ?_⟩) ?_ ?_
                    rotate_left
                    · intro w'
                      go_simp
                      with_reducible rfl
                    rotate_left
                    · simp only [Act.put, List.setIfInBounds_toArray, List.set_cons_zero, List.set_cons_succ, i64_w, i32_w]
                      rfl
                    refine pure_ (i := 20) (N := (some 185)) (v := ?_) (a' := ?_) #[true, true, true, true, true, true, true, true, true, true, true, true, true, true, true, true, true, true, true, true, true] rfl rfl (by kernel_rfl) (fun _ _ _ h => h) (Or.inl ⟨by rfl, ?_⟩) ?_ ?_
                    rotate_left
                    · intro w'
                      go_simp
                      with_reducible rfl
                    rotate_left
                    · simp only [Act.put, List.setIfInBounds_toArray, List.set_cons_zero, List.set_cons_succ, i64_w, i32_w]
                      rfl
                    refine done_ (by kernel_rfl) ?_
                    go_wp2_with fail
                    go_roundw
                    case rel => exact ⟨j + 1, by go_num, by omega, HBd.out.trans (HB10.out.mono HBd.out.size)⟩
                    case measure => simp [intOf]; omega
            · obtain rfl : j = 3 := by omega
              go_wp2_with fail
              go_roundw
              case rel => exact ⟨i + 1, now, has, v, _, _, gs, sent, un, rfl, rfl, rfl, rfl, by go_num, by omega, by omega, HH1.out.keep HBr.out, HPc.out⟩
              case measure => simp [intOf]; omega
      · go_wp2_with (go_at_call 17; refine (Known_b HH.out.bk).mono ?_; rintro e w' ⟨rfl, rfl⟩)
        go_ret
        exact ⟨rfl, HH.out.bel⟩
    · go_wp2_with (go_at_call 17; refine (Known_b HH.out.bk).mono ?_; rintro e w' ⟨rfl, rfl⟩)
      go_ret
      exact ⟨rfl, HH.out.bel⟩
end Go.Proofs.Ytcmaoldklldfmaa.P
