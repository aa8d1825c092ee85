/- share.Trim: the loop that gives. -/
import Derived.Test.YtpdgdogcfmfakaaTb
import Derived.Maps.OwnOps
namespace Go.Proofs.Ytpdgdogcfmfakaa.P
open Go.RowKit Go.Proofs.YtpdgdogcfmfakaaW.PrintWords Go.Proofs.YtpdgdogcfmfakaaW.PrintLast Go.Proofs.YtpdgdogcfmfakaaW.PrintMore
open Go.Proofs.Ytpdgdogcfmfakaa.Mp
set_option linter.unusedSimpArgs false
set_option linter.unusedVariables false

def giveK (most : Nat → List Int → Int) (t : List S40) (p0 : List Int) (l0 : ByteArray → Int) : Nat → List Int × (ByteArray → Int)
  | 0 => (p0, l0)
  | k + 1 => ((giveK most t p0 l0 k).1.set k (wrap64 (rd (giveK most t p0 l0 k).1 k + mn (most k (giveK most t p0 l0 k).1) ((giveK most t p0 l0 k).2 (rd_T40 t k).f0))),
      fun s => if s = (rd_T40 t k).f0 then wrap64 ((giveK most t p0 l0 k).2 (rd_T40 t k).f0 - mn (most k (giveK most t p0 l0 k).1) ((giveK most t p0 l0 k).2 (rd_T40 t k).f0)) else (giveK most t p0 l0 k).2 s)

theorem giveK_succ {most : Nat → List Int → Int} {t : List S40} {p0 : List Int} {l0 : ByteArray → Int} {k : Nat} {p : List Int} {lk : ByteArray → Int} (h : giveK most t p0 l0 k = (p, lk)) {s0 : ByteArray} (hs : (rd_T40 t k).f0 = s0) {mo m : Int} (hm : most k p = mo) (he : mn mo (lk s0) = m) :
    giveK most t p0 l0 (k + 1) = (p.set k (wrap64 (rd p k + m)), fun s => if s = s0 then wrap64 (lk s0 - m) else lk s) := by
  subst hs; subst hm; subst he
  simp only [giveK, h]

def LV (fL : Value → Option Value) (lv : ByteArray → Int) : Prop := ∀ s : ByteArray, (fL (.string s)).getD (.int .i64 0) = .int .i64 (lv s)

theorem LV.up {fL : Value → Option Value} {lv : ByteArray → Int} (h : LV fL lv) (s0 : ByteArray) (x : Int) : LV (Mp.up fL (.string s0) (.int .i64 x)) (fun s => if s = s0 then x else lv s) := by
  intro s
  by_cases e : s = s0
  · subst e; simp [Mp.up]
  · have e' : (Value.string s) ≠ .string s0 := fun h => e (by injection h)
    simp [Mp.up, e, e']
    exact h s

def M3 (t : List S40) (i : Nat) (p : List Int) : Int := wrap64 (num (rd_T40 t i).f2 - rd p i)

def M2 (t : List S40) (was : ByteArray → ByteArray → Int) (i : Nat) (_p : List Int) : Int := mn (num (rd_T40 t i).f2) (was (rd_T40 t i).f0 (rd_T40 t i).f1)

def GiveEnd (w0 : World) (N Bt Bl Bm Bp g Ml Mw : Nat) (A : Option Addr) (c n : Nat) (fW : Value → Option Value) (nL nW : Nat) (r : List Int × (ByteArray → Int)) (e : Ending) (W' : World) : Prop :=
  e = .returned (.tuple #[]) ∧ ∃ fL, TS w0 N Bt Bl Bm Bp g Ml Mw A c n fL fW nL nW r.1 W' ∧ LV fL r.2

set_option maxHeartbeats 1600000 in
theorem give3_any (w0 W : World) (N Bt Bl Bm Bp g Ml Mw : Nat) (A : Option Addr) (c : Nat) (t : List S40) (fL fW : Value → Option Value) (nL nW : Nat) (p0 : List Int) (lv : ByteArray → Int)
    (hA : Kd.C k40 w0 A t.length t) (hN : N = w0.heap.size) (hs : ∀ i, (rd_T40 t i).f0.size ≤ maxLen) (hn : nL + t.length < 9223372036854775807)
    (hT : TS w0 N Bt Bl Bm Bp g Ml Mw A c t.length fL fW nL nW p0 W) (hL : LV fL lv) :
    Calls Try.prog 26 #[.func (.func 28) #[] #[.pointer (some ⟨Bt, 0, none⟩), .pointer (some ⟨Bp, 0, none⟩)], .pointer (some ⟨Bt, 0, none⟩), .pointer (some ⟨Bl, 0, none⟩), .pointer (some ⟨Bp, 0, none⟩)] W
      (GiveEnd w0 N Bt Bl Bm Bp g Ml Mw A c t.length fW (nL + t.length) nW (giveK (M3 t) t p0 lv t.length)) := by
  have hm := Kd.C_max hA
  obtain ⟨c1, c2, _, c4, _⟩ := hT.cells
  have HT := Lib.hid hT
  have HL := Lib.hid hL
  have HS := Lib.hid hs
  have HA := Lib.hid hA
  have HN := Lib.hid hN
  clear hT hL hs hA hN
  go_enter Try.func26, Try.ntmps26
  go_wp2_with fail
  clear c1 c2 c4
  go_loopw [10] (fun i wr => ∃ (k : Nat) (f : Value → Option Value), k ≤ t.length ∧ i = .int .i64 k ∧ Hid (TS w0 N Bt Bl Bm Bp g Ml Mw A c t.length f fW (nL + k) nW (giveK (M3 t) t p0 lv k).1 wr) ∧
      Hid (LV f (giveK (M3 t) t p0 lv k).2)) (fun i _ => t.length - (intOf i).toNat)
  case atStart => exact ⟨0, fL, Nat.zero_le _, rfl, HT.out, HL.out⟩
  case round =>
    obtain ⟨k, f, hk, rfl, HTk, HLk⟩ := hrel
    clear HT HL
    by_cases hlt : k < t.length
    · have hAr := Kd.C_below HA.out (HN.out ▸ HTk.out.bel)
      obtain ⟨p, lk, HR⟩ : ∃ p lk, Hid (giveK (M3 t) t p0 lv k = (p, lk)) := ⟨_, _, rfl⟩
      rw [HR.out] at HTk HLk
      have hcl := HTk.out.cells
      obtain ⟨c1, c2, _, c4, c5⟩ := hcl
      obtain ⟨c6, c7⟩ := c5 k hlt
      clear c5
      have hpl := HTk.out.pl
      obtain ⟨ad, rfl, hx0, hx1, hx2⟩ := at_T40 hAr (k : Int) (by omega) (by omega)
      rw [Int.toNat_natCast] at hx0 hx1 hx2
      have HM := Lib.hid (fun (w : World) (hb : Below wr.heap.size wr w) => most3_any k Bt Bp g (some ad) c t p w hlt hpl (Kd.C_below hAr (by exact hb)) (HTk.out.keep hb).cells.1 (HTk.out.keep hb).cells.2.2.2.1 ((HTk.out.keep hb).cells.2.2.2.2 k hlt).1)
      have hs0 := HS.out k
      have HK0 := Lib.hid hs0
      clear hAr hs0 hpl
      obtain ⟨m1, m2, _, m4, m5, _, _⟩ := HTk.out.lts
      have HX : Hid (M3 t k p = wrap64 (num (rd_T40 t k).f2 - rd p k)) := rfl
      obtain ⟨s0, HS0⟩ : ∃ s0, Hid ((rd_T40 t k).f0 = s0) := ⟨_, rfl⟩
      rw [HS0.out] at hx0 HK0
      generalize (rd_T40 t k).f1 = s1 at *
      rw [← HX.out] at HM
      clear HX
      generalize (rd_T40 t k).f2 = v2 at *
      obtain ⟨mo, HMO⟩ : ∃ mo, Hid (M3 t k p = mo) := ⟨_, rfl⟩
      rw [HMO.out] at HM
      go_wp2_with fail
      have hl : ∀ m, (Instr.lookup 47 (.map (some Ml)) (.string s0) false).run Try.prog ((wr.alloc (.cells #[.string s0, .string s1, .int .i64 v2] 40)).drewN m) = .ok (.int .i64 (lk s0)) ((wr.alloc (.cells #[.string s0, .string s1, .int .i64 v2] 40)).drewN m) := fun m => by
        have hq := (((HTk.out.alloc (.cells #[.string s0, .string s1, .int .i64 v2] 40)).drewN m).ml).look law9 Try.underlying47 (zero3 _) (key9 HK0.out)
        rwa [HLk.out s0] at hq
      by_cases hmn : lk s0 < mo
      · have e : mn mo (lk s0) = lk s0 := by unfold mn; rw [if_pos hmn]
        have HG := Lib.hid (giveK_succ HR.out HS0.out HMO.out e)
        clear e
        go_quiet ((go_at_call 28; exact Calls.quiet_of (HM.out _ (pw_below_drewN ((Below.refl _ _).alloc (Nat.le_refl _) _) _))))
        have HT2 := Lib.hid ((HTk.out.alloc (.cells #[.string s0, .string s1, .int .i64 v2] 40)).drewN nq)
        have b0 : ((wr.alloc (.cells #[.string s0, .string s1, .int .i64 v2] 40)).drewN nq).heap[wr.heap.size]? = some (.cells #[.string s0, .string s1, .int .i64 v2] 40) := heap_alloc_new wr _
        clear hl HM hx0 hx1 hx2 c1 c2 c4 c6 c7 m1 m2 m4
        generalize (wr.alloc (.cells #[.string s0, .string s1, .int .i64 v2] 40)).drewN nq = W2 at HT2 b0 ⊢
        obtain ⟨_, _, _, d4, d5⟩ := HT2.out.cells
        obtain ⟨d6, d7⟩ := d5 k hlt
        clear d5
        have B0 := Lib.hid b0
        clear b0
        go_upto_region 5 with (fail)
        have HT3 := Lib.hid (HT2.out.setPart k (wrap64 (rd p k + lk s0)))
        have b1 : (W2.setCell ⟨g, k, none⟩ (.int .i64 (wrap64 (rd p k + lk s0)))).heap[wr.heap.size]? = some (.cells #[.string s0, .string s1, .int .i64 v2] 40) := (Below.heap_setCell _ _ _ _ (by simp; omega)).trans B0.out
        clear d4 d6 d7 HT2
        generalize W2.setCell ⟨g, k, none⟩ (.int .i64 (wrap64 (rd p k + lk s0))) = W3 at HT3 b1 ⊢
        obtain ⟨_, d2, _, _, _⟩ := HT3.out.cells
        have d0 : W3.cell? ⟨wr.heap.size, 0, none⟩ = some (.string s0) := by simp [World.cell?, b1]
        clear b1
        have hl : (Instr.lookup 47 (.map (some Ml)) (.string s0) false).run Try.prog W3 = .ok (.int .i64 (lk s0)) W3 := by
          have hq := HT3.out.ml.look law9 Try.underlying47 (zero3 _) (key9 HK0.out)
          rwa [HLk.out s0] at hq
        go_wp2_with (first
          | (at_mapUpdate; refine wpList_up rfl _ _ _ 47 rfl 9 3 law9 Try.underlying47 Ml _ _ rfl HT3.out.ml (by unfold maxLen; omega) (.string s0) (.int .i64 0) _ rfl rfl (key9 HK0.out) ?_; intro w3 hIs3 hg3))
        go_roundw
        case rel => exact ⟨k + 1, _, by omega, by go_num, by rw [HG.out]; exact HT3.out.setLeft hIs3 hg3, by rw [HG.out]; have h := HLk.out.up s0 (wrap64 (lk s0 - lk s0)); have e0 : wrap64 (lk s0 - lk s0) = 0 := (by rw [Int.sub_self]; unfold wrap64; omega); simp only [e0] at h ⊢; exact h⟩
        case measure => simp [intOf]; omega
      · have e : mn mo (lk s0) = mo := by unfold mn; rw [if_neg hmn]
        have HG := Lib.hid (giveK_succ HR.out HS0.out HMO.out e)
        clear e
        go_quiet ((go_at_call 28; exact Calls.quiet_of (HM.out _ (pw_below_drewN ((Below.refl _ _).alloc (Nat.le_refl _) _) _))))
        have HT2 := Lib.hid ((HTk.out.alloc (.cells #[.string s0, .string s1, .int .i64 v2] 40)).drewN nq)
        have b0 : ((wr.alloc (.cells #[.string s0, .string s1, .int .i64 v2] 40)).drewN nq).heap[wr.heap.size]? = some (.cells #[.string s0, .string s1, .int .i64 v2] 40) := heap_alloc_new wr _
        clear hl HM hx0 hx1 hx2 c1 c2 c4 c6 c7 m1 m2 m4
        generalize (wr.alloc (.cells #[.string s0, .string s1, .int .i64 v2] 40)).drewN nq = W2 at HT2 b0 ⊢
        obtain ⟨_, _, _, d4, d5⟩ := HT2.out.cells
        obtain ⟨d6, d7⟩ := d5 k hlt
        clear d5
        have B0 := Lib.hid b0
        clear b0
        go_upto_region 5 with (fail)
        have HT3 := Lib.hid (HT2.out.setPart k (wrap64 (rd p k + mo)))
        have b1 : (W2.setCell ⟨g, k, none⟩ (.int .i64 (wrap64 (rd p k + mo)))).heap[wr.heap.size]? = some (.cells #[.string s0, .string s1, .int .i64 v2] 40) := (Below.heap_setCell _ _ _ _ (by simp; omega)).trans B0.out
        clear d4 d6 d7 HT2
        generalize W2.setCell ⟨g, k, none⟩ (.int .i64 (wrap64 (rd p k + mo))) = W3 at HT3 b1 ⊢
        obtain ⟨_, d2, _, _, _⟩ := HT3.out.cells
        have d0 : W3.cell? ⟨wr.heap.size, 0, none⟩ = some (.string s0) := by simp [World.cell?, b1]
        clear b1
        have hl : (Instr.lookup 47 (.map (some Ml)) (.string s0) false).run Try.prog W3 = .ok (.int .i64 (lk s0)) W3 := by
          have hq := HT3.out.ml.look law9 Try.underlying47 (zero3 _) (key9 HK0.out)
          rwa [HLk.out s0] at hq
        go_wp2_with (first
          | (at_mapUpdate; refine wpList_up rfl _ _ _ 47 rfl 9 3 law9 Try.underlying47 Ml _ _ rfl HT3.out.ml (by unfold maxLen; omega) (.string s0) (.int .i64 (wrap64 (lk s0 - mo))) _ rfl rfl (key9 HK0.out) ?_; intro w3 hIs3 hg3))
        go_roundw
        case rel => exact ⟨k + 1, _, by omega, by go_num, by rw [HG.out]; exact HT3.out.setLeft hIs3 hg3, by rw [HG.out]; exact HLk.out.up s0 _⟩
        case measure => simp [intOf]; omega
    · obtain rfl : k = t.length := by omega
      go_wp2
      go_end0
      exact ⟨rfl, f, HTk.out, HLk.out⟩
set_option maxHeartbeats 1600000 in
theorem give2_any (w0 W : World) (N Bt Bl Bm Bp g Ml Mw : Nat) (A : Option Addr) (c : Nat) (t : List S40) (fL fW : Value → Option Value) (nL nW : Nat) (p0 : List Int) (lv : ByteArray → Int) (was : ByteArray → ByteArray → Int)
    (hA : Kd.C k40 w0 A t.length t) (hN : N = w0.heap.size) (hs : ∀ i, (rd_T40 t i).f0.size ≤ maxLen) (hs1 : ∀ i, (rd_T40 t i).f1.size ≤ maxLen) (hW : ∀ a b, (fW (spotV a b)).getD (.int .i64 0) = .int .i64 (was a b)) (hn : nL + t.length < 9223372036854775807)
    (hT : TS w0 N Bt Bl Bm Bp g Ml Mw A c t.length fL fW nL nW p0 W) (hL : LV fL lv) :
    Calls Try.prog 26 #[.func (.func 27) #[] #[.pointer (some ⟨Bt, 0, none⟩), .pointer (some ⟨Bm, 0, none⟩)], .pointer (some ⟨Bt, 0, none⟩), .pointer (some ⟨Bl, 0, none⟩), .pointer (some ⟨Bp, 0, none⟩)] W
      (GiveEnd w0 N Bt Bl Bm Bp g Ml Mw A c t.length fW (nL + t.length) nW (giveK (M2 t was) t p0 lv t.length)) := by
  have hm := Kd.C_max hA
  obtain ⟨c1, c2, _, c4, _⟩ := hT.cells
  have HT := Lib.hid hT
  have HL := Lib.hid hL
  have HS := Lib.hid hs
  have HS1 := Lib.hid hs1
  have HW := Lib.hid hW
  have HA := Lib.hid hA
  have HN := Lib.hid hN
  clear hT hL hs hs1 hW hA hN
  go_enter Try.func26, Try.ntmps26
  go_wp2_with fail
  clear c1 c2 c4
  go_loopw [10] (fun i wr => ∃ (k : Nat) (f : Value → Option Value), k ≤ t.length ∧ i = .int .i64 k ∧ Hid (TS w0 N Bt Bl Bm Bp g Ml Mw A c t.length f fW (nL + k) nW (giveK (M2 t was) t p0 lv k).1 wr) ∧
      Hid (LV f (giveK (M2 t was) t p0 lv k).2)) (fun i _ => t.length - (intOf i).toNat)
  case atStart => exact ⟨0, fL, Nat.zero_le _, rfl, HT.out, HL.out⟩
  case round =>
    obtain ⟨k, f, hk, rfl, HTk, HLk⟩ := hrel
    clear HT HL
    by_cases hlt : k < t.length
    · have hAr := Kd.C_below HA.out (HN.out ▸ HTk.out.bel)
      obtain ⟨p, lk, HR⟩ : ∃ p lk, Hid (giveK (M2 t was) t p0 lv k = (p, lk)) := ⟨_, _, rfl⟩
      rw [HR.out] at HTk HLk
      have hcl := HTk.out.cells
      obtain ⟨c1, c2, c3, c4, c5⟩ := hcl
      obtain ⟨c6, c7⟩ := c5 k hlt
      clear c5
      have hpl := HTk.out.pl
      obtain ⟨ad, rfl, hx0, hx1, hx2⟩ := at_T40 hAr (k : Int) (by omega) (by omega)
      rw [Int.toNat_natCast] at hx0 hx1 hx2
      have HM := Lib.hid (fun (w : World) (hb : Below wr.heap.size wr w) => most2_any k Bt Bm Mw nW (some ad) c t fW (was (rd_T40 t k).f0 (rd_T40 t k).f1) w hlt (Kd.C_below hAr (by exact hb)) (HTk.out.keep hb).cells.1 (HTk.out.keep hb).cells.2.2.1 (HS.out k) (HS1.out k) (HTk.out.keep hb).mw (HW.out _ _))
      have hs0 := HS.out k
      have HK0 := Lib.hid hs0
      clear hAr hs0 hpl
      obtain ⟨m1, m2, _, m4, m5, _, _⟩ := HTk.out.lts
      have HX : Hid (M2 t was k p = mn (num (rd_T40 t k).f2) (was (rd_T40 t k).f0 (rd_T40 t k).f1)) := rfl
      obtain ⟨s0, HS0⟩ : ∃ s0, Hid ((rd_T40 t k).f0 = s0) := ⟨_, rfl⟩
      rw [HS0.out] at hx0 HK0
      rw [← HX.out] at HM
      generalize (rd_T40 t k).f1 = s1 at *
      clear HX
      generalize (rd_T40 t k).f2 = v2 at *
      obtain ⟨mo, HMO⟩ : ∃ mo, Hid (M2 t was k p = mo) := ⟨_, rfl⟩
      rw [HMO.out] at HM
      go_wp2_with fail
      have hl : ∀ m, (Instr.lookup 47 (.map (some Ml)) (.string s0) false).run Try.prog ((wr.alloc (.cells #[.string s0, .string s1, .int .i64 v2] 40)).drewN m) = .ok (.int .i64 (lk s0)) ((wr.alloc (.cells #[.string s0, .string s1, .int .i64 v2] 40)).drewN m) := fun m => by
        have hq := (((HTk.out.alloc (.cells #[.string s0, .string s1, .int .i64 v2] 40)).drewN m).ml).look law9 Try.underlying47 (zero3 _) (key9 HK0.out)
        rwa [HLk.out s0] at hq
      by_cases hmn : lk s0 < mo
      · have e : mn mo (lk s0) = lk s0 := by unfold mn; rw [if_pos hmn]
        have HG := Lib.hid (giveK_succ HR.out HS0.out HMO.out e)
        clear e
        go_quiet ((go_at_call 27; exact Calls.quiet_of (HM.out _ (pw_below_drewN ((Below.refl _ _).alloc (Nat.le_refl _) _) _))))
        have HT2 := Lib.hid ((HTk.out.alloc (.cells #[.string s0, .string s1, .int .i64 v2] 40)).drewN nq)
        have b0 : ((wr.alloc (.cells #[.string s0, .string s1, .int .i64 v2] 40)).drewN nq).heap[wr.heap.size]? = some (.cells #[.string s0, .string s1, .int .i64 v2] 40) := heap_alloc_new wr _
        clear hl HM hx0 hx1 hx2 c1 c2 c3 c4 c6 c7 m1 m2 m4
        generalize (wr.alloc (.cells #[.string s0, .string s1, .int .i64 v2] 40)).drewN nq = W2 at HT2 b0 ⊢
        obtain ⟨_, _, _, d4, d5⟩ := HT2.out.cells
        obtain ⟨d6, d7⟩ := d5 k hlt
        clear d5
        have B0 := Lib.hid b0
        clear b0
        go_upto_region 5 with (fail)
        have HT3 := Lib.hid (HT2.out.setPart k (wrap64 (rd p k + lk s0)))
        have b1 : (W2.setCell ⟨g, k, none⟩ (.int .i64 (wrap64 (rd p k + lk s0)))).heap[wr.heap.size]? = some (.cells #[.string s0, .string s1, .int .i64 v2] 40) := (Below.heap_setCell _ _ _ _ (by simp; omega)).trans B0.out
        clear d4 d6 d7 HT2
        generalize W2.setCell ⟨g, k, none⟩ (.int .i64 (wrap64 (rd p k + lk s0))) = W3 at HT3 b1 ⊢
        obtain ⟨_, d2, _, _, _⟩ := HT3.out.cells
        have d0 : W3.cell? ⟨wr.heap.size, 0, none⟩ = some (.string s0) := by simp [World.cell?, b1]
        clear b1
        have hl : (Instr.lookup 47 (.map (some Ml)) (.string s0) false).run Try.prog W3 = .ok (.int .i64 (lk s0)) W3 := by
          have hq := HT3.out.ml.look law9 Try.underlying47 (zero3 _) (key9 HK0.out)
          rwa [HLk.out s0] at hq
        go_wp2_with (first
          | (at_mapUpdate; refine wpList_up rfl _ _ _ 47 rfl 9 3 law9 Try.underlying47 Ml _ _ rfl HT3.out.ml (by unfold maxLen; omega) (.string s0) (.int .i64 0) _ rfl rfl (key9 HK0.out) ?_; intro w3 hIs3 hg3))
        go_roundw
        case rel => exact ⟨k + 1, _, by omega, by go_num, by rw [HG.out]; exact HT3.out.setLeft hIs3 hg3, by rw [HG.out]; have h := HLk.out.up s0 (wrap64 (lk s0 - lk s0)); have e0 : wrap64 (lk s0 - lk s0) = 0 := (by rw [Int.sub_self]; unfold wrap64; omega); simp only [e0] at h ⊢; exact h⟩
        case measure => simp [intOf]; omega
      · have e : mn mo (lk s0) = mo := by unfold mn; rw [if_neg hmn]
        have HG := Lib.hid (giveK_succ HR.out HS0.out HMO.out e)
        clear e
        go_quiet ((go_at_call 27; exact Calls.quiet_of (HM.out _ (pw_below_drewN ((Below.refl _ _).alloc (Nat.le_refl _) _) _))))
        have HT2 := Lib.hid ((HTk.out.alloc (.cells #[.string s0, .string s1, .int .i64 v2] 40)).drewN nq)
        have b0 : ((wr.alloc (.cells #[.string s0, .string s1, .int .i64 v2] 40)).drewN nq).heap[wr.heap.size]? = some (.cells #[.string s0, .string s1, .int .i64 v2] 40) := heap_alloc_new wr _
        clear hl HM hx0 hx1 hx2 c1 c2 c3 c4 c6 c7 m1 m2 m4
        generalize (wr.alloc (.cells #[.string s0, .string s1, .int .i64 v2] 40)).drewN nq = W2 at HT2 b0 ⊢
        obtain ⟨_, _, _, d4, d5⟩ := HT2.out.cells
        obtain ⟨d6, d7⟩ := d5 k hlt
        clear d5
        have B0 := Lib.hid b0
        clear b0
        go_upto_region 5 with (fail)
        have HT3 := Lib.hid (HT2.out.setPart k (wrap64 (rd p k + mo)))
        have b1 : (W2.setCell ⟨g, k, none⟩ (.int .i64 (wrap64 (rd p k + mo)))).heap[wr.heap.size]? = some (.cells #[.string s0, .string s1, .int .i64 v2] 40) := (Below.heap_setCell _ _ _ _ (by simp; omega)).trans B0.out
        clear d4 d6 d7 HT2
        generalize W2.setCell ⟨g, k, none⟩ (.int .i64 (wrap64 (rd p k + mo))) = W3 at HT3 b1 ⊢
        obtain ⟨_, d2, _, _, _⟩ := HT3.out.cells
        have d0 : W3.cell? ⟨wr.heap.size, 0, none⟩ = some (.string s0) := by simp [World.cell?, b1]
        clear b1
        have hl : (Instr.lookup 47 (.map (some Ml)) (.string s0) false).run Try.prog W3 = .ok (.int .i64 (lk s0)) W3 := by
          have hq := HT3.out.ml.look law9 Try.underlying47 (zero3 _) (key9 HK0.out)
          rwa [HLk.out s0] at hq
        go_wp2_with (first
          | (at_mapUpdate; refine wpList_up rfl _ _ _ 47 rfl 9 3 law9 Try.underlying47 Ml _ _ rfl HT3.out.ml (by unfold maxLen; omega) (.string s0) (.int .i64 (wrap64 (lk s0 - mo))) _ rfl rfl (key9 HK0.out) ?_; intro w3 hIs3 hg3))
        go_roundw
        case rel => exact ⟨k + 1, _, by omega, by go_num, by rw [HG.out]; exact HT3.out.setLeft hIs3 hg3, by rw [HG.out]; exact HLk.out.up s0 _⟩
        case measure => simp [intOf]; omega
    · obtain rfl : k = t.length := by omega
      go_wp2
      go_end0
      exact ⟨rfl, f, HTk.out, HLk.out⟩
end Go.Proofs.Ytpdgdogcfmfakaa.P
