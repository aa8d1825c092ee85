/- LeaseTells of layer 14: its walk. -/
import Derived.Test.YtcmaoldklldfmaaTp
import Derived.Test.YtcmaoldklldfmaaLm
import Derived.Deep.QuietTactic
import Derived.BigQuiet
import Derived.StillTailTactics
import Derived.Deep.RegionWith
import Derived.Deep.DeepCutAuto
import Derived.Deep.CutBlock
namespace Go.Proofs.Ytcmaoldklldfmaa.P
open Go.RowKit Go.Proofs.YtcmaoldklldfmaaW.PrintWords Go.Proofs.YtcmaoldklldfmaaW.PrintLast Go.Proofs.YtcmaoldklldfmaaW.PrintMore
set_option linter.unusedSimpArgs false
set_option linter.unusedVariables false

def nx : ByteArray := ⟨#[120]⟩
def nm4 : Array Value := #[.string wA, .string wB, .string wC, .string nx]
def nmQ : Nat → ByteArray
  | 0 => wA
  | 1 => wB
  | 2 => wC
  | _ => nx
theorem nmQ_size (j : Nat) : (nmQ j).size ≤ maxLen := by
  match j with
  | 0 => decide
  | 1 => decide
  | 2 => decide
  | _ + 3 => show nx.size ≤ maxLen; decide
theorem neq_self_int (n : Int) : (n != n) = false := by simp
theorem neq_self_bool (n : Bool) : (n != n) = false := by simp

theorem R42_ne' {W : World} {N b : Nat} {e : TypeId} {cs : Array Value} {A : Option Addr} {n c : Nat} {t : List S42} (h : Kd.R k42 42 W N (fun _ => True) (.slice A n c) t) (hb : W.heap[b]? = some (Obj.cells cs e (0, 0))) (he : e ≠ 42) : ∀ ad, A = some ad → 0 < t.length → ad.block ≠ b := by
  intro ad e0 h0 e2
  obtain ⟨g, cap, e3, _, _, cs', hc⟩ := Kd.R_form h h0
  injection e3 with e3
  rw [e0] at e3; injection e3 with e3
  subst e3
  rw [← e2] at hb
  rw [hc] at hb
  injection hb with hb
  injection hb with _ h2
  exact he h2.symm

set_option maxHeartbeats 4000000 in
set_option maxRecDepth 100000 in
theorem LeaseTells_any (now til : Int) (A1 : Option Addr) (c1 : Nat) (l : List S38) (A2 : Option Addr) (c2 : Nat) (anyL : List S42) (w : World)
    (hr1 : Kd.C k38 w A1 l.length l) (hw1 : ∀ x ∈ l, Wf38 x) (hr2 : Kd.C k42 w A2 anyL.length anyL) (hw2 : ∀ x ∈ anyL, x.f0.size ≤ maxLen) :
    Calls Try.prog 6 #[.int .i64 now, .int .i64 til, .slice A1 l.length c1, .slice A2 anyL.length c2] w fun e w' => e = .returned (.bool true) ∧ Below w.heap.size w w' := by
  have HR1 := Lib.hid hr1
  have HW1 := Lib.hid hw1
  have HR2 := Lib.hid hr2
  have HW2 := Lib.hid hw2
  have hm := Kd.C_max hr1
  have hm2 := Kd.C_max hr2
  clear hr1 hr2 hw1 hw2
  have q1 := neq_self_int (unt now)
  have q2 := neq_self_bool (hld now til)
  have q3 := neq_self_bool (ovr now til)
  go_enter Try.func6, Try.ntmps6
  go_wp2_with (first
    | (go_at_call 9; refine (awake_any _).mono ?_; rintro e w' ⟨rfl, hB⟩)
    | (go_at_call 16; fail))
  refine (New_b (N := w.heap.size) now w' hB.size).mono ?_
  rintro e w1 ⟨rfl, hK, hb1⟩
  have HK := Lib.hid hK
  have HB1 := Lib.hid (hB.trans (hb1.mono hB.size))
  obtain ⟨ba, Hb⟩ : ∃ b, Hid (w'.heap.size = b) := ⟨_, rfl⟩
  rw [Hb.out] at HK ⊢
  clear hK hb1 hB
  go_wp2_with (first | (go_at_call 19; fail))
  refine (rNew_b (N := w.heap.size) now w1 HB1.out.size).mono ?_
  rintro e w2 ⟨rfl, hK2, hb2⟩
  have HK1 := Lib.hid (HK.out.below hb2)
  have HK2 := Lib.hid hK2
  have HB2 := Lib.hid (HB1.out.trans (hb2.mono HB1.out.size))
  obtain ⟨bb, Hb2⟩ : ∃ b, Hid (w1.heap.size = b) := ⟨_, rfl⟩
  rw [Hb2.out] at HK2 ⊢
  clear hK2 hb2 HK HB1
  generalize unt now + 4 = tt at HK1 HK2
  go_wp2_with (first
    | (go_at_call 11; refine (Until_any _ _).mono ?_; rintro e w' ⟨rfl, rfl⟩)
    | (go_at_call 20; refine (rUntil_any _ _).mono ?_; rintro e w' ⟨rfl, rfl⟩)
    | (go_at_call 15; refine (Holds_any _ _ _).mono ?_; rintro e w' ⟨rfl, rfl⟩)
    | (go_at_call 21; refine (rHolds_any _ _ _).mono ?_; rintro e w' ⟨rfl, rfl⟩)
    | (go_at_call 14; refine (Over_any _ _ _).mono ?_; rintro e w' ⟨rfl, rfl⟩)
    | (go_at_call 22; refine (rOver_any _ _ _).mono ?_; rintro e w' ⟨rfl, rfl⟩))
  clear q1 q2 q3
  go_loopw [12] (fun i12 wr => ∃ (i : Nat) (u : Bool) (va vb : Value) (gs : List Gr) (rs : List S62), i12 = .int .i64 i ∧ i ≤ l.length ∧ i ≤ 60 ∧ Hid (Bk w.heap.size ba u tt va gs wr) ∧ Hid (Rk w.heap.size bb (fun _ => True) u tt vb rs wr) ∧ Hid (Below w.heap.size w wr) ∧ Hid (Rel gs rs) ∧ Hid (gs.length ≤ i + 1 ∧ ∀ r ∈ rs, r.f2.length ≤ 100)) (fun i12 _ => l.length - (intOf i12).toNat)
  case atStart => exact ⟨0, true, _, _, [], [], rfl, Nat.zero_le _, by omega, HK1.out, HK2.out, HB2.out, Rel.nil, Lib.hid ⟨by simp, by simp⟩⟩
  case round =>
    clear HK1 HK2 HB2
    obtain ⟨i, u, va, vb, gs, rs, rfl, hi, hi60, HA, HR, HB, HRel, HLn⟩ := hrel
    by_cases hlt : i < l.length
    · by_cases h60 : i < 60
      · have hwf := rd38_wf HW1.out i hlt
        obtain ⟨ad, A3, c3, rfl, hx0, hx1, hx2, hx3, hc3, hC3⟩ := at_38 (Kd.C_below HR1.out HB.out) (i : Int) (by omega) (by omega)
        rw [Int.toNat_natCast] at hx0 hx1 hx2 hx3
        obtain ⟨x, HX⟩ : ∃ x, Hid (rd38 l i = x) := ⟨_, rfl⟩
        rw [HX.out] at hx0 hx1 hx2 hx3 hc3 hC3 hwf
        obtain ⟨y0, y1, y2, y3⟩ := x
        obtain ⟨f0, f1, f2, f3⟩ := hwf
        obtain ⟨t, hraw, hbin⟩ := binds_any A3 c3 y3 f3
        have HRaw := Lib.hid hraw
        have ht20 := hraw.1
        have HBin := Lib.hid hbin
        have HC3 := Lib.hid hC3
        have HF0 := Lib.hid (wf_bd f0)
        clear f0 f1 f2 f3 hraw hbin hC3 HX
        simp only at hx0 hx1 hx2 hx3 hc3 HC3
        have hal : Below wr.heap.size wr (wr.alloc (.cells #[.int .i64 y0, .int .i64 y1, .int .i64 y2, .slice A3 y3.length c3] 38)) := (Below.refl _ _).alloc (Nat.le_refl _) _
        have HAl := Lib.hid hal
        clear hal
        have hwsz := HB.out.size
        go_wp2_with (first | (go_at_call 23; fail))
        refine (HBin.out _ (Kd.C_below HC3.out HAl.out) hc3).mono ?_
        rintro e w3 ⟨v8, rfl, hR8, hb3⟩
        have hb03 : Below wr.heap.size wr w3 := HAl.out.trans (hb3.mono HAl.out.size)
        have HX3 : Hid (w3.heap[wr.heap.size]? = some (Obj.cells #[.int .i64 y0, .int .i64 y1, .int .i64 y2, .slice A3 y3.length c3] 38 (0, 0))) := Lib.hid ((hb3.block _ (by simp)).trans (heap_alloc_new wr _))
        have HBs : Hid (∀ k, v8.ownBlock = some k → wr.heap.size ≤ k) := Lib.hid (fun k hk => by have := Kd.R_base hR8 k hk; have := HAl.out.size; omega)
        have HR8 := Lib.hid (Kd.R_lower hR8 (Nat.le_trans hwsz HAl.out.size))
        have HB03 := Lib.hid hb03
        obtain ⟨A8, c8, rfl⟩ := Kd.R_slice hR8
        clear hR8 hb3 hb03 hx0 hx1 hx2 hx3 HC3
        go_upto_region 11 with (fail)
        go_cut [77] (fun s77 wx => s77 = .bool (decide (i = 3 ∧ anyL.length < 100)) ∧ wx = w3)
        case first =>
          by_cases h3 : i = 3
          · have h3z : (i : Int) = 3 := by omega
            have h3b : ((i : Int) == 3) = true := beq_iff_eq.2 h3z
            by_cases h100 : anyL.length < 100
            · have hz : (anyL.length : Int) < 100 := by omega
              have hd : decide (i = 3 ∧ anyL.length < 100) = true := decide_eq_true ⟨h3, h100⟩
              have HD := Lib.hid hd
              clear hd h3 h3z
              go_wp2
              go_meet
              exact ⟨by rw [HD.out], rfl⟩
            · have hz : ¬ (anyL.length : Int) < 100 := by omega
              have hd : decide (i = 3 ∧ anyL.length < 100) = false := decide_eq_false (fun h => h100 h.2)
              have HD := Lib.hid hd
              clear hd h3 h3z
              go_wp2
              go_meet
              exact ⟨by rw [HD.out], rfl⟩
          · have h3z : ¬ (i : Int) = 3 := by omega
            have h3b : ((i : Int) == 3) = false := beq_eq_false_iff_ne.2 h3z
            have hd : decide (i = 3 ∧ anyL.length < 100) = false := decide_eq_false (fun h => h3 h.1)
            have HD := Lib.hid hd
            clear hd h3 h3z
            go_wp2
            go_meet
            exact ⟨by rw [HD.out], rfl⟩
        case rest =>
        obtain ⟨rfl, rfl⟩ := hcut
        go_upto_if 77 with (fail)
        go_cut [14] (fun s14 wx => ∃ (v14 : Value) (t' : List S42), s14 = v14 ∧ Hid (Below wr.heap.size wr wx) ∧ Hid (wx.heap[wr.heap.size]? = some (Obj.cells #[.int .i64 y0, .int .i64 y1, .int .i64 y2, .slice A3 y3.length c3] 38 (0, 0))) ∧ Hid (∀ k, v14.ownBlock = some k → wr.heap.size ≤ k) ∧ Hid (Kd.R k42 42 wx w.heap.size (fun _ => True) v14 t') ∧ Hid (t'.length ≤ 100 ∧ ∀ j : Nat, (rd_T42 t' j).f0.size ≤ maxLen))
        case first =>
          by_cases hd : i = 3 ∧ anyL.length < 100
          · have hdd : decide (i = 3 ∧ anyL.length < 100) = true := decide_eq_true hd
            have h100 := hd.2
            have hn3 : Hid (w.heap.size ≤ wc.heap.size) := Lib.hid (Nat.le_trans hwsz HB03.out.size)
            rw [hdd]
            clear hd hdd
            go_wp2_with (first | ((with_reducible refine gate_builtin (b := .append) (xs := #[.const (.slice none 0 0), .tmp 78]) rfl ?_); at_builtin; refine Kd.R_append_rows k42 (w0 := wc) w.heap.size rfl (.const (.slice none 0 0)) (.tmp 78) 33 42 (.agg #[(.string ⟨#[]⟩), (.string ⟨#[]⟩), (.int .i64 0)]) 40 rfl Try.underlying33 info42 rfl (by decide) (by omega) (.slice none 0 0) ([] : List S42) anyL A2 anyL.length c2 (fun k => wc.heap.size ≤ k) (fun _ => False) rfl rfl (Kd.R_nil _ _ _ _ _) (Kd.C_below HR2.out (HB.out.trans (HB03.out.mono hwsz))) (fun x cs hx => by obtain rfl := k42_open hx; exact k42_mkM _ _ _ x) (fun _ h => h.elim) (fun _ h => h) (Below.refl _ _) hn3.out (by simp; omega) ?_; intro v1 w4 ho1 hb1 hg1 hat1))
            go_meet
            rw [List.nil_append] at ho1
            have hb4 : Below wc.heap.size wc w4 := ⟨hg1.os, hg1.tape, hg1.output, hg1.size, fun k hk => hg1.block k hk (by simp [Value.ownBlock])⟩
            exact ⟨v1, anyL, rfl, Lib.hid (HB03.out.trans (hb4.mono HB03.out.size)), Lib.hid ((hb4.block _ (lt_of_some HX3.out)).trans HX3.out), Lib.hid (fun k hk => Nat.le_trans HB03.out.size (ho1.1 k hk)), Lib.hid (Kd.R_mono ho1 (fun _ _ => trivial)), Lib.hid ⟨by omega, fun j => by
              by_cases hj : j < anyL.length
              · exact HW2.out _ (rdT_mem hj)
              · unfold rd_T42; rw [Int.toNat_natCast, List.getD_eq_getElem?_getD, List.getElem?_eq_none (by omega)]; decide⟩⟩
          · have hdd : decide (i = 3 ∧ anyL.length < 100) = false := decide_eq_false hd
            rw [hdd]
            clear hd hdd
            go_wp2
            go_meet
            exact ⟨_, t, rfl, HB03, HX3, HBs, HR8, Lib.hid ⟨by omega, HRaw.out.size⟩⟩
        case rest =>
        obtain ⟨v14, t', rfl, HBx, HX4, HBs4, HR14, HT⟩ := hcut
        obtain ⟨A14, c14, rfl⟩ := Kd.R_slice HR14.out
        have HTS : Hid (TS w ba bb u tt va gs vb rs (.slice A14 t'.length c14) t' wc) := Lib.hid ⟨HA.out.below HBx.out, ((HR.out.mono (ok' := fun k => k < wr.heap.size) (fun k hk _ => hk)).below HBx.out).mono (fun k _ hk e => by have := HBs4.out k e.symm; omega), HB.out.trans (HBx.out.mono hwsz), HR14.out⟩
        clear HR8 HBs HB03 HX3 HA HR HB HRaw ht20 hc3 HBin HAl
        have d0 : wc.cell? ⟨wr.heap.size, 0, none⟩ = some (.int .i64 y0) := by simp [World.cell?, HX4.out]
        have d1 : wc.cell? ⟨wr.heap.size, 1, none⟩ = some (.int .i64 y1) := by simp [World.cell?, HX4.out]
        have d2 : wc.cell? ⟨wr.heap.size, 2, none⟩ = some (.int .i64 y2) := by simp [World.cell?, HX4.out]
        have hpb := pk_bd y0 6 (by omega)
        go_upto_block 2 with (go_at_call 13; refine (pick_any _ _ _ (by omega) HF0.out).mono ?_; rintro e w' ⟨rfl, rfl⟩)
        obtain ⟨wt, HWt⟩ : ∃ wt, Hid (pk y0 6 = wt) := ⟨_, rfl⟩
        rw [HWt.out] at hpb ⊢
        go_cut [] (fun wx => ∃ (u : Bool) (va : Value) (gs : List Gr) (vb : Value) (rs : List S62), Hid (TS w ba bb u tt va gs vb rs (.slice A14 t'.length c14) t' wx) ∧ Hid (Rel gs rs) ∧ Hid (gs.length ≤ i + 2 ∧ ∀ r ∈ rs, r.f2.length ≤ 100))
        case first =>
          obtain rfl | rfl | rfl | rfl | rfl | rfl : wt = 0 ∨ wt = 1 ∨ wt = 2 ∨ wt = 3 ∨ wt = 4 ∨ wt = 5 := by omega
          · go_wp2_with (first | (go_at_call 24; fail))
            refine (Learn_any y1 y2 A14 c14 t' (Kd.R_reads' HTS.out.r14).2.2 (R42_ne' HTS.out.r14 HTS.out.bk.box (by decide)) HT.out.2 (by have := HT.out.1; omega) HTS.out.bel.size HTS.out.bk).mono ?_
            rintro e w5 ⟨rfl, va', m, hB, hC⟩
            have HTM := Lib.hid (HTS.out.chA hB hC)
            have hX5 := hC.block _ _ HX4.out (.inr (by intro h; rcases h with h | h <;> cases h))
            have d1' : w5.cell? ⟨wr.heap.size, 1, none⟩ = some (.int .i64 y1) := by simp [World.cell?, hX5]
            have d2' : w5.cell? ⟨wr.heap.size, 2, none⟩ = some (.int .i64 y2) := by simp [World.cell?, hX5]
            clear hB hC hX5 d0 d1 d2
            go_wp2_with (first | (go_at_call 25; fail))
            refine (rLearn_any y1 y2 A14 c14 t' (Kd.R_reads' HTM.out.r14).2.2 (R42_ne' HTM.out.r14 HTM.out.rk.box (by decide)) (by have := HT.out.1; omega) HTM.out.bel.size HTM.out.fresh HTM.out.rk).mono ?_
            rintro e w6 ⟨rfl, vb', hB, hC⟩
            have HT6 := Lib.hid (HTM.out.chB hB hC)
            clear hB hC d1' d2'
            go_wp2_with fail
            go_meet
            exact ⟨_, _, _, _, _, HT6, Lib.hid (Rel.one _ _ _ _), Lib.hid ⟨by simp, fun r hr => by rw [List.mem_singleton] at hr; subst hr; exact HT.out.1⟩⟩
          · go_wp2_with (first | (go_at_call 26; fail))
            refine (Sent_any y1 y2 A14 c14 t' (Kd.R_reads' HTS.out.r14).2.2 HT.out.2 (by have := HT.out.1; omega) (by have := HLn.out.1; omega) HTS.out.bel.size HTS.out.bk).mono ?_
            rintro e w5 ⟨rfl, va', m, hB, hC⟩
            have HTM := Lib.hid (HTS.out.chA hB hC)
            have hX5 := hC.block _ _ HX4.out (.inr (by intro h; rcases h with h | h <;> cases h))
            have d1' : w5.cell? ⟨wr.heap.size, 1, none⟩ = some (.int .i64 y1) := by simp [World.cell?, hX5]
            have d2' : w5.cell? ⟨wr.heap.size, 2, none⟩ = some (.int .i64 y2) := by simp [World.cell?, hX5]
            clear hB hC hX5 d0 d1 d2
            go_wp2_with (first | (go_at_call 27; fail))
            refine (rSent_any y1 y2 A14 c14 t' (Kd.R_reads' HTM.out.r14).2.2 (by have := HT.out.1; omega) (by have := HLn.out.1; have := HRel.out.len; omega) HTM.out.bel.size HTM.out.fresh HTM.out.rk).mono ?_
            rintro e w6 ⟨rfl, vb', hB, hC⟩
            have HT6 := Lib.hid (HTM.out.chB hB hC)
            clear hB hC d1' d2'
            go_wp2_with fail
            go_meet
            exact ⟨_, _, _, _, _, HT6, Lib.hid (HRel.out.app _ _ _ _), Lib.hid ⟨by have := HLn.out.1; simp; omega, fun r hr => by
              rcases List.mem_append.1 hr with hr | hr
              · exact HLn.out.2 r hr
              · rw [List.mem_singleton] at hr; subst hr; exact HT.out.1⟩⟩
          · go_wp2_with (first | (go_at_call 26; fail))
            refine (Sent_any y1 y2 A14 c14 t' (Kd.R_reads' HTS.out.r14).2.2 HT.out.2 (by have := HT.out.1; omega) (by have := HLn.out.1; omega) HTS.out.bel.size HTS.out.bk).mono ?_
            rintro e w5 ⟨rfl, va', m, hB, hC⟩
            have HTM := Lib.hid (HTS.out.chA hB hC)
            have hX5 := hC.block _ _ HX4.out (.inr (by intro h; rcases h with h | h <;> cases h))
            have d1' : w5.cell? ⟨wr.heap.size, 1, none⟩ = some (.int .i64 y1) := by simp [World.cell?, hX5]
            have d2' : w5.cell? ⟨wr.heap.size, 2, none⟩ = some (.int .i64 y2) := by simp [World.cell?, hX5]
            clear hB hC hX5 d0 d1 d2
            go_wp2_with (first | (go_at_call 27; fail))
            refine (rSent_any y1 y2 A14 c14 t' (Kd.R_reads' HTM.out.r14).2.2 (by have := HT.out.1; omega) (by have := HLn.out.1; have := HRel.out.len; omega) HTM.out.bel.size HTM.out.fresh HTM.out.rk).mono ?_
            rintro e w6 ⟨rfl, vb', hB, hC⟩
            have HT6 := Lib.hid (HTM.out.chB hB hC)
            clear hB hC d1' d2'
            go_wp2_with fail
            go_meet
            exact ⟨_, _, _, _, _, HT6, Lib.hid (HRel.out.app _ _ _ _), Lib.hid ⟨by have := HLn.out.1; simp; omega, fun r hr => by
              rcases List.mem_append.1 hr with hr | hr
              · exact HLn.out.2 r hr
              · rw [List.mem_singleton] at hr; subst hr; exact HT.out.1⟩⟩
          · go_wp2_with (first | (go_at_call 28; fail))
            refine (Acked_any y1 HTS.out.bk).mono ?_
            rintro e w5 ⟨rfl, ⟨va', hB⟩, hC⟩
            have HTM := Lib.hid (HTS.out.chA hB hC)
            have hX5 := hC.block _ _ HX4.out (.inr (by intro h; rcases h with h | h <;> cases h))
            have d1' : w5.cell? ⟨wr.heap.size, 1, none⟩ = some (.int .i64 y1) := by simp [World.cell?, hX5]
            have d2' : w5.cell? ⟨wr.heap.size, 2, none⟩ = some (.int .i64 y2) := by simp [World.cell?, hX5]
            clear hB hC hX5 d0 d1 d2
            go_wp2_with (first | (go_at_call 29; fail))
            refine (rAcked_any y1 (by have := HLn.out.1; have := HRel.out.len; omega) HTM.out.bel.size HTM.out.fresh HTM.out.rk).mono ?_
            rintro e w6 ⟨rfl, ⟨vb', hB⟩, hC⟩
            have HT6 := Lib.hid (HTM.out.chB hB hC)
            clear hB hC d1' d2'
            go_wp2_with fail
            go_meet
            exact ⟨_, _, _, _, _, HT6, Lib.hid (HRel.out.acked _), Lib.hid ⟨Nat.le_trans (List.length_filter_le _ _) (by have := HLn.out.1; omega), fun r hr => HLn.out.2 r (List.mem_filter.1 hr).1⟩⟩
          · go_wp2_with (first | (go_at_call 18; fail))
            refine (Pass_any y2 HTS.out.bk).mono ?_
            rintro e w5 ⟨rfl, ⟨va', hB⟩, hC⟩
            have HTM := Lib.hid (HTS.out.chA hB hC)
            have hX5 := hC.block _ _ HX4.out (.inr (by intro h; rcases h with h | h <;> cases h))
            have d1' : w5.cell? ⟨wr.heap.size, 1, none⟩ = some (.int .i64 y1) := by simp [World.cell?, hX5]
            have d2' : w5.cell? ⟨wr.heap.size, 2, none⟩ = some (.int .i64 y2) := by simp [World.cell?, hX5]
            clear hB hC hX5 d0 d1 d2
            go_wp2_with (first | (go_at_call 30; fail))
            refine (rPass_any y2 (by have := HLn.out.1; have := HRel.out.len; omega) HTM.out.bel.size HTM.out.fresh HTM.out.rk).mono ?_
            rintro e w6 ⟨rfl, ⟨vb', hB⟩, hC⟩
            have HT6 := Lib.hid (HTM.out.chB hB hC)
            clear hB hC d1' d2'
            go_wp2_with fail
            go_meet
            exact ⟨_, _, _, _, _, HT6, Lib.hid (HRel.out.pass _), Lib.hid ⟨Nat.le_trans (List.length_filter_le _ _) (by have := HLn.out.1; omega), fun r hr => HLn.out.2 r (List.mem_filter.1 hr).1⟩⟩
          · go_wp2_with fail
            go_meet
            exact ⟨_, _, _, _, _, HTS, HRel, Lib.hid ⟨by have := HLn.out.1; omega, HLn.out.2⟩⟩
        case rest =>
          obtain ⟨u, va, gs, vb, rs, HTS2, HRel2, HLn2⟩ := hcut
          clear HTS HRel HLn HWt hpb d0 d1 d2 HX4 HR14 HT HBs4 HBx HF0
          go_wp2_with fail
          go_loopw [15] (fun i15 wr => ∃ (j : Nat) (l' : List S42), i15 = .int .i64 j ∧ j ≤ t'.length ∧ Hid (TS w ba bb u tt va gs vb rs (.slice A14 t'.length c14) l' wr)) (fun i15 _ => t'.length - (intOf i15).toNat)
          case atStart => exact ⟨0, t', rfl, Nat.zero_le _, HTS2.out⟩
          case round =>
            clear HTS2
            obtain ⟨j, l', rfl, hj, HT⟩ := hrel
            have hm14 := (Kd.R_reads' HT.out.r14)
            have hm14' : t'.length ≤ 9223372036854775807 := by have := Kd.C_max hm14.2.2; rw [hm14.1]; exact this
            clear hm14
            by_cases hjt : j < t'.length
            · obtain ⟨g, cap, hv, _, _, _⟩ := Kd.R_form HT.out.r14 (by have := (Kd.R_reads' HT.out.r14).1; omega)
              injection hv with hA _ _
              subst hA
              obtain ⟨⟨x, e1⟩, e2⟩ := HT.out.cell14 j hjt
              obtain ⟨l2, hT2⟩ := HT.out.put j hjt (-7)
              have HT2 := Lib.hid hT2
              clear hT2
              go_wp2_with fail
              go_roundw
              case rel => exact ⟨j + 1, l2, by go_num, by omega, HT2.out⟩
              case measure => simp [intOf]; omega
            · obtain rfl : j = t'.length := by omega
              have hnu := neq_self_bool (!u)
              go_wp2_with (first
                | (go_at_call 17; refine (Known_b HT.out.bk).mono ?_; rintro e w' ⟨rfl, rfl⟩)
                | (go_at_call 31; refine (rKnown_b HT.out.rk).mono ?_; rintro e w' ⟨rfl, rfl⟩))
              have HT5 := Lib.hid (HT.out.keep ((Below.refl _ _).alloc (Nat.le_refl _) (.cells #[.string ⟨#[119, 97]⟩, .string ⟨#[119, 98]⟩, .string ⟨#[119, 99]⟩, .string ⟨#[120]⟩] 9)))
              have HN5 : Hid ((wr.alloc (.cells #[.string ⟨#[119, 97]⟩, .string ⟨#[119, 98]⟩, .string ⟨#[119, 99]⟩, .string ⟨#[120]⟩] 9)).heap[wr.heap.size]? = some (Obj.cells nm4 9 (0, 0))) := Lib.hid (heap_alloc_new wr _)
              clear HT hnu
              generalize wr.alloc (.cells #[.string ⟨#[119, 97]⟩, .string ⟨#[119, 98]⟩, .string ⟨#[119, 99]⟩, .string ⟨#[120]⟩] 9) = wq at HT5 HN5 ⊢
              generalize wr.heap.size = nm at HN5 ⊢
              go_loopw [17] (fun i17 wr => ∃ j : Nat, i17 = .int .i64 j ∧ j ≤ 4 ∧ Hid (TS w ba bb u tt va gs vb rs (.slice A14 t'.length c14) l' wr) ∧ Hid (wr.heap[nm]? = some (Obj.cells nm4 9 (0, 0)))) (fun i17 _ => 4 - (intOf i17).toNat)
              case atStart => exact ⟨0, rfl, by omega, HT5.out, HN5.out⟩
              case round =>
                clear HT5 HN5
                obtain ⟨j, rfl, hj4, HT, HN⟩ := hrel
                by_cases hj3 : j < 4
                · have hj3z : (j : Int) < 4 := by omega
                  have hj3d : decide ((j : Int) < 4) = true := decide_eq_true hj3z
                  go_wp2_with fail
                  have HT8 := Lib.hid (HT.out.keep (Below.refl _ _).drew)
                  have HN8 : Hid (wr.drew.heap[nm]? = some (Obj.cells nm4 9 (0, 0))) := Lib.hid HN.out
                  have u2 : wr.drew.cell? ⟨nm, j, none⟩ = some (.string (nmQ j)) := by
                    simp only [World.cell?, HN8.out]
                    match j, hj3 with
                    | 0, _ => rfl
                    | 1, _ => rfl
                    | 2, _ => rfl
                    | 3, _ => rfl
                  have hn := neq_self_int (heldB u gs (nmQ j))
                  clear HT HN
                  refine start_ (n := 13) (S := fun w' => w'.cell? ⟨nm, j, none⟩ = some (.string (nmQ j)) ∧ True) (ds := [11]) #[false, false, false, false, false, false, false, false, false, false, false, false, false] (by kernel_rfl) rfl rfl ⟨u2, trivial⟩ (fun hHeld => ?_)
                  clear u2
                  generalize wr.drew = w8 at HT8 HN8 hHeld ⊢
                  refine pure_ (i := 0) (N := (some 156)) (v := ?_) (a' := ?_) #[true, false, false, false, false, false, false, false, false, false, false, false, false] rfl rfl (by kernel_rfl) (fun _ _ _ h => h) (Or.inl ⟨by rfl, ?_⟩) ?_ ?_
                  rotate_left
                  · intro w'
                    go_simp
                    with_reducible rfl
                  rotate_left
                  · simp only [Act.put, List.setIfInBounds_toArray, List.set_cons_zero, List.set_cons_succ, i64_w, i32_w]
                    rfl
                  refine pure_ (i := 1) (N := (some 157)) (v := ?_) (a' := ?_) #[true, true, false, false, false, false, false, false, false, false, false, false, false] rfl rfl (by kernel_rfl) (fun _ _ _ h => h) (Or.inl ⟨by rfl, ?_⟩) ?_ ?_
                  rotate_left
                  · intro w'
                    go_simp
                    with_reducible rfl
                  rotate_left
                  · simp only [Act.put, List.setIfInBounds_toArray, List.set_cons_zero, List.set_cons_succ, i64_w, i32_w]
                    rfl
                  refine pure_ (i := 2) (N := (some 158)) (v := ?_) (a' := ?_) #[true, true, true, false, false, false, false, false, false, false, false, false, false] rfl rfl (by kernel_rfl) (fun _ _ _ h => h) (Or.inl ⟨by rfl, ?_⟩) ?_ ?_
                  rotate_left
                  · intro w'
                    go_simp
                    with_reducible rfl
                  rotate_left
                  · simp only [Act.put, List.setIfInBounds_toArray, List.set_cons_zero, List.set_cons_succ, i64_w, i32_w]
                    rfl
                  refine pure_ (i := 3) (N := (some 159)) (v := ?_) (a' := ?_) #[true, true, true, true, false, false, false, false, false, false, false, false, false] rfl rfl (by kernel_rfl) (fun _ _ _ h => h) (Or.inl ⟨by rfl, ?_⟩) ?_ ?_
                  rotate_left
                  · intro w'
                    go_simp
                    with_reducible rfl
                  rotate_left
                  · simp only [Act.put, List.setIfInBounds_toArray, List.set_cons_zero, List.set_cons_succ, i64_w, i32_w]
                    rfl
                  refine take_ (i := 4) (N := (some 160)) (v := ?_) (a' := ?_) #[true, true, true, true, true, false, false, false, false, false, false, false, false] rfl rfl (by kernel_rfl) (fun _ _ _ h => h) (Or.inl ⟨by rfl, ?_⟩) hHeld ?_ ?_
                  rotate_left
                  · rintro w' ⟨e0, e1⟩
                    go_simp
                    with_reducible rfl
                  rotate_left
                  · simp only [Act.put, List.setIfInBounds_toArray, List.set_cons_zero, List.set_cons_succ, i64_w, i32_w]
                    rfl
                  refine pure_ (i := 6) (N := (some 162)) (v := ?_) (a' := ?_) #[true, true, true, true, true, false, true, false, false, false, false, false, false] rfl rfl (by kernel_rfl) (fun _ _ _ h => h) (Or.inl ⟨by rfl, ?_⟩) ?_ ?_
                  rotate_left
                  · intro w'
                    go_simp
                    with_reducible rfl
                  rotate_left
                  · simp only [Act.put, List.setIfInBounds_toArray, List.set_cons_zero, List.set_cons_succ, i64_w, i32_w]
                    rfl
                  refine pure_ (i := 7) (N := (some 163)) (v := ?_) (a' := ?_) #[true, true, true, true, true, false, true, true, false, false, false, false, false] rfl rfl (by kernel_rfl) (fun _ _ _ h => h) (Or.inl ⟨by rfl, ?_⟩) ?_ ?_
                  rotate_left
                  · intro w'
                    go_simp
                    with_reducible rfl
                  rotate_left
                  · simp only [Act.put, List.setIfInBounds_toArray, List.set_cons_zero, List.set_cons_succ, i64_w, i32_w]
                    rfl
                  refine pure_ (i := 8) (N := (some 164)) (v := ?_) (a' := ?_) #[true, true, true, true, true, false, true, true, true, false, false, false, false] rfl rfl (by kernel_rfl) (fun _ _ _ h => h) (Or.inl ⟨by rfl, ?_⟩) ?_ ?_
                  rotate_left
                  · intro w'
                    go_simp
                    with_reducible rfl
                  rotate_left
                  · simp only [Act.put, List.setIfInBounds_toArray, List.set_cons_zero, List.set_cons_succ, i64_w, i32_w]
                    rfl
                  refine pure_ (i := 9) (N := (some 165)) (v := ?_) (a' := ?_) #[true, true, true, true, true, false, true, true, true, true, false, false, false] rfl rfl (by kernel_rfl) (fun _ _ _ h => h) (Or.inl ⟨by rfl, ?_⟩) ?_ ?_
                  rotate_left
                  · intro w'
                    go_simp
                    with_reducible rfl
                  rotate_left
                  · simp only [Act.put, List.setIfInBounds_toArray, List.set_cons_zero, List.set_cons_succ, i64_w, i32_w]
                    rfl
                  refine take_ (i := 10) (N := (some 166)) (v := ?_) (a' := ?_) #[true, true, true, true, true, false, true, true, true, true, true, false, false] rfl rfl (by kernel_rfl) (fun _ _ _ h => h) (Or.inl ⟨by rfl, ?_⟩) hHeld ?_ ?_
                  rotate_left
                  · rintro w' ⟨e0, e1⟩
                    go_simp
                    with_reducible rfl
                  rotate_left
                  · simp only [Act.put, List.setIfInBounds_toArray, List.set_cons_zero, List.set_cons_succ, i64_w, i32_w]
                    rfl
                  refine one_ (i := 5) (N := (some 161)) #[true, true, true, true, true, true, true, true, true, true, true, false, false] rfl rfl (by kernel_rfl) (by decide) (fun K hK => ?_)
                  refine call_ 32 #[.pointer (some ⟨ba, 0, none⟩), .string (nmQ j)] (by rfl) rfl (by go_simp; first | done | rfl) ?_
                  refine (Held_any (nmQ j) (nmQ_size j) HT8.out.bk).mono ?_
                  rintro e w9 ⟨rfl, hb9⟩
                  have HT9 := Lib.hid (HT8.out.keep hb9)
                  have HB9 := Lib.hid hb9
                  clear hb9
                  refine ⟨_, rfl, hK.out _ _ ?_ (fun _ => ?_)⟩
                  · exact ⟨(HB9.out.cell (p := ⟨nm, j, none⟩) (lt_of_some HN8.out)).trans hHeld.1, trivial⟩
                  clear hK K
                  refine norm_ (a' := ?_) ?_ ?_
                  rotate_left
                  · show Act.put _ (some 161) _ = _
                    simp only [Act.put, List.setIfInBounds_toArray, List.set_cons_zero, List.set_cons_succ, i64_w, i32_w]
                    rfl
                  refine last_ (i := 11) (N := (some 167)) #[true, true, true, true, true, true, true, true, true, true, true, true, false] rfl rfl (by kernel_rfl) (by decide) (fun K hK => ?_)
                  refine call_ 33 #[.pointer (some ⟨bb, 0, none⟩), .string (nmQ j)] (by rfl) rfl (by go_simp; first | done | rfl) ?_
                  refine (rHeld_any (nmQ j) (fun r hr => Nat.le_trans (HLn2.out.2 r hr) (by omega)) HT9.out.rk).mono ?_
                  rintro e w' ⟨rfl, rfl⟩
                  rw [← HRel2.out.held u (nmQ j)]
                  refine ⟨_, rfl, hK.out _ _ ?_⟩
                  clear hK K
                  refine norm_ (a' := ?_) ?_ ?_
                  rotate_left
                  · show Act.put _ (some 167) _ = _
                    simp only [Act.put, List.setIfInBounds_toArray, List.set_cons_zero, List.set_cons_succ, i64_w, i32_w]
                    rfl
                  refine pure_ (i := 12) (N := (some 168)) (v := ?_) (a' := ?_) #[true, true, true, true, true, true, true, true, true, true, true, true, true] rfl rfl (by kernel_rfl) (fun _ _ _ h => h) (Or.inl ⟨by rfl, ?_⟩) ?_ ?_
                  rotate_left
                  · intro w'
                    go_simp
                    with_reducible rfl
                  rotate_left
                  · simp only [Act.put, List.setIfInBounds_toArray, List.set_cons_zero, List.set_cons_succ, i64_w, i32_w]
                    rfl
                  refine done_ (by kernel_rfl) ?_
                  go_wp2_with fail
                  go_roundw
                  case rel => exact ⟨j + 1, by go_num, by omega, HT9.out, Lib.hid ((HB9.out.block _ (lt_of_some HN8.out)).trans HN8.out)⟩
                  case measure => simp [intOf]; omega
                · obtain rfl : j = 4 := by omega
                  go_wp2_with fail
                  go_roundw
                  case rel => exact ⟨i + 1, u, va, vb, gs, rs, by go_num, by omega, by omega, HT.out.bk, HT.out.rk.mono (fun _ _ _ => trivial), HT.out.bel, HRel2.out, HLn2.out⟩
                  case measure => simp [intOf]; omega
      · go_wp2
        go_ret
        exact ⟨rfl, HB.out⟩
    · go_wp2
      go_ret
      exact ⟨rfl, HB.out⟩
end Go.Proofs.Ytcmaoldklldfmaa.P
