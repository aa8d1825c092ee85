-- Laid by a program of this session (wip/tools/genx.py) out of the kit's print of the translation.
import Derived.Test.YtfmfojogcghkkaaPx0
import Derived.Test.YtfmfojogcghkkaaPx21
import Derived.Test.YtfmfojogcghkkaaPx33
import Derived.Test.YtfmfojogcghkkaaPx35
import Derived.Test.YtfmfojogcghkkaaPx39
namespace Go.Proofs.Ytfmfojogcghkkaa.P
open Go.RowKit Go.Proofs.YtfmfojogcghkkaaW.PrintWords Go.Proofs.YtfmfojogcghkkaaW.PrintLast Go.Proofs.YtfmfojogcghkkaaW.PrintMore
attribute [local go_sem] max2_int min2_int max_two min_two max_three min_three max_four min_four   -- for this text's walks alone
set_option linter.unusedVariables false
set_option linter.unusedSimpArgs false

/-! ### billetlaw06_FlowParts: function 16 -/
def billetlaw06_FlowParts.l0 : Nat → Bool → Int → Int → Int → Int → List (S41) → Int → Int → Int → Int → List (S41) → Option (Bool)
  | 0, _, _, _, _, _, _, _, _, _, _, _ => none
  | k + 1, x7, x12, x14, x16, x828000, x828001, x836000, x836001, x836002, x841000, x841001 => if x16 ≥ 0 then (if 0 ≤ x16 then (if x16 < (x828001.length : Int) then (if x16 = x12 then (if x841001.length < 5864062014805 then (billetlaw06_FlowParts.l0 k x7 x12 x14 (wrap64 (x16 - 1)) x828000 x828001 x836000 x836001 x836002 x841000 (x841001 ++ [(⟨(rd_T41 x828001 x16).f0, (rd_T41 x828001 x16).f1, wrap64 (x836002 - x14)⟩ : S41)])) else (none)) else (if x841001.length < 5864062014805 then (billetlaw06_FlowParts.l0 k x7 x12 x14 (wrap64 (x16 - 1)) x828000 x828001 x836000 x836001 x836002 x841000 (x841001 ++ [(⟨(rd_T41 x828001 x16).f0, (rd_T41 x828001 x16).f1, (rd_T41 x828001 x16).f2⟩ : S41)])) else (none))) else (none)) else (none)) else ((flow_Max.f k x828000 x828001 0 1).bind fun bt849 => ((flow_Max.f k x841000 x841001 0 1).bind fun bt854 => (if x7 = true then (if bt849.2.2 = 0 then (if bt854.2.2 = 0 then (some (bt849.2.1 == bt854.2.1)) else (some false)) else (some false)) else (some false))))
def billetlaw06_FlowParts.f (k : Nat) (a0_0 : Int) (l0_1 : List (S41)) (a1 : Int) (a2 : Int) : Option (Bool) := (billetlaw06_awake.f k).bind fun t818 => (if 0 ≤ (mn (l0_1.length : Int) 39) then (if (mn (l0_1.length : Int) 39) ≤ (l0_1.length : Int) then ((billetlaw05_Fit.f k a0_0 (l0_1.take ((mn (l0_1.length : Int) 39) : Int).toNat)).bind fun bt823 => (if (bt823.2.length : Int) = 0 then ((flow_Max.f k bt823.1 bt823.2 0 1).bind fun bt828 => (if t818 = true then (if bt828.2.2 = 0 then (some (bt828.2.1 == 0)) else (some false)) else (some false))) else ((billetlaw06_pick.f a1 (bt823.2.length : Int)).bind fun t833 => (if 0 ≤ t833 then (if t833 < (bt823.2.length : Int) then ((billetlaw06_pick.f a2 (wrap64 (((rd_T41 bt823.2 t833).f2) + 1))).bind fun t836 => (billetlaw06_FlowParts.l0 k t818 t833 t836 (wrap64 ((bt823.2.length : Int) - 1)) bt823.1 bt823.2 ((rd_T41 bt823.2 t833).f0) ((rd_T41 bt823.2 t833).f1) ((rd_T41 bt823.2 t833).f2) bt823.1 (([(⟨(rd_T41 bt823.2 t833).f0, (rd_T41 bt823.2 t833).f1, t836⟩ : S41)] : List (S41))))) else (none)) else (none))))) else (none)) else (none))
theorem billetlaw06_FlowParts.mono_l : ∀ k, (∀ y0 y1 y2 y3 y4 y5 y6 y7 y8 y9 y10, LeO (billetlaw06_FlowParts.l0 k y0 y1 y2 y3 y4 y5 y6 y7 y8 y9 y10) (billetlaw06_FlowParts.l0 (k + 1) y0 y1 y2 y3 y4 y5 y6 y7 y8 y9 y10))
  | 0 => fun _ _ _ _ _ _ _ _ _ _ _ r h => by simp [billetlaw06_FlowParts.l0] at h
  | k + 1 => by
    have ih0 := billetlaw06_FlowParts.mono_l k
    · intro y0 y1 y2 y3 y4 y5 y6 y7 y8 y9 y10
      unfold billetlaw06_FlowParts.l0
      repeat' first
      | (with_reducible exact ih0 _ _ _ _ _ _ _ _ _ _ _)
      | (with_reducible exact billetlaw05_Fit.mono _ _ _)
      | (with_reducible exact billetlaw06_awake.mono _)
      | (with_reducible exact flow_Max.mono _ _ _ _ _)
      | (with_reducible exact LeO.refl _)
      | (with_reducible exact LeO.none _)
      | (with_reducible refine LeO.ite ?_ ?_)
      | (with_reducible refine LeO.bind ?_ (fun _ => ?_))
      | exact ih0 _ _ _ _ _ _ _ _ _ _ _
      | exact billetlaw05_Fit.mono _ _ _
      | exact billetlaw06_awake.mono _
      | exact flow_Max.mono _ _ _ _ _
      | exact LeO.none _
      | refine LeO.ite ?_ ?_
      | refine LeO.bind ?_ (fun _ => ?_)
theorem billetlaw06_FlowParts.mono : ∀ a0 a1 a2 a3 k, LeO (billetlaw06_FlowParts.f k a0 a1 a2 a3) (billetlaw06_FlowParts.f (k + 1) a0 a1 a2 a3) := by
  intro a0 a1 a2 a3 k
  have ih0 := billetlaw06_FlowParts.mono_l k
  unfold billetlaw06_FlowParts.f
  repeat' first
      | (with_reducible exact ih0 _ _ _ _ _ _ _ _ _ _ _)
      | (with_reducible exact billetlaw05_Fit.mono _ _ _)
      | (with_reducible exact billetlaw06_awake.mono _)
      | (with_reducible exact flow_Max.mono _ _ _ _ _)
      | (with_reducible exact LeO.refl _)
      | (with_reducible exact LeO.none _)
      | (with_reducible refine LeO.ite ?_ ?_)
      | (with_reducible refine LeO.bind ?_ (fun _ => ?_))
      | exact ih0 _ _ _ _ _ _ _ _ _ _ _
      | exact billetlaw05_Fit.mono _ _ _
      | exact billetlaw06_awake.mono _
      | exact flow_Max.mono _ _ _ _ _
      | exact LeO.none _
      | refine LeO.ite ?_ ?_
      | refine LeO.bind ?_ (fun _ => ?_)
def billetlaw06_FlowParts.T2 : Bool × List (List Nat × List Nat) := (true, [([], []), ([0], [0]), ([], []), ([2], [2]), ([], []), ([4], [4]), ([5], [5]), ([6], [6]), ([3, 7], [3, 7]), ([1, 8], [1, 8]), ([9], [9]), ([], []), ([11, 10, 10, 0, 1, 2, 3, 4, 5, 6, 7, 8, 9, 10, 11], [10, 11])])
def billetlaw06_FlowParts.B2 : List Nat := [0, 1, 0, 4, 0, 16, 48, 112, 252, 511, 1023, 0, 4095]
theorem billetlaw06_FlowParts.tab2 : rtab .any (opsOf Try.f16 2) = billetlaw06_FlowParts.T2 := by kernel_rfl
theorem billetlaw06_FlowParts.bits2 : waitsOk billetlaw06_FlowParts.T2.2 billetlaw06_FlowParts.B2 = true := by kernel_rfl
theorem isSome_set2_ {w : World} {p q : Addr} {x : Value} (h : (w.cell? q).isSome = true) : ((w.setCell p x).cell? q).isSome = true := by
  obtain ⟨v, hv⟩ := Option.isSome_iff_exists.1 h
  obtain ⟨v', h'⟩ := cell?_setCell_some (p := p) (x := x) hv
  simp [h']
set_option maxHeartbeats 8000000 in
set_option maxRecDepth 100000 in
theorem billetlaw06_FlowParts.calls (k : Nat) (a0_0 : Int) (A0_1 : Option Addr) (c0_1 : Nat) (l0_1 : List (S41)) (a1 : Int) (a2 : Int) (r : Bool) (w : World) (hr0_1 : Kd.C k41 w A0_1 l0_1.length l0_1) (hc0_1 : l0_1.length ≤ c0_1) (h : billetlaw06_FlowParts.f k a0_0 l0_1 a1 a2 = some r) (hT_ : r = true) :
    Calls Try.prog 16 #[.agg #[.int .i64 a0_0, .slice A0_1 l0_1.length c0_1], .int .i64 a1, .int .i64 a2] w fun e w' => e = .returned (.bool r) ∧ Below w.heap.size w w' := by
  have HT_ := Aside0.mk hT_
  clear hT_
  have hu24 := Try.underlying24
  have hu41 := Try.underlying41
  have HR0_1 := Aside0.mk hr0_1
  have HC0_1 := Aside0.mk hc0_1
  clear hr0_1 hc0_1
  have HB := Aside0.mk (Below.refl w.heap.size w)
  have H : ((billetlaw06_awake.f k).bind fun t818 => (if 0 ≤ (mn (l0_1.length : Int) 39) then (if (mn (l0_1.length : Int) 39) ≤ (l0_1.length : Int) then ((billetlaw05_Fit.f k a0_0 (l0_1.take ((mn (l0_1.length : Int) 39) : Int).toNat)).bind fun bt823 => (if (bt823.2.length : Int) = 0 then ((flow_Max.f k bt823.1 bt823.2 0 1).bind fun bt828 => (if t818 = true then (if bt828.2.2 = 0 then (some (bt828.2.1 == 0)) else (some false)) else (some false))) else ((billetlaw06_pick.f a1 (bt823.2.length : Int)).bind fun t833 => (if 0 ≤ t833 then (if t833 < (bt823.2.length : Int) then ((billetlaw06_pick.f a2 (wrap64 (((rd_T41 bt823.2 t833).f2) + 1))).bind fun t836 => (billetlaw06_FlowParts.l0 k t818 t833 t836 (wrap64 ((bt823.2.length : Int) - 1)) bt823.1 bt823.2 ((rd_T41 bt823.2 t833).f0) ((rd_T41 bt823.2 t833).f1) ((rd_T41 bt823.2 t833).f2) bt823.1 (([(⟨(rd_T41 bt823.2 t833).f0, (rd_T41 bt823.2 t833).f1, t836⟩ : S41)] : List (S41))))) else (none)) else (none))))) else (none)) else (none))) = some r := h
  clear h
  replace H := Option.bind_eq_some_iff.mp H
  obtain ⟨t818, A40, H⟩ := H
  replace H : (if 0 ≤ (mn (l0_1.length : Int) 39) then (if (mn (l0_1.length : Int) 39) ≤ (l0_1.length : Int) then ((billetlaw05_Fit.f k a0_0 (l0_1.take ((mn (l0_1.length : Int) 39) : Int).toNat)).bind fun bt823 => (if (bt823.2.length : Int) = 0 then ((flow_Max.f k bt823.1 bt823.2 0 1).bind fun bt828 => (if t818 = true then (if bt828.2.2 = 0 then (some (bt828.2.1 == 0)) else (some false)) else (some false))) else ((billetlaw06_pick.f a1 (bt823.2.length : Int)).bind fun t833 => (if 0 ≤ t833 then (if t833 < (bt823.2.length : Int) then ((billetlaw06_pick.f a2 (wrap64 (((rd_T41 bt823.2 t833).f2) + 1))).bind fun t836 => (billetlaw06_FlowParts.l0 k t818 t833 t836 (wrap64 ((bt823.2.length : Int) - 1)) bt823.1 bt823.2 ((rd_T41 bt823.2 t833).f0) ((rd_T41 bt823.2 t833).f1) ((rd_T41 bt823.2 t833).f2) bt823.1 (([(⟨(rd_T41 bt823.2 t833).f0, (rd_T41 bt823.2 t833).f1, t836⟩ : S41)] : List (S41))))) else (none)) else (none))))) else (none)) else (none)) = some r := H
  have A4 := Aside0.mk A40
  clear A40
  obtain ⟨ji5, hji5⟩ : ∃ j_ : Int, (mn (l0_1.length : Int) 39) = j_ := ⟨_, rfl⟩
  replace H : (if 0 ≤ (ji5) then (if (ji5) ≤ (l0_1.length : Int) then ((billetlaw05_Fit.f k a0_0 (l0_1.take ((ji5) : Int).toNat)).bind fun bt823 => (if (bt823.2.length : Int) = 0 then ((flow_Max.f k bt823.1 bt823.2 0 1).bind fun bt828 => (if t818 = true then (if bt828.2.2 = 0 then (some (bt828.2.1 == 0)) else (some false)) else (some false))) else ((billetlaw06_pick.f a1 (bt823.2.length : Int)).bind fun t833 => (if 0 ≤ t833 then (if t833 < (bt823.2.length : Int) then ((billetlaw06_pick.f a2 (wrap64 (((rd_T41 bt823.2 t833).f2) + 1))).bind fun t836 => (billetlaw06_FlowParts.l0 k t818 t833 t836 (wrap64 ((bt823.2.length : Int) - 1)) bt823.1 bt823.2 ((rd_T41 bt823.2 t833).f0) ((rd_T41 bt823.2 t833).f1) ((rd_T41 bt823.2 t833).f2) bt823.1 (([(⟨(rd_T41 bt823.2 t833).f0, (rd_T41 bt823.2 t833).f1, t836⟩ : S41)] : List (S41))))) else (none)) else (none))))) else (none)) else (none)) = some r := by first | (rw [hji5] at H; exact H) | (simp only [hji5] at H ⊢; exact H)
  (try rw [hji5] at A4)
  (try (have hji5h : ji5 ≤ 39 := by (rw [← hji5]; unfold mn; (repeat' split) <;> omega)))
  (try (have hji5g : ji5 ≤ 64 := by omega))
  (try (have hji5l : 0 ≤ ji5 := by (rw [← hji5]; unfold mn; (repeat' split) <;> omega)))
  (try (have hji5m : 0 ≤ ji5 := by omega))
  have hji5_ : (if 39 < (l0_1.length : Int) then 39 else (l0_1.length : Int)) = ji5 := hji5
  by_cases c6 : 0 ≤ (ji5)
  · rw [if_pos c6] at H
    have c6b0 := eq_true c6
    have c6b1 : decide (0 ≤ (ji5)) = true := decide_eq_true c6
    clear c6
    by_cases c7 : (ji5) ≤ (l0_1.length : Int)
    · rw [if_pos c7] at H
      have c7b0 := eq_true c7
      have c7b1 : decide ((ji5) ≤ (l0_1.length : Int)) = true := decide_eq_true c7
      clear c7
      obtain ⟨y819, hy819⟩ : ∃ y_ : List (S41), y_ = (l0_1.take ((ji5) : Int).toNat) := ⟨_, rfl⟩
      replace H : ((billetlaw05_Fit.f k a0_0 y819).bind fun bt823 => (if (bt823.2.length : Int) = 0 then ((flow_Max.f k bt823.1 bt823.2 0 1).bind fun bt828 => (if t818 = true then (if bt828.2.2 = 0 then (some (bt828.2.1 == 0)) else (some false)) else (some false))) else ((billetlaw06_pick.f a1 (bt823.2.length : Int)).bind fun t833 => (if 0 ≤ t833 then (if t833 < (bt823.2.length : Int) then ((billetlaw06_pick.f a2 (wrap64 (((rd_T41 bt823.2 t833).f2) + 1))).bind fun t836 => (billetlaw06_FlowParts.l0 k t818 t833 t836 (wrap64 ((bt823.2.length : Int) - 1)) bt823.1 bt823.2 ((rd_T41 bt823.2 t833).f0) ((rd_T41 bt823.2 t833).f1) ((rd_T41 bt823.2 t833).f2) bt823.1 (([(⟨(rd_T41 bt823.2 t833).f0, (rd_T41 bt823.2 t833).f1, t836⟩ : S41)] : List (S41))))) else (none)) else (none))))) = some r := by first | (rw [hy819]; with_reducible exact H) | (have H2_ := (Option.bind_some _ _).symm.trans H; rw [hy819]; with_reducible exact H2_) | (have H2_ := (Option.bind_some _ _).symm.trans H; with_reducible exact H2_) | with_reducible exact H | (rw [hy819]; exact H) | exact H
      have Ny819 := Aside0.mk hy819
      clear hy819
      replace H := Option.bind_eq_some_iff.mp H
      obtain ⟨⟨t823, t824⟩, A80, H⟩ := H
      replace H : (if (t824.length : Int) = 0 then ((flow_Max.f k t823 t824 0 1).bind fun bt828 => (if t818 = true then (if bt828.2.2 = 0 then (some (bt828.2.1 == 0)) else (some false)) else (some false))) else ((billetlaw06_pick.f a1 (t824.length : Int)).bind fun t833 => (if 0 ≤ t833 then (if t833 < (t824.length : Int) then ((billetlaw06_pick.f a2 (wrap64 (((rd_T41 t824 t833).f2) + 1))).bind fun t836 => (billetlaw06_FlowParts.l0 k t818 t833 t836 (wrap64 ((t824.length : Int) - 1)) t823 t824 ((rd_T41 t824 t833).f0) ((rd_T41 t824 t833).f1) ((rd_T41 t824 t833).f2) t823 (([(⟨(rd_T41 t824 t833).f0, (rd_T41 t824 t833).f1, t836⟩ : S41)] : List (S41))))) else (none)) else (none)))) = some r := H
      have A8 := Aside0.mk A80
      clear A80
      by_cases c9 : (t824.length : Int) = 0
      · rw [if_pos c9] at H
        have c9b0 : ((t824.length : Int) == 0) = true := beq_iff_eq.mpr c9
        have c9b1 : ((t824.length : Int) != 0) = false := bne_eq_false_iff_eq.mpr c9
        clear c9
        replace H := Option.bind_eq_some_iff.mp H
        obtain ⟨⟨t828, t831, t832⟩, A100, H⟩ := H
        replace H : (if t818 = true then (if t832 = 0 then (some (t831 == 0)) else (some false)) else (some false)) = some r := H
        have A10 := Aside0.mk A100
        clear A100
        by_cases c11 : t818 = true
        · subst c11
          have H1 : (if t832 = 0 then (some (t831 == 0)) else (some false)) = some r := by rw [if_pos rfl] at H; exact H
          clear H
          have H := H1
          clear H1
          by_cases c12 : t832 = 0
          · rw [if_pos c12] at H
            have c12b0 : (t832 == 0) = true := beq_iff_eq.mpr c12
            have c12b1 : (t832 != 0) = false := bne_eq_false_iff_eq.mpr c12
            clear c12
            obtain rfl := Option.some.inj H
            go_enter Try.func16, Try.ntmps16
            try go_wp2_with (first | ((with_reducible refine gate_dst (N := 3) rfl ?_); refine box_event ?hg (N := 3) ?hd (cs := #[.int .i64 a0_0, .slice A0_1 l0_1.length c0_1]) (t := 24) ?hr ?_; (case hd => rfl); (case hg => rfl); (case hr => first | (go_simp; done) | (go_simp; rfl)); intro gb817 hg w13 hbox hb; have n0_ := Aside0.mk (below_step (by repeat (first | (with_reducible first | exact HB.out | apply below_alloc | apply pw_below_drewN | apply below_drew1) | exact HB.out)) hb); have n1_ := Aside0.mk (hbox); have n2_ := Aside0.mk ((by rw [hg]; exact (below_size (by repeat (first | (with_reducible first | exact HB.out | apply below_alloc | apply pw_below_drewN | apply below_drew1) | exact HB.out))) : w.heap.size ≤ gb817)); have n3_ := Aside0.mk ((by rw [hg]; exact (below_size (by repeat (first | (with_reducible first | exact HB.out | apply below_alloc | apply pw_below_drewN | apply below_drew1) | exact HB.out))) : w.heap.size ≤ gb817)); clear HB; have HB := n0_; have BK817 := n1_; have GW817 := n2_; have GE817 := n3_; clear n0_ n1_ n2_ n3_; clear hb hbox hg) | ((with_reducible refine gate_callee (f := 34) rfl ?_); refine goesL_ (some 24) rfl rfl Try.func34 (by kernel_rfl) rfl #[] rfl (by (try simp only [List.map_toArray, List.map_cons, List.map_nil]); first | done | rfl | (simp only [List.length_drop, List.length_take]; rfl)) ?_; (with_reducible refine (billetlaw06_awake.calls k  true _ A4.out).mono ?_); rintro e w14 ⟨rfl, hb⟩; refine ⟨_, rfl, ?_⟩; have n0_ := Aside0.mk (blk_below (g := gb817) (o := .cells #[.int .i64 a0_0, .slice A0_1 l0_1.length c0_1] 24 (0, 0)) (by (with_reducible repeat (first | refine blk_drewN ?_ _ | refine blk_drew ?_ | refine blk_alloc ?_ _)); exact BK817.out) hb); have n1_ := Aside0.mk (below_step (by repeat (first | (with_reducible first | exact HB.out | apply below_alloc | apply pw_below_drewN | apply below_drew1 | refine below_set ?_ GE817.out) | exact HB.out)) hb); clear BK817; clear HB; have BK817 := n0_; have HB := n1_; clear n0_ n1_; (try clear hb); (try clear hb2); (try clear hk); (try clear hi)))
            have n0_ := Aside0.mk (blk_drew BK817.out)
            have n1_ := Aside0.mk (below_drew1 HB.out)
            clear BK817
            clear HB
            have BK817 := n0_
            have HB := n1_
            clear n0_ n1_
            have q16 : ((ji5) : Int) ≤ ((l0_1.length : Int) : Int) := of_decide_eq_true (by first | (with_reducible assumption) | assumption)
            obtain ⟨i016, hi016, _, hsz16, _⟩ := info_parts info41
            have hroom16 : l0_1.length ≤ c0_1 := HC0_1.out
            have hC16 : Kd.C k41 _ A0_1 l0_1.length l0_1 := HR0_1.out
            have hcut16 := cut_to (P := Try.prog) 22 41 .i64 Try.underlying22 hi016 A0_1 l0_1.length c0_1 (ji5) (of_decide_eq_true (by first | (with_reducible assumption) | assumption)) q16 hroom16
            have hr16 := Kd.C_take (m := ((ji5) : Int).toNat) hC16 (by omega)
            have hy16 : y819.length = ((ji5) : Int).toNat := (by rw [Ny819.out, List.length_take]; omega)
            rw [← Ny819.out] at hr16
            rw [← hy16] at hcut16
            have HR822 := Aside0.mk hr16
            have HC822 := Aside0.mk (show y819.length ≤ c0_1 from by omega)
            clear hr16 hC16 hroom16 hi016 hsz16
            have KY16 := Aside0.mk hy16
            clear hy16
            replace q16 := eq_true q16
            refine start_ (n := 13) (S := fun w' => w'.cell? ⟨gb817, 0, none⟩ = some (.int .i64 a0_0) ∧ w'.cell? ⟨gb817, 1, none⟩ = some (.slice A0_1 l0_1.length c0_1)) (ds := []) #[false, false, false, false, false, false, false, false, false, false, false, false, false] (by kernel_rfl) rfl rfl ⟨(blk_cell BK817.out 0).trans rfl, (blk_cell BK817.out 1).trans rfl⟩ (fun hHeld => ?_); refine with_tabW billetlaw06_FlowParts.tab2 billetlaw06_FlowParts.bits2 (fun HT_ HW_ => ?_)
            generalize w14.drew = w15 at BK817 HB HR822 hHeld ⊢
            refine pure_ (i := 0) (N := some 25) (v := ?_) (a' := ?_) #[true, false, false, false, false, false, false, false, false, false, false, false, false] rfl rfl (any_of HT_.out (by kernel_rfl)) (fun _ _ _ h => h) (Or.inl ⟨by rfl, ?_⟩) ?_ ?_
            rotate_left
            · intro w'
              go_simp
              with_reducible rfl
            rotate_left
            · simp only [Act.put, List.setIfInBounds_toArray, List.set_cons_zero, List.set_cons_succ, i64_w, i32_w]
              rfl
            refine pure_ (i := 2) (N := some 27) (v := ?_) (a' := ?_) #[true, false, true, false, false, false, false, false, false, false, false, false, false] rfl rfl (any_of HT_.out (by kernel_rfl)) (fun _ _ _ h => h) (Or.inl ⟨by rfl, ?_⟩) ?_ ?_
            rotate_left
            · intro w'
              go_simp
              with_reducible rfl
            rotate_left
            · simp only [Act.put, List.setIfInBounds_toArray, List.set_cons_zero, List.set_cons_succ, i64_w, i32_w]
              rfl
            refine pure_ (i := 4) (N := some 29) (v := ?_) (a' := ?_) #[true, false, true, false, true, false, false, false, false, false, false, false, false] rfl rfl (any_of HT_.out (by kernel_rfl)) (fun _ _ _ h => h) (Or.inl ⟨by rfl, ?_⟩) ?_ ?_
            rotate_left
            · intro w'
              go_simp
              with_reducible rfl
            rotate_left
            · simp only [Act.put, List.setIfInBounds_toArray, List.set_cons_zero, List.set_cons_succ, i64_w, i32_w]
              rfl
            refine take_ (i := 1) (N := some 26) (v := ?_) (a' := ?_) #[true, true, true, false, true, false, false, false, false, false, false, false, false] rfl rfl (take_ofW HT_.out HW_.out (by kernel_rfl)) (fun _ _ _ h => h) (Or.inl ⟨by rfl, ?_⟩) hHeld ?_ ?_
            rotate_left
            · rintro w' ⟨s0, s1⟩
              go_simp
              with_reducible rfl
            rotate_left
            · simp only [Act.put, List.setIfInBounds_toArray, List.set_cons_zero, List.set_cons_succ, i64_w, i32_w]
              rfl
            refine take_ (i := 3) (N := some 28) (v := ?_) (a' := ?_) #[true, true, true, true, true, false, false, false, false, false, false, false, false] rfl rfl (take_ofW HT_.out HW_.out (by kernel_rfl)) (fun _ _ _ h => h) (Or.inl ⟨by rfl, ?_⟩) hHeld ?_ ?_
            rotate_left
            · rintro w' ⟨s0, s1⟩
              go_simp
              with_reducible rfl
            rotate_left
            · simp only [Act.put, List.setIfInBounds_toArray, List.set_cons_zero, List.set_cons_succ, i64_w, i32_w]
              rfl
            refine take_ (i := 5) (N := some 30) (v := ?_) (a' := ?_) #[true, true, true, true, true, true, false, false, false, false, false, false, false] rfl rfl (take_ofW HT_.out HW_.out (by kernel_rfl)) (fun _ _ _ h => h) (Or.inl ⟨by rfl, ?_⟩) hHeld ?_ ?_
            rotate_left
            · rintro w' ⟨s0, s1⟩
              go_simp
              with_reducible rfl
            rotate_left
            · simp only [Act.put, List.setIfInBounds_toArray, List.set_cons_zero, List.set_cons_succ, i64_w, i32_w]
              rfl
            refine pure_ (i := 6) (N := some 31) (v := ?_) (a' := ?_) #[true, true, true, true, true, true, true, false, false, false, false, false, false] rfl rfl (any_of HT_.out (by kernel_rfl)) (fun _ _ _ h => h) (Or.inl ⟨by rfl, ?_⟩) ?_ ?_
            rotate_left
            · intro w'
              go_simp
              with_reducible rfl
            rotate_left
            · simp only [Act.put, List.setIfInBounds_toArray, List.set_cons_zero, List.set_cons_succ, i64_w, i32_w]
              rfl
            refine pure_ (i := 7) (N := some 32) (v := ?_) (a' := ?_) #[true, true, true, true, true, true, true, true, false, false, false, false, false] rfl rfl (any_of HT_.out (by kernel_rfl)) (fun _ _ _ h => h) (Or.inl ⟨by rfl, ?_⟩) ?_ ?_
            rotate_left
            · intro w'
              go_simp
              with_reducible rfl
            rotate_left
            · simp only [Act.put, List.setIfInBounds_toArray, List.set_cons_zero, List.set_cons_succ, i64_w, i32_w]
              rfl
            refine pure_ (i := 8) (N := some 33) (v := ?_) (a' := ?_) #[true, true, true, true, true, true, true, true, true, false, false, false, false] rfl rfl (any_of HT_.out (by kernel_rfl)) (fun _ _ _ h => h) (Or.inl ⟨by rfl, ?_⟩) ?_ ?_
            rotate_left
            · intro w'
              go_simp
              with_reducible rfl
            rotate_left
            · simp only [Act.put, List.setIfInBounds_toArray, List.set_cons_zero, List.set_cons_succ, i64_w, i32_w]
              rfl
            refine pure_ (i := 9) (N := some 34) (v := ?_) (a' := ?_) #[true, true, true, true, true, true, true, true, true, true, false, false, false] rfl rfl (any_of HT_.out (by kernel_rfl)) (fun _ _ _ h => h) (Or.inl ⟨by rfl, ?_⟩) ?_ ?_
            rotate_left
            · intro w'
              go_simp
              with_reducible rfl
            rotate_left
            · simp only [Act.put, List.setIfInBounds_toArray, List.set_cons_zero, List.set_cons_succ, i64_w, i32_w]
              rfl
            refine join_ (σ := Value × Nat) 1 #[true, true, true, true, true, true, true, true, true, true, true, true, false] (fun s_ => [(35, .agg #[.int .i64 t823, s_.1]), (8, .pointer (some ⟨s_.2, 0, none⟩))]) (fun s_ w' => (w'.cell? ⟨gb817, 0, none⟩ = some (.int .i64 a0_0) ∧ w'.cell? ⟨gb817, 1, none⟩ = some (.slice A0_1 l0_1.length c0_1)) ∧ (Kd.R k41 41 w' w.heap.size (fun _ => True) s_.1 t824) ∧ (w'.heap[gb817]? = some (.cells #[.int .i64 a0_0, .slice A0_1 l0_1.length c0_1] 24 (0, 0))) ∧ (w'.heap[s_.2]? = some (.cells #[.int .i64 0, .slice none 0 0] 24 (0, 0))) ∧ (w.heap.size ≤ s_.2) ∧ (w.heap.size ≤ s_.2) ∧ (gb817 ≠ s_.2) ∧ (s_.2 ≠ gb817) ∧ (Below w.heap.size w w')) ?_ ?_
            rotate_left
            · intro hCont
              refine two_ (i := 10) (j := 11) (Ni := some 35) (Nj := some 8) #[true, true, true, true, true, true, true, true, true, true, true, false, false] #[true, true, true, true, true, true, true, true, true, true, false, true, false] rfl rfl rfl rfl (two_of HT_.out (by kernel_rfl)) (by decide) (by decide) (fun K hK => ?_) (fun K hK => ?_)
              · skip
                refine goes_ Try.func30 (by kernel_rfl) rfl #[.agg #[.int .i64 a0_0, .slice A0_1 y819.length c0_1]] (by rfl) rfl rfl (by (try simp only [List.map_toArray, List.map_cons, List.map_nil]); first | done | rfl | (simp only [List.length_drop, List.length_take]; rfl)) ?_
                with_reducible refine (billetlaw05_Fit.calls k a0_0 _ _ y819 t823 t824 _ ?side1 ?side2 A8.out).mono ?_
                (case side1 => repeat (first | exact (Kd.C_below HR822.out HB.out) | (with_reducible refine Kd.C_alloc ?_ _) | (with_reducible refine Kd.C_drewN ?_ _) | (with_reducible refine Kd.C_drew ?_)))
                (case side2 => exact HC822.out)
                rintro e w17 ⟨v825, rfl, ho0, hb⟩
                refine ⟨_, rfl, ?_⟩
                have n0_ := Aside0.mk (Kd.R_lower ho0 (below_size (by repeat (first | (with_reducible first | exact HB.out | apply below_alloc | apply pw_below_drewN | apply below_drew1 | refine below_set ?_ GE817.out) | exact HB.out))))
                have n1_ := Aside0.mk (blk_below (g := gb817) (o := .cells #[.int .i64 a0_0, .slice A0_1 l0_1.length c0_1] 24 (0, 0)) (by (with_reducible repeat (first | refine blk_drewN ?_ _ | refine blk_drew ?_ | refine blk_alloc ?_ _)); exact BK817.out) hb)
                have n2_ := Aside0.mk (below_step (by repeat (first | (with_reducible first | exact HB.out | apply below_alloc | apply pw_below_drewN | apply below_drew1 | refine below_set ?_ GE817.out) | exact HB.out)) hb)
                clear BK817
                clear HB
                have HO826 := n0_
                have BK817 := n1_
                have HB := n2_
                clear n0_ n1_ n2_
                (try clear hb)
                (try clear hb2)
                (try clear hk)
                (try clear hi)
                (try clear ho0)
                refine hK.out _ _ ⟨(blk_cell BK817.out 0).trans rfl, (blk_cell BK817.out 1).trans rfl⟩ (fun hHeld => ?_)
                clear hK K
                refine norm_ (a' := ?_) ?_ ?_
                rotate_left
                · show Act.put _ (some 35) _ = _
                  simp only [Act.put, List.setIfInBounds_toArray, List.set_cons_zero, List.set_cons_succ, i64_w, i32_w]
                  rfl
                refine one_ (i := 11) (N := some 8) #[true, true, true, true, true, true, true, true, true, true, true, true, false] rfl rfl (one_of HT_.out (by kernel_rfl)) (by decide) (fun K hK => ?_)
                refine box_step ?hg (N := 8) ?hd (cs := #[.int .i64 0, .slice none 0 0]) (t := 24) ?hr ?_; (case hd => rfl); (case hg => rfl); (case hr => first | (go_simp; done) | (go_simp; rfl))
                intro gb827 hg w18 hbox hb
                have n0_ := Aside0.mk (Kd.R_below (by (with_reducible repeat (first | apply Kd.R_alloc | apply Kd.R_drewN | apply Kd.R_drew)); exact HO826.out) hb)
                have n1_ := Aside0.mk (blk_below (g := gb817) (o := .cells #[.int .i64 a0_0, .slice A0_1 l0_1.length c0_1] 24 (0, 0)) (by (with_reducible repeat (first | refine blk_drewN ?_ _ | refine blk_drew ?_ | refine blk_alloc ?_ _)); exact BK817.out) hb)
                have n2_ := Aside0.mk (below_step (by repeat (first | (with_reducible first | exact HB.out | apply below_alloc | apply pw_below_drewN | apply below_drew1 | refine below_set ?_ GE817.out) | exact HB.out)) hb)
                have n3_ := Aside0.mk (hbox)
                have n4_ := Aside0.mk ((by rw [hg]; exact (below_size (by repeat (first | (with_reducible first | exact HB.out | apply below_alloc | apply pw_below_drewN | apply below_drew1 | refine below_set ?_ GE817.out) | exact HB.out))) : w.heap.size ≤ gb827))
                have n5_ := Aside0.mk ((by rw [hg]; exact (below_size (by repeat (first | (with_reducible first | exact HB.out | apply below_alloc | apply pw_below_drewN | apply below_drew1 | refine below_set ?_ GE817.out) | exact HB.out))) : w.heap.size ≤ gb827))
                have n6_ := Aside0.mk ((by rw [hg]; exact Nat.ne_of_lt (blk_lt (g := gb817) (o := .cells #[.int .i64 a0_0, .slice A0_1 l0_1.length c0_1] 24 (0, 0)) (by (with_reducible repeat (first | refine blk_drewN ?_ _ | refine blk_drew ?_ | refine blk_alloc ?_ _)); exact BK817.out)) : gb817 ≠ gb827))
                have n7_ := Aside0.mk ((by rw [hg]; exact Nat.ne_of_gt (blk_lt (g := gb817) (o := .cells #[.int .i64 a0_0, .slice A0_1 l0_1.length c0_1] 24 (0, 0)) (by (with_reducible repeat (first | refine blk_drewN ?_ _ | refine blk_drew ?_ | refine blk_alloc ?_ _)); exact BK817.out)) : gb827 ≠ gb817))
                clear HO826
                clear BK817
                clear HB
                have HO826 := n0_
                have BK817 := n1_
                have HB := n2_
                have BK827 := n3_
                have GW827 := n4_
                have GE827 := n5_
                have NB817_827 := n6_
                have NB827_817 := n7_
                clear n0_ n1_ n2_ n3_ n4_ n5_ n6_ n7_
                clear hb hbox hg
                refine hK.out _ _ ⟨(blk_cell BK817.out 0).trans rfl, (blk_cell BK817.out 1).trans rfl⟩ (fun hHeld => ?_)
                clear hK K
                refine norm_ (a' := ?_) ?_ ?_
                rotate_left
                · show Act.put _ (some 8) _ = _
                  simp only [Act.put, List.setIfInBounds_toArray, List.set_cons_zero, List.set_cons_succ, i64_w, i32_w]
                  rfl
                exact norm_ (by simp only [putAll, Act.put, List.setIfInBounds_toArray, List.set_cons_zero, List.set_cons_succ]) (hCont (v825, gb827) _ ⟨hHeld, (by (with_reducible repeat (first | apply Kd.R_alloc | apply Kd.R_drewN | apply Kd.R_drew)); exact HO826.out), (by (with_reducible repeat (first | refine blk_drewN ?_ _ | refine blk_drew ?_ | refine blk_alloc ?_ _)); exact BK817.out), (by (with_reducible repeat (first | refine blk_drewN ?_ _ | refine blk_drew ?_ | refine blk_alloc ?_ _)); exact BK827.out), GW827.out, GE827.out, NB817_827.out, NB827_817.out, (by repeat (first | (with_reducible first | exact HB.out | apply below_alloc | apply pw_below_drewN | apply below_drew1 | refine below_set ?_ GE817.out | refine below_set ?_ GE827.out) | exact HB.out))⟩)
              · skip
                refine box_step ?hg (N := 8) ?hd (cs := #[.int .i64 0, .slice none 0 0]) (t := 24) ?hr ?_; (case hd => rfl); (case hg => rfl); (case hr => first | (go_simp; done) | (go_simp; rfl))
                intro gb827 hg w17 hbox hb
                have n0_ := Aside0.mk (blk_below (g := gb817) (o := .cells #[.int .i64 a0_0, .slice A0_1 l0_1.length c0_1] 24 (0, 0)) (by (with_reducible repeat (first | refine blk_drewN ?_ _ | refine blk_drew ?_ | refine blk_alloc ?_ _)); exact BK817.out) hb)
                have n1_ := Aside0.mk (below_step (by repeat (first | (with_reducible first | exact HB.out | apply below_alloc | apply pw_below_drewN | apply below_drew1 | refine below_set ?_ GE817.out) | exact HB.out)) hb)
                have n2_ := Aside0.mk (hbox)
                have n3_ := Aside0.mk ((by rw [hg]; exact (below_size (by repeat (first | (with_reducible first | exact HB.out | apply below_alloc | apply pw_below_drewN | apply below_drew1 | refine below_set ?_ GE817.out) | exact HB.out))) : w.heap.size ≤ gb827))
                have n4_ := Aside0.mk ((by rw [hg]; exact (below_size (by repeat (first | (with_reducible first | exact HB.out | apply below_alloc | apply pw_below_drewN | apply below_drew1 | refine below_set ?_ GE817.out) | exact HB.out))) : w.heap.size ≤ gb827))
                have n5_ := Aside0.mk ((by rw [hg]; exact Nat.ne_of_lt (blk_lt (g := gb817) (o := .cells #[.int .i64 a0_0, .slice A0_1 l0_1.length c0_1] 24 (0, 0)) (by (with_reducible repeat (first | refine blk_drewN ?_ _ | refine blk_drew ?_ | refine blk_alloc ?_ _)); exact BK817.out)) : gb817 ≠ gb827))
                have n6_ := Aside0.mk ((by rw [hg]; exact Nat.ne_of_gt (blk_lt (g := gb817) (o := .cells #[.int .i64 a0_0, .slice A0_1 l0_1.length c0_1] 24 (0, 0)) (by (with_reducible repeat (first | refine blk_drewN ?_ _ | refine blk_drew ?_ | refine blk_alloc ?_ _)); exact BK817.out)) : gb827 ≠ gb817))
                clear BK817
                clear HB
                have BK817 := n0_
                have HB := n1_
                have BK827 := n2_
                have GW827 := n3_
                have GE827 := n4_
                have NB817_827 := n5_
                have NB827_817 := n6_
                clear n0_ n1_ n2_ n3_ n4_ n5_ n6_
                clear hb hbox hg
                refine hK.out _ _ ⟨(blk_cell BK817.out 0).trans rfl, (blk_cell BK817.out 1).trans rfl⟩ (fun hHeld => ?_)
                clear hK K
                refine norm_ (a' := ?_) ?_ ?_
                rotate_left
                · show Act.put _ (some 8) _ = _
                  simp only [Act.put, List.setIfInBounds_toArray, List.set_cons_zero, List.set_cons_succ, i64_w, i32_w]
                  rfl
                refine one_ (i := 10) (N := some 35) #[true, true, true, true, true, true, true, true, true, true, true, true, false] rfl rfl (one_of HT_.out (by kernel_rfl)) (by decide) (fun K hK => ?_)
                refine goes_ Try.func30 (by kernel_rfl) rfl #[.agg #[.int .i64 a0_0, .slice A0_1 y819.length c0_1]] (by rfl) rfl rfl (by (try simp only [List.map_toArray, List.map_cons, List.map_nil]); first | done | rfl | (simp only [List.length_drop, List.length_take]; rfl)) ?_
                with_reducible refine (billetlaw05_Fit.calls k a0_0 _ _ y819 t823 t824 _ ?side1 ?side2 A8.out).mono ?_
                (case side1 => repeat (first | exact (Kd.C_below HR822.out HB.out) | (with_reducible refine Kd.C_alloc ?_ _) | (with_reducible refine Kd.C_drewN ?_ _) | (with_reducible refine Kd.C_drew ?_)))
                (case side2 => exact HC822.out)
                rintro e w18 ⟨v825, rfl, ho0, hb⟩
                refine ⟨_, rfl, ?_⟩
                have n0_ := Aside0.mk (Kd.R_lower ho0 (below_size (by repeat (first | (with_reducible first | exact HB.out | apply below_alloc | apply pw_below_drewN | apply below_drew1 | refine below_set ?_ GE817.out | refine below_set ?_ GE827.out) | exact HB.out))))
                have n1_ := Aside0.mk (blk_below (g := gb817) (o := .cells #[.int .i64 a0_0, .slice A0_1 l0_1.length c0_1] 24 (0, 0)) (by (with_reducible repeat (first | refine blk_drewN ?_ _ | refine blk_drew ?_ | refine blk_alloc ?_ _)); exact BK817.out) hb)
                have n2_ := Aside0.mk (blk_below (g := gb827) (o := .cells #[.int .i64 0, .slice none 0 0] 24 (0, 0)) (by (with_reducible repeat (first | refine blk_drewN ?_ _ | refine blk_drew ?_ | refine blk_alloc ?_ _)); exact BK827.out) hb)
                have n3_ := Aside0.mk (below_step (by repeat (first | (with_reducible first | exact HB.out | apply below_alloc | apply pw_below_drewN | apply below_drew1 | refine below_set ?_ GE817.out | refine below_set ?_ GE827.out) | exact HB.out)) hb)
                clear BK817
                clear BK827
                clear HB
                have HO826 := n0_
                have BK817 := n1_
                have BK827 := n2_
                have HB := n3_
                clear n0_ n1_ n2_ n3_
                (try clear hb)
                (try clear hb2)
                (try clear hk)
                (try clear hi)
                (try clear ho0)
                refine hK.out _ _ ⟨(blk_cell BK817.out 0).trans rfl, (blk_cell BK817.out 1).trans rfl⟩ (fun hHeld => ?_)
                clear hK K
                refine norm_ (a' := ?_) ?_ ?_
                rotate_left
                · show Act.put _ (some 35) _ = _
                  simp only [Act.put, List.setIfInBounds_toArray, List.set_cons_zero, List.set_cons_succ, i64_w, i32_w]
                  rfl
                exact norm_ (by simp only [putAll, Act.put, List.setIfInBounds_toArray, List.set_cons_zero, List.set_cons_succ]) (hCont (v825, gb827) _ ⟨hHeld, (by (with_reducible repeat (first | apply Kd.R_alloc | apply Kd.R_drewN | apply Kd.R_drew)); exact HO826.out), (by (with_reducible repeat (first | refine blk_drewN ?_ _ | refine blk_drew ?_ | refine blk_alloc ?_ _)); exact BK817.out), (by (with_reducible repeat (first | refine blk_drewN ?_ _ | refine blk_drew ?_ | refine blk_alloc ?_ _)); exact BK827.out), GW827.out, GE827.out, NB817_827.out, NB827_817.out, (by repeat (first | (with_reducible first | exact HB.out | apply below_alloc | apply pw_below_drewN | apply below_drew1 | refine below_set ?_ GE817.out | refine below_set ?_ GE827.out) | exact HB.out))⟩)
            rintro ⟨v825, gb827⟩ w19 ⟨hS_, h0_, h1_, h2_, h3_, h4_, h5_, h6_, h7_⟩
            have n0_ : Aside0 (Kd.R k41 41 w19 w.heap.size (fun _ => True) v825 t824) := ⟨h0_⟩
            have n1_ : Aside0 (w19.heap[gb817]? = some (.cells #[.int .i64 a0_0, .slice A0_1 l0_1.length c0_1] 24 (0, 0))) := ⟨h1_⟩
            have n2_ : Aside0 (w19.heap[gb827]? = some (.cells #[.int .i64 0, .slice none 0 0] 24 (0, 0))) := ⟨h2_⟩
            have n3_ : Aside0 (w.heap.size ≤ gb827) := ⟨h3_⟩
            have n4_ : Aside0 (w.heap.size ≤ gb827) := ⟨h4_⟩
            have n5_ : Aside0 (gb817 ≠ gb827) := ⟨h5_⟩
            have n6_ : Aside0 (gb827 ≠ gb817) := ⟨h6_⟩
            have n7_ : Aside0 (Below w.heap.size w w19) := ⟨h7_⟩
            clear BK817
            clear HB
            clear h0_ h1_ h2_ h3_ h4_ h5_ h6_ h7_
            have HO826 := n0_
            have BK817 := n1_
            have BK827 := n2_
            have GW827 := n3_
            have GE827 := n4_
            have NB817_827 := n5_
            have NB827_817 := n6_
            have HB := n7_
            clear n0_ n1_ n2_ n3_ n4_ n5_ n6_ n7_
            have hHeld : w19.cell? ⟨gb817, 0, none⟩ = some (.int .i64 a0_0) ∧ w19.cell? ⟨gb817, 1, none⟩ = some (.slice A0_1 l0_1.length c0_1) := hS_
            obtain ⟨Ao21, co21, eo21⟩ := Kd.R_slice HO826.out
            (first | subst eo21 | (injection eo21 with f1_ f2_ f3_; have f4_ := f1_.symm; have f5_ := f3_.symm; clear f1_ f2_ f3_; subst f4_; subst f5_))
            refine norm_ (a' := ?_) ?_ ?_
            rotate_left
            · simp only [putAll, Act.put, List.setIfInBounds_toArray, List.set_cons_zero, List.set_cons_succ]
              rfl
            refine one_ (i := 12) (N := none) #[true, true, true, true, true, true, true, true, true, true, true, true, true] rfl rfl (one_of HT_.out (by kernel_rfl)) (by decide) (fun K hK => ?_)
            have hs20 : w19.cell? ⟨gb827, 0, none⟩ = some (.int .i64 0) := (blk_cell BK827.out 0).trans rfl
            have hfs20 := blk_frozen BK827.out 0
            have hns20_0 := NB817_827.out
            have hms20_0 := NB827_817.out
            have hs22 : w19.cell? ⟨gb827, 1, none⟩ = some (.slice none 0 0) := (blk_cell BK827.out 1).trans rfl
            have hfs22 := blk_frozen BK827.out 1
            have hns22_0 := NB817_827.out
            have hms22_0 := NB827_817.out
            refine skip_ (w1 := ?_) (by rfl) rfl ?_ ?_
            rotate_left
            · go_simp
              rfl
            refine hK.out _ _ ⟨((cell_far (p := ⟨gb827, _, none⟩) NB817_827.out _).trans (((cell_far (p := ⟨gb827, _, none⟩) NB817_827.out _).trans (hHeld.1)))), ((cell_far (p := ⟨gb827, _, none⟩) NB817_827.out _).trans (((cell_far (p := ⟨gb827, _, none⟩) NB817_827.out _).trans (hHeld.2))))⟩ (fun hHeld => ?_)
            clear hK K
            refine done_ (done_of HT_.out (by kernel_rfl)) ?_
            have hnb23 := NB827_817.out
            have hnc23 := NB817_827.out
            have hcz24_0 : w19.cell? ⟨gb827, 0, none⟩ = some (.int .i64 0) := (blk_cell BK827.out 0).trans rfl
            have hcz24_1 : w19.cell? ⟨gb827, 1, none⟩ = some (.slice none 0 0) := (blk_cell BK827.out 1).trans rfl
            have hfz24_0 := blk_frozen BK827.out 0
            have hfz24_1 := blk_frozen BK827.out 1
            try go_wp2_with (first | ((with_reducible refine gate_callee (f := 37) rfl ?_); refine goesL_ (some 42) rfl rfl Try.func37 (by kernel_rfl) rfl #[.agg #[.int .i64 t823, .slice Ao21 t824.length co21], .int .i64 0, .int .i64 1] rfl (by (try simp only [List.map_toArray, List.map_cons, List.map_nil]); first | done | rfl | (simp only [List.length_drop, List.length_take]; rfl)) ?_; (with_reducible refine (flow_Max.calls k t823 _ _ t824 0 1 t828 t831 t832 _ ?side1 ?side2 A10.out).mono ?_); (case side1 => refine (Kd.R_reads' (e := 41) (base := w.heap.size) (ok := fun k_ => True) (n := t824.length) (c := co21) ?_).2.2; exact (by (with_reducible repeat (first | apply Kd.R_alloc | apply Kd.R_drewN | apply Kd.R_drew)); exact (Kd.R_mono (Kd.R_far (p := ⟨gb827, 1, none⟩) (Kd.R_far (p := ⟨gb827, 0, none⟩) (Kd.R_types HO826.out BK827.out (by decide)) (fun _ hk => hk.2) (.int .i64 t823)) (fun _ hk => hk.2) (.slice Ao21 t824.length co21)) (fun _ h_ => h_.1)))); (case side2 => exact (Kd.R_reads' HO826.out).2.1); rintro e w25 ⟨v829, rfl, ho0, hb⟩; refine ⟨_, rfl, ?_⟩; have n0_ := Aside0.mk (Kd.R_below (by (with_reducible repeat (first | apply Kd.R_alloc | apply Kd.R_drewN | apply Kd.R_drew)); exact (Kd.R_mono (Kd.R_far (p := ⟨gb827, 1, none⟩) (Kd.R_far (p := ⟨gb827, 0, none⟩) (Kd.R_types HO826.out BK827.out (by decide)) (fun _ hk => hk.2) (.int .i64 t823)) (fun _ hk => hk.2) (.slice Ao21 t824.length co21)) (fun _ h_ => h_.1))) hb); have n1_ := Aside0.mk (Kd.V_lower (Kd.V_mono (ok' := fun k_ => some k_ ≠ (.slice Ao21 t824.length co21 : Value).ownBlock ∧ k_ ≠ gb817 ∧ k_ ≠ gb827) ho0 (fun k_ hk_ => ⟨(Kd.fresh' (Kd.R_lt (by (with_reducible repeat (first | apply Kd.R_alloc | apply Kd.R_drewN | apply Kd.R_drew)); exact (Kd.R_mono (Kd.R_far (p := ⟨gb827, 1, none⟩) (Kd.R_far (p := ⟨gb827, 0, none⟩) (Kd.R_types HO826.out BK827.out (by decide)) (fun _ hk => hk.2) (.int .i64 t823)) (fun _ hk => hk.2) (.slice Ao21 t824.length co21)) (fun _ h_ => h_.1)))) k_ hk_), (Kd.freshB (g := gb817) (o := .cells #[.int .i64 a0_0, .slice A0_1 l0_1.length c0_1] 24 (0, 0)) (by (with_reducible repeat (first | refine blk_drewN ?_ _ | refine blk_drew ?_ | refine blk_alloc ?_ _)); refine blk_far ?_ NB817_827.out _; (with_reducible repeat (first | refine blk_drewN ?_ _ | refine blk_drew ?_ | refine blk_alloc ?_ _)); refine blk_far ?_ NB817_827.out _; (with_reducible repeat (first | refine blk_drewN ?_ _ | refine blk_drew ?_ | refine blk_alloc ?_ _)); exact BK817.out) k_ hk_), (Kd.freshB (g := gb827) (o := .cells #[.int .i64 t823, .slice Ao21 t824.length co21] 24 (0, 0)) (by (with_reducible repeat (first | refine blk_drewN ?_ _ | refine blk_drew ?_ | refine blk_alloc ?_ _)); refine blk_put (cs := #[.int .i64 t823, .slice none 0 0]) ?_ 1 _ rfl; (with_reducible repeat (first | refine blk_drewN ?_ _ | refine blk_drew ?_ | refine blk_alloc ?_ _)); refine blk_put (cs := #[.int .i64 0, .slice none 0 0]) ?_ 0 _ rfl; (with_reducible repeat (first | refine blk_drewN ?_ _ | refine blk_drew ?_ | refine blk_alloc ?_ _)); exact BK827.out) k_ hk_)⟩)) (below_size (by repeat (first | (with_reducible first | exact HB.out | apply below_alloc | apply pw_below_drewN | apply below_drew1 | refine below_set ?_ GE817.out | refine below_set ?_ GE827.out) | exact HB.out)))); have n2_ := Aside0.mk (blk_below (g := gb817) (o := .cells #[.int .i64 a0_0, .slice A0_1 l0_1.length c0_1] 24 (0, 0)) (by (with_reducible repeat (first | refine blk_drewN ?_ _ | refine blk_drew ?_ | refine blk_alloc ?_ _)); refine blk_far ?_ NB817_827.out _; (with_reducible repeat (first | refine blk_drewN ?_ _ | refine blk_drew ?_ | refine blk_alloc ?_ _)); refine blk_far ?_ NB817_827.out _; (with_reducible repeat (first | refine blk_drewN ?_ _ | refine blk_drew ?_ | refine blk_alloc ?_ _)); exact BK817.out) hb); have n3_ := Aside0.mk (blk_below (g := gb827) (o := .cells #[.int .i64 t823, .slice Ao21 t824.length co21] 24 (0, 0)) (by (with_reducible repeat (first | refine blk_drewN ?_ _ | refine blk_drew ?_ | refine blk_alloc ?_ _)); refine blk_put (cs := #[.int .i64 t823, .slice none 0 0]) ?_ 1 _ rfl; (with_reducible repeat (first | refine blk_drewN ?_ _ | refine blk_drew ?_ | refine blk_alloc ?_ _)); refine blk_put (cs := #[.int .i64 0, .slice none 0 0]) ?_ 0 _ rfl; (with_reducible repeat (first | refine blk_drewN ?_ _ | refine blk_drew ?_ | refine blk_alloc ?_ _)); exact BK827.out) hb); have n4_ := Aside0.mk (below_step (by repeat (first | (with_reducible first | exact HB.out | apply below_alloc | apply pw_below_drewN | apply below_drew1 | refine below_set ?_ GE817.out | refine below_set ?_ GE827.out) | exact HB.out)) hb); clear HO826; clear BK817; clear BK827; clear HB; have HO826 := n0_; have HO830 := n1_; have BK817 := n2_; have BK827 := n3_; have HB := n4_; clear n0_ n1_ n2_ n3_ n4_; (try clear hb); (try clear hb2); (try clear hk); (try clear hi); (try clear ho0)))
            go_ret
            exact ⟨by first | rfl | (simp [errW_none, errW_some] <;> rfl) | (simp only [← hji5]; first | rfl | (simp [errW_none, errW_some] <;> rfl)) | (simp [*, errW_none, errW_some] <;> rfl), by repeat (first | (with_reducible first | exact HB.out | apply below_alloc | apply pw_below_drewN | apply below_drew1 | refine below_set ?_ GE817.out | refine below_set ?_ GE827.out) | exact HB.out)⟩
          · rw [if_neg c12] at H
            have c12b0 : (t832 == 0) = false := beq_eq_false_iff_ne.mpr c12
            have c12b1 : (t832 != 0) = true := bne_iff_ne.mpr c12
            exact absurd (H.trans (congrArg some HT_.out)) (by simp)
        · replace c11 := Bool.eq_false_iff.mpr c11
          subst c11
          have H1 : (some false) = some r := by rw [if_neg (show ¬ (false = true) by decide)] at H; exact H
          clear H
          have H := H1
          clear H1
          exact absurd (H.trans (congrArg some HT_.out)) (by simp)
      · rw [if_neg c9] at H
        have c9b0 : ((t824.length : Int) == 0) = false := beq_eq_false_iff_ne.mpr c9
        have c9b1 : ((t824.length : Int) != 0) = true := bne_iff_ne.mpr c9
        have c9b2 : ¬ (t824 = []) := fun h_ => c9 (by rw [h_]; rfl)
        replace H := Option.bind_eq_some_iff.mp H
        obtain ⟨t833, A520, H⟩ := H
        replace H : (if 0 ≤ t833 then (if t833 < (t824.length : Int) then ((billetlaw06_pick.f a2 (wrap64 (((rd_T41 t824 t833).f2) + 1))).bind fun t836 => (billetlaw06_FlowParts.l0 k t818 t833 t836 (wrap64 ((t824.length : Int) - 1)) t823 t824 ((rd_T41 t824 t833).f0) ((rd_T41 t824 t833).f1) ((rd_T41 t824 t833).f2) t823 (([(⟨(rd_T41 t824 t833).f0, (rd_T41 t824 t833).f1, t836⟩ : S41)] : List (S41))))) else (none)) else (none)) = some r := H
        have A52 := Aside0.mk A520
        clear A520
        by_cases c53 : 0 ≤ t833
        · rw [if_pos c53] at H
          have c53b0 : decide (0 ≤ t833) = true := decide_eq_true c53
          clear c53
          by_cases c54 : t833 < (t824.length : Int)
          · rw [if_pos c54] at H
            have c54b0 : decide (t833 < (t824.length : Int)) = true := decide_eq_true c54
            clear c54
            replace H := Option.bind_eq_some_iff.mp H
            obtain ⟨t836, A550, H⟩ := H
            replace H : (billetlaw06_FlowParts.l0 k t818 t833 t836 (wrap64 ((t824.length : Int) - 1)) t823 t824 ((rd_T41 t824 t833).f0) ((rd_T41 t824 t833).f1) ((rd_T41 t824 t833).f2) t823 (([(⟨(rd_T41 t824 t833).f0, (rd_T41 t824 t833).f1, t836⟩ : S41)] : List (S41)))) = some r := H
            have A55 := Aside0.mk A550
            clear A550
            obtain ⟨y837, hy837⟩ : ∃ y_ : List (S41), y_ = (([(⟨(rd_T41 t824 t833).f0, (rd_T41 t824 t833).f1, t836⟩ : S41)] : List (S41))) := ⟨_, rfl⟩
            replace H : (billetlaw06_FlowParts.l0 k t818 t833 t836 (wrap64 ((t824.length : Int) - 1)) t823 t824 ((rd_T41 t824 t833).f0) ((rd_T41 t824 t833).f1) ((rd_T41 t824 t833).f2) t823 y837) = some r := by first | (rw [hy837]; with_reducible exact H) | (have H2_ := (Option.bind_some _ _).symm.trans H; rw [hy837]; with_reducible exact H2_) | (have H2_ := (Option.bind_some _ _).symm.trans H; with_reducible exact H2_) | with_reducible exact H | (rw [hy837]; exact H) | exact H
            have Ny837 := Aside0.mk hy837
            clear hy837
            have H' := Aside0.mk H
            clear H
            go_enter Try.func16, Try.ntmps16
            try go_wp2_with (first | ((with_reducible refine gate_dst (N := 3) rfl ?_); refine box_event ?hg (N := 3) ?hd (cs := #[.int .i64 a0_0, .slice A0_1 l0_1.length c0_1]) (t := 24) ?hr ?_; (case hd => rfl); (case hg => rfl); (case hr => first | (go_simp; done) | (go_simp; rfl)); intro gb817 hg w56 hbox hb; have n0_ := Aside0.mk (below_step (by repeat (first | (with_reducible first | exact HB.out | apply below_alloc | apply pw_below_drewN | apply below_drew1) | exact HB.out)) hb); have n1_ := Aside0.mk (hbox); have n2_ := Aside0.mk ((by rw [hg]; exact (below_size (by repeat (first | (with_reducible first | exact HB.out | apply below_alloc | apply pw_below_drewN | apply below_drew1) | exact HB.out))) : w.heap.size ≤ gb817)); have n3_ := Aside0.mk ((by rw [hg]; exact (below_size (by repeat (first | (with_reducible first | exact HB.out | apply below_alloc | apply pw_below_drewN | apply below_drew1) | exact HB.out))) : w.heap.size ≤ gb817)); clear HB; have HB := n0_; have BK817 := n1_; have GW817 := n2_; have GE817 := n3_; clear n0_ n1_ n2_ n3_; clear hb hbox hg) | ((with_reducible refine gate_callee (f := 34) rfl ?_); refine goesL_ (some 24) rfl rfl Try.func34 (by kernel_rfl) rfl #[] rfl (by (try simp only [List.map_toArray, List.map_cons, List.map_nil]); first | done | rfl | (simp only [List.length_drop, List.length_take]; rfl)) ?_; (with_reducible refine (billetlaw06_awake.calls k  t818 _ A4.out).mono ?_); rintro e w57 ⟨rfl, hb⟩; refine ⟨_, rfl, ?_⟩; have n0_ := Aside0.mk (blk_below (g := gb817) (o := .cells #[.int .i64 a0_0, .slice A0_1 l0_1.length c0_1] 24 (0, 0)) (by (with_reducible repeat (first | refine blk_drewN ?_ _ | refine blk_drew ?_ | refine blk_alloc ?_ _)); exact BK817.out) hb); have n1_ := Aside0.mk (below_step (by repeat (first | (with_reducible first | exact HB.out | apply below_alloc | apply pw_below_drewN | apply below_drew1 | refine below_set ?_ GE817.out) | exact HB.out)) hb); clear BK817; clear HB; have BK817 := n0_; have HB := n1_; clear n0_ n1_; (try clear hb); (try clear hb2); (try clear hk); (try clear hi)))
            have n0_ := Aside0.mk (blk_drew BK817.out)
            have n1_ := Aside0.mk (below_drew1 HB.out)
            clear BK817
            clear HB
            have BK817 := n0_
            have HB := n1_
            clear n0_ n1_
            have q59 : ((ji5) : Int) ≤ ((l0_1.length : Int) : Int) := of_decide_eq_true (by first | (with_reducible assumption) | assumption)
            obtain ⟨i059, hi059, _, hsz59, _⟩ := info_parts info41
            have hroom59 : l0_1.length ≤ c0_1 := HC0_1.out
            have hC59 : Kd.C k41 _ A0_1 l0_1.length l0_1 := HR0_1.out
            have hcut59 := cut_to (P := Try.prog) 22 41 .i64 Try.underlying22 hi059 A0_1 l0_1.length c0_1 (ji5) (of_decide_eq_true (by first | (with_reducible assumption) | assumption)) q59 hroom59
            have hr59 := Kd.C_take (m := ((ji5) : Int).toNat) hC59 (by omega)
            have hy59 : y819.length = ((ji5) : Int).toNat := (by rw [Ny819.out, List.length_take]; omega)
            rw [← Ny819.out] at hr59
            rw [← hy59] at hcut59
            have HR822 := Aside0.mk hr59
            have HC822 := Aside0.mk (show y819.length ≤ c0_1 from by omega)
            clear hr59 hC59 hroom59 hi059 hsz59
            have KY59 := Aside0.mk hy59
            clear hy59
            replace q59 := eq_true q59
            refine start_ (n := 13) (S := fun w' => w'.cell? ⟨gb817, 0, none⟩ = some (.int .i64 a0_0) ∧ w'.cell? ⟨gb817, 1, none⟩ = some (.slice A0_1 l0_1.length c0_1)) (ds := []) #[false, false, false, false, false, false, false, false, false, false, false, false, false] (by kernel_rfl) rfl rfl ⟨(blk_cell BK817.out 0).trans rfl, (blk_cell BK817.out 1).trans rfl⟩ (fun hHeld => ?_); refine with_tabW billetlaw06_FlowParts.tab2 billetlaw06_FlowParts.bits2 (fun HT_ HW_ => ?_)
            generalize w57.drew = w58 at BK817 HB HR822 hHeld ⊢
            refine pure_ (i := 0) (N := some 25) (v := ?_) (a' := ?_) #[true, false, false, false, false, false, false, false, false, false, false, false, false] rfl rfl (any_of HT_.out (by kernel_rfl)) (fun _ _ _ h => h) (Or.inl ⟨by rfl, ?_⟩) ?_ ?_
            rotate_left
            · intro w'
              go_simp
              with_reducible rfl
            rotate_left
            · simp only [Act.put, List.setIfInBounds_toArray, List.set_cons_zero, List.set_cons_succ, i64_w, i32_w]
              rfl
            refine pure_ (i := 2) (N := some 27) (v := ?_) (a' := ?_) #[true, false, true, false, false, false, false, false, false, false, false, false, false] rfl rfl (any_of HT_.out (by kernel_rfl)) (fun _ _ _ h => h) (Or.inl ⟨by rfl, ?_⟩) ?_ ?_
            rotate_left
            · intro w'
              go_simp
              with_reducible rfl
            rotate_left
            · simp only [Act.put, List.setIfInBounds_toArray, List.set_cons_zero, List.set_cons_succ, i64_w, i32_w]
              rfl
            refine pure_ (i := 4) (N := some 29) (v := ?_) (a' := ?_) #[true, false, true, false, true, false, false, false, false, false, false, false, false] rfl rfl (any_of HT_.out (by kernel_rfl)) (fun _ _ _ h => h) (Or.inl ⟨by rfl, ?_⟩) ?_ ?_
            rotate_left
            · intro w'
              go_simp
              with_reducible rfl
            rotate_left
            · simp only [Act.put, List.setIfInBounds_toArray, List.set_cons_zero, List.set_cons_succ, i64_w, i32_w]
              rfl
            refine take_ (i := 1) (N := some 26) (v := ?_) (a' := ?_) #[true, true, true, false, true, false, false, false, false, false, false, false, false] rfl rfl (take_ofW HT_.out HW_.out (by kernel_rfl)) (fun _ _ _ h => h) (Or.inl ⟨by rfl, ?_⟩) hHeld ?_ ?_
            rotate_left
            · rintro w' ⟨s0, s1⟩
              go_simp
              with_reducible rfl
            rotate_left
            · simp only [Act.put, List.setIfInBounds_toArray, List.set_cons_zero, List.set_cons_succ, i64_w, i32_w]
              rfl
            refine take_ (i := 3) (N := some 28) (v := ?_) (a' := ?_) #[true, true, true, true, true, false, false, false, false, false, false, false, false] rfl rfl (take_ofW HT_.out HW_.out (by kernel_rfl)) (fun _ _ _ h => h) (Or.inl ⟨by rfl, ?_⟩) hHeld ?_ ?_
            rotate_left
            · rintro w' ⟨s0, s1⟩
              go_simp
              with_reducible rfl
            rotate_left
            · simp only [Act.put, List.setIfInBounds_toArray, List.set_cons_zero, List.set_cons_succ, i64_w, i32_w]
              rfl
            refine take_ (i := 5) (N := some 30) (v := ?_) (a' := ?_) #[true, true, true, true, true, true, false, false, false, false, false, false, false] rfl rfl (take_ofW HT_.out HW_.out (by kernel_rfl)) (fun _ _ _ h => h) (Or.inl ⟨by rfl, ?_⟩) hHeld ?_ ?_
            rotate_left
            · rintro w' ⟨s0, s1⟩
              go_simp
              with_reducible rfl
            rotate_left
            · simp only [Act.put, List.setIfInBounds_toArray, List.set_cons_zero, List.set_cons_succ, i64_w, i32_w]
              rfl
            refine pure_ (i := 6) (N := some 31) (v := ?_) (a' := ?_) #[true, true, true, true, true, true, true, false, false, false, false, false, false] rfl rfl (any_of HT_.out (by kernel_rfl)) (fun _ _ _ h => h) (Or.inl ⟨by rfl, ?_⟩) ?_ ?_
            rotate_left
            · intro w'
              go_simp
              with_reducible rfl
            rotate_left
            · simp only [Act.put, List.setIfInBounds_toArray, List.set_cons_zero, List.set_cons_succ, i64_w, i32_w]
              rfl
            refine pure_ (i := 7) (N := some 32) (v := ?_) (a' := ?_) #[true, true, true, true, true, true, true, true, false, false, false, false, false] rfl rfl (any_of HT_.out (by kernel_rfl)) (fun _ _ _ h => h) (Or.inl ⟨by rfl, ?_⟩) ?_ ?_
            rotate_left
            · intro w'
              go_simp
              with_reducible rfl
            rotate_left
            · simp only [Act.put, List.setIfInBounds_toArray, List.set_cons_zero, List.set_cons_succ, i64_w, i32_w]
              rfl
            refine pure_ (i := 8) (N := some 33) (v := ?_) (a' := ?_) #[true, true, true, true, true, true, true, true, true, false, false, false, false] rfl rfl (any_of HT_.out (by kernel_rfl)) (fun _ _ _ h => h) (Or.inl ⟨by rfl, ?_⟩) ?_ ?_
            rotate_left
            · intro w'
              go_simp
              with_reducible rfl
            rotate_left
            · simp only [Act.put, List.setIfInBounds_toArray, List.set_cons_zero, List.set_cons_succ, i64_w, i32_w]
              rfl
            refine pure_ (i := 9) (N := some 34) (v := ?_) (a' := ?_) #[true, true, true, true, true, true, true, true, true, true, false, false, false] rfl rfl (any_of HT_.out (by kernel_rfl)) (fun _ _ _ h => h) (Or.inl ⟨by rfl, ?_⟩) ?_ ?_
            rotate_left
            · intro w'
              go_simp
              with_reducible rfl
            rotate_left
            · simp only [Act.put, List.setIfInBounds_toArray, List.set_cons_zero, List.set_cons_succ, i64_w, i32_w]
              rfl
            refine join_ (σ := Value × Nat) 1 #[true, true, true, true, true, true, true, true, true, true, true, true, false] (fun s_ => [(35, .agg #[.int .i64 t823, s_.1]), (8, .pointer (some ⟨s_.2, 0, none⟩))]) (fun s_ w' => (w'.cell? ⟨gb817, 0, none⟩ = some (.int .i64 a0_0) ∧ w'.cell? ⟨gb817, 1, none⟩ = some (.slice A0_1 l0_1.length c0_1)) ∧ (Kd.R k41 41 w' w.heap.size (fun _ => True) s_.1 t824) ∧ (w'.heap[gb817]? = some (.cells #[.int .i64 a0_0, .slice A0_1 l0_1.length c0_1] 24 (0, 0))) ∧ (w'.heap[s_.2]? = some (.cells #[.int .i64 0, .slice none 0 0] 24 (0, 0))) ∧ (w.heap.size ≤ s_.2) ∧ (w.heap.size ≤ s_.2) ∧ (gb817 ≠ s_.2) ∧ (s_.2 ≠ gb817) ∧ (Below w.heap.size w w')) ?_ ?_
            rotate_left
            · intro hCont
              refine two_ (i := 10) (j := 11) (Ni := some 35) (Nj := some 8) #[true, true, true, true, true, true, true, true, true, true, true, false, false] #[true, true, true, true, true, true, true, true, true, true, false, true, false] rfl rfl rfl rfl (two_of HT_.out (by kernel_rfl)) (by decide) (by decide) (fun K hK => ?_) (fun K hK => ?_)
              · skip
                refine goes_ Try.func30 (by kernel_rfl) rfl #[.agg #[.int .i64 a0_0, .slice A0_1 y819.length c0_1]] (by rfl) rfl rfl (by (try simp only [List.map_toArray, List.map_cons, List.map_nil]); first | done | rfl | (simp only [List.length_drop, List.length_take]; rfl)) ?_
                with_reducible refine (billetlaw05_Fit.calls k a0_0 _ _ y819 t823 t824 _ ?side1 ?side2 A8.out).mono ?_
                (case side1 => repeat (first | exact (Kd.C_below HR822.out HB.out) | (with_reducible refine Kd.C_alloc ?_ _) | (with_reducible refine Kd.C_drewN ?_ _) | (with_reducible refine Kd.C_drew ?_)))
                (case side2 => exact HC822.out)
                rintro e w60 ⟨v825, rfl, ho0, hb⟩
                refine ⟨_, rfl, ?_⟩
                have n0_ := Aside0.mk (Kd.R_lower ho0 (below_size (by repeat (first | (with_reducible first | exact HB.out | apply below_alloc | apply pw_below_drewN | apply below_drew1 | refine below_set ?_ GE817.out) | exact HB.out))))
                have n1_ := Aside0.mk (blk_below (g := gb817) (o := .cells #[.int .i64 a0_0, .slice A0_1 l0_1.length c0_1] 24 (0, 0)) (by (with_reducible repeat (first | refine blk_drewN ?_ _ | refine blk_drew ?_ | refine blk_alloc ?_ _)); exact BK817.out) hb)
                have n2_ := Aside0.mk (below_step (by repeat (first | (with_reducible first | exact HB.out | apply below_alloc | apply pw_below_drewN | apply below_drew1 | refine below_set ?_ GE817.out) | exact HB.out)) hb)
                clear BK817
                clear HB
                have HO826 := n0_
                have BK817 := n1_
                have HB := n2_
                clear n0_ n1_ n2_
                (try clear hb)
                (try clear hb2)
                (try clear hk)
                (try clear hi)
                (try clear ho0)
                refine hK.out _ _ ⟨(blk_cell BK817.out 0).trans rfl, (blk_cell BK817.out 1).trans rfl⟩ (fun hHeld => ?_)
                clear hK K
                refine norm_ (a' := ?_) ?_ ?_
                rotate_left
                · show Act.put _ (some 35) _ = _
                  simp only [Act.put, List.setIfInBounds_toArray, List.set_cons_zero, List.set_cons_succ, i64_w, i32_w]
                  rfl
                refine one_ (i := 11) (N := some 8) #[true, true, true, true, true, true, true, true, true, true, true, true, false] rfl rfl (one_of HT_.out (by kernel_rfl)) (by decide) (fun K hK => ?_)
                refine box_step ?hg (N := 8) ?hd (cs := #[.int .i64 0, .slice none 0 0]) (t := 24) ?hr ?_; (case hd => rfl); (case hg => rfl); (case hr => first | (go_simp; done) | (go_simp; rfl))
                intro gb827 hg w61 hbox hb
                have n0_ := Aside0.mk (Kd.R_below (by (with_reducible repeat (first | apply Kd.R_alloc | apply Kd.R_drewN | apply Kd.R_drew)); exact HO826.out) hb)
                have n1_ := Aside0.mk (blk_below (g := gb817) (o := .cells #[.int .i64 a0_0, .slice A0_1 l0_1.length c0_1] 24 (0, 0)) (by (with_reducible repeat (first | refine blk_drewN ?_ _ | refine blk_drew ?_ | refine blk_alloc ?_ _)); exact BK817.out) hb)
                have n2_ := Aside0.mk (below_step (by repeat (first | (with_reducible first | exact HB.out | apply below_alloc | apply pw_below_drewN | apply below_drew1 | refine below_set ?_ GE817.out) | exact HB.out)) hb)
                have n3_ := Aside0.mk (hbox)
                have n4_ := Aside0.mk ((by rw [hg]; exact (below_size (by repeat (first | (with_reducible first | exact HB.out | apply below_alloc | apply pw_below_drewN | apply below_drew1 | refine below_set ?_ GE817.out) | exact HB.out))) : w.heap.size ≤ gb827))
                have n5_ := Aside0.mk ((by rw [hg]; exact (below_size (by repeat (first | (with_reducible first | exact HB.out | apply below_alloc | apply pw_below_drewN | apply below_drew1 | refine below_set ?_ GE817.out) | exact HB.out))) : w.heap.size ≤ gb827))
                have n6_ := Aside0.mk ((by rw [hg]; exact Nat.ne_of_lt (blk_lt (g := gb817) (o := .cells #[.int .i64 a0_0, .slice A0_1 l0_1.length c0_1] 24 (0, 0)) (by (with_reducible repeat (first | refine blk_drewN ?_ _ | refine blk_drew ?_ | refine blk_alloc ?_ _)); exact BK817.out)) : gb817 ≠ gb827))
                have n7_ := Aside0.mk ((by rw [hg]; exact Nat.ne_of_gt (blk_lt (g := gb817) (o := .cells #[.int .i64 a0_0, .slice A0_1 l0_1.length c0_1] 24 (0, 0)) (by (with_reducible repeat (first | refine blk_drewN ?_ _ | refine blk_drew ?_ | refine blk_alloc ?_ _)); exact BK817.out)) : gb827 ≠ gb817))
                clear HO826
                clear BK817
                clear HB
                have HO826 := n0_
                have BK817 := n1_
                have HB := n2_
                have BK827 := n3_
                have GW827 := n4_
                have GE827 := n5_
                have NB817_827 := n6_
                have NB827_817 := n7_
                clear n0_ n1_ n2_ n3_ n4_ n5_ n6_ n7_
                clear hb hbox hg
                refine hK.out _ _ ⟨(blk_cell BK817.out 0).trans rfl, (blk_cell BK817.out 1).trans rfl⟩ (fun hHeld => ?_)
                clear hK K
                refine norm_ (a' := ?_) ?_ ?_
                rotate_left
                · show Act.put _ (some 8) _ = _
                  simp only [Act.put, List.setIfInBounds_toArray, List.set_cons_zero, List.set_cons_succ, i64_w, i32_w]
                  rfl
                exact norm_ (by simp only [putAll, Act.put, List.setIfInBounds_toArray, List.set_cons_zero, List.set_cons_succ]) (hCont (v825, gb827) _ ⟨hHeld, (by (with_reducible repeat (first | apply Kd.R_alloc | apply Kd.R_drewN | apply Kd.R_drew)); exact HO826.out), (by (with_reducible repeat (first | refine blk_drewN ?_ _ | refine blk_drew ?_ | refine blk_alloc ?_ _)); exact BK817.out), (by (with_reducible repeat (first | refine blk_drewN ?_ _ | refine blk_drew ?_ | refine blk_alloc ?_ _)); exact BK827.out), GW827.out, GE827.out, NB817_827.out, NB827_817.out, (by repeat (first | (with_reducible first | exact HB.out | apply below_alloc | apply pw_below_drewN | apply below_drew1 | refine below_set ?_ GE817.out | refine below_set ?_ GE827.out) | exact HB.out))⟩)
              · skip
                refine box_step ?hg (N := 8) ?hd (cs := #[.int .i64 0, .slice none 0 0]) (t := 24) ?hr ?_; (case hd => rfl); (case hg => rfl); (case hr => first | (go_simp; done) | (go_simp; rfl))
                intro gb827 hg w60 hbox hb
                have n0_ := Aside0.mk (blk_below (g := gb817) (o := .cells #[.int .i64 a0_0, .slice A0_1 l0_1.length c0_1] 24 (0, 0)) (by (with_reducible repeat (first | refine blk_drewN ?_ _ | refine blk_drew ?_ | refine blk_alloc ?_ _)); exact BK817.out) hb)
                have n1_ := Aside0.mk (below_step (by repeat (first | (with_reducible first | exact HB.out | apply below_alloc | apply pw_below_drewN | apply below_drew1 | refine below_set ?_ GE817.out) | exact HB.out)) hb)
                have n2_ := Aside0.mk (hbox)
                have n3_ := Aside0.mk ((by rw [hg]; exact (below_size (by repeat (first | (with_reducible first | exact HB.out | apply below_alloc | apply pw_below_drewN | apply below_drew1 | refine below_set ?_ GE817.out) | exact HB.out))) : w.heap.size ≤ gb827))
                have n4_ := Aside0.mk ((by rw [hg]; exact (below_size (by repeat (first | (with_reducible first | exact HB.out | apply below_alloc | apply pw_below_drewN | apply below_drew1 | refine below_set ?_ GE817.out) | exact HB.out))) : w.heap.size ≤ gb827))
                have n5_ := Aside0.mk ((by rw [hg]; exact Nat.ne_of_lt (blk_lt (g := gb817) (o := .cells #[.int .i64 a0_0, .slice A0_1 l0_1.length c0_1] 24 (0, 0)) (by (with_reducible repeat (first | refine blk_drewN ?_ _ | refine blk_drew ?_ | refine blk_alloc ?_ _)); exact BK817.out)) : gb817 ≠ gb827))
                have n6_ := Aside0.mk ((by rw [hg]; exact Nat.ne_of_gt (blk_lt (g := gb817) (o := .cells #[.int .i64 a0_0, .slice A0_1 l0_1.length c0_1] 24 (0, 0)) (by (with_reducible repeat (first | refine blk_drewN ?_ _ | refine blk_drew ?_ | refine blk_alloc ?_ _)); exact BK817.out)) : gb827 ≠ gb817))
                clear BK817
                clear HB
                have BK817 := n0_
                have HB := n1_
                have BK827 := n2_
                have GW827 := n3_
                have GE827 := n4_
                have NB817_827 := n5_
                have NB827_817 := n6_
                clear n0_ n1_ n2_ n3_ n4_ n5_ n6_
                clear hb hbox hg
                refine hK.out _ _ ⟨(blk_cell BK817.out 0).trans rfl, (blk_cell BK817.out 1).trans rfl⟩ (fun hHeld => ?_)
                clear hK K
                refine norm_ (a' := ?_) ?_ ?_
                rotate_left
                · show Act.put _ (some 8) _ = _
                  simp only [Act.put, List.setIfInBounds_toArray, List.set_cons_zero, List.set_cons_succ, i64_w, i32_w]
                  rfl
                refine one_ (i := 10) (N := some 35) #[true, true, true, true, true, true, true, true, true, true, true, true, false] rfl rfl (one_of HT_.out (by kernel_rfl)) (by decide) (fun K hK => ?_)
                refine goes_ Try.func30 (by kernel_rfl) rfl #[.agg #[.int .i64 a0_0, .slice A0_1 y819.length c0_1]] (by rfl) rfl rfl (by (try simp only [List.map_toArray, List.map_cons, List.map_nil]); first | done | rfl | (simp only [List.length_drop, List.length_take]; rfl)) ?_
                with_reducible refine (billetlaw05_Fit.calls k a0_0 _ _ y819 t823 t824 _ ?side1 ?side2 A8.out).mono ?_
                (case side1 => repeat (first | exact (Kd.C_below HR822.out HB.out) | (with_reducible refine Kd.C_alloc ?_ _) | (with_reducible refine Kd.C_drewN ?_ _) | (with_reducible refine Kd.C_drew ?_)))
                (case side2 => exact HC822.out)
                rintro e w61 ⟨v825, rfl, ho0, hb⟩
                refine ⟨_, rfl, ?_⟩
                have n0_ := Aside0.mk (Kd.R_lower ho0 (below_size (by repeat (first | (with_reducible first | exact HB.out | apply below_alloc | apply pw_below_drewN | apply below_drew1 | refine below_set ?_ GE817.out | refine below_set ?_ GE827.out) | exact HB.out))))
                have n1_ := Aside0.mk (blk_below (g := gb817) (o := .cells #[.int .i64 a0_0, .slice A0_1 l0_1.length c0_1] 24 (0, 0)) (by (with_reducible repeat (first | refine blk_drewN ?_ _ | refine blk_drew ?_ | refine blk_alloc ?_ _)); exact BK817.out) hb)
                have n2_ := Aside0.mk (blk_below (g := gb827) (o := .cells #[.int .i64 0, .slice none 0 0] 24 (0, 0)) (by (with_reducible repeat (first | refine blk_drewN ?_ _ | refine blk_drew ?_ | refine blk_alloc ?_ _)); exact BK827.out) hb)
                have n3_ := Aside0.mk (below_step (by repeat (first | (with_reducible first | exact HB.out | apply below_alloc | apply pw_below_drewN | apply below_drew1 | refine below_set ?_ GE817.out | refine below_set ?_ GE827.out) | exact HB.out)) hb)
                clear BK817
                clear BK827
                clear HB
                have HO826 := n0_
                have BK817 := n1_
                have BK827 := n2_
                have HB := n3_
                clear n0_ n1_ n2_ n3_
                (try clear hb)
                (try clear hb2)
                (try clear hk)
                (try clear hi)
                (try clear ho0)
                refine hK.out _ _ ⟨(blk_cell BK817.out 0).trans rfl, (blk_cell BK817.out 1).trans rfl⟩ (fun hHeld => ?_)
                clear hK K
                refine norm_ (a' := ?_) ?_ ?_
                rotate_left
                · show Act.put _ (some 35) _ = _
                  simp only [Act.put, List.setIfInBounds_toArray, List.set_cons_zero, List.set_cons_succ, i64_w, i32_w]
                  rfl
                exact norm_ (by simp only [putAll, Act.put, List.setIfInBounds_toArray, List.set_cons_zero, List.set_cons_succ]) (hCont (v825, gb827) _ ⟨hHeld, (by (with_reducible repeat (first | apply Kd.R_alloc | apply Kd.R_drewN | apply Kd.R_drew)); exact HO826.out), (by (with_reducible repeat (first | refine blk_drewN ?_ _ | refine blk_drew ?_ | refine blk_alloc ?_ _)); exact BK817.out), (by (with_reducible repeat (first | refine blk_drewN ?_ _ | refine blk_drew ?_ | refine blk_alloc ?_ _)); exact BK827.out), GW827.out, GE827.out, NB817_827.out, NB827_817.out, (by repeat (first | (with_reducible first | exact HB.out | apply below_alloc | apply pw_below_drewN | apply below_drew1 | refine below_set ?_ GE817.out | refine below_set ?_ GE827.out) | exact HB.out))⟩)
            rintro ⟨v825, gb827⟩ w62 ⟨hS_, h0_, h1_, h2_, h3_, h4_, h5_, h6_, h7_⟩
            have n0_ : Aside0 (Kd.R k41 41 w62 w.heap.size (fun _ => True) v825 t824) := ⟨h0_⟩
            have n1_ : Aside0 (w62.heap[gb817]? = some (.cells #[.int .i64 a0_0, .slice A0_1 l0_1.length c0_1] 24 (0, 0))) := ⟨h1_⟩
            have n2_ : Aside0 (w62.heap[gb827]? = some (.cells #[.int .i64 0, .slice none 0 0] 24 (0, 0))) := ⟨h2_⟩
            have n3_ : Aside0 (w.heap.size ≤ gb827) := ⟨h3_⟩
            have n4_ : Aside0 (w.heap.size ≤ gb827) := ⟨h4_⟩
            have n5_ : Aside0 (gb817 ≠ gb827) := ⟨h5_⟩
            have n6_ : Aside0 (gb827 ≠ gb817) := ⟨h6_⟩
            have n7_ : Aside0 (Below w.heap.size w w62) := ⟨h7_⟩
            clear BK817
            clear HB
            clear h0_ h1_ h2_ h3_ h4_ h5_ h6_ h7_
            have HO826 := n0_
            have BK817 := n1_
            have BK827 := n2_
            have GW827 := n3_
            have GE827 := n4_
            have NB817_827 := n5_
            have NB827_817 := n6_
            have HB := n7_
            clear n0_ n1_ n2_ n3_ n4_ n5_ n6_ n7_
            have hHeld : w62.cell? ⟨gb817, 0, none⟩ = some (.int .i64 a0_0) ∧ w62.cell? ⟨gb817, 1, none⟩ = some (.slice A0_1 l0_1.length c0_1) := hS_
            obtain ⟨Ao64, co64, eo64⟩ := Kd.R_slice HO826.out
            (first | subst eo64 | (injection eo64 with f1_ f2_ f3_; have f4_ := f1_.symm; have f5_ := f3_.symm; clear f1_ f2_ f3_; subst f4_; subst f5_))
            refine norm_ (a' := ?_) ?_ ?_
            rotate_left
            · simp only [putAll, Act.put, List.setIfInBounds_toArray, List.set_cons_zero, List.set_cons_succ]
              rfl
            refine one_ (i := 12) (N := none) #[true, true, true, true, true, true, true, true, true, true, true, true, true] rfl rfl (one_of HT_.out (by kernel_rfl)) (by decide) (fun K hK => ?_)
            have hs63 : w62.cell? ⟨gb827, 0, none⟩ = some (.int .i64 0) := (blk_cell BK827.out 0).trans rfl
            have hfs63 := blk_frozen BK827.out 0
            have hns63_0 := NB817_827.out
            have hms63_0 := NB827_817.out
            have hs65 : w62.cell? ⟨gb827, 1, none⟩ = some (.slice none 0 0) := (blk_cell BK827.out 1).trans rfl
            have hfs65 := blk_frozen BK827.out 1
            have hns65_0 := NB817_827.out
            have hms65_0 := NB827_817.out
            refine skip_ (w1 := ?_) (by rfl) rfl ?_ ?_
            rotate_left
            · go_simp
              rfl
            refine hK.out _ _ ⟨((cell_far (p := ⟨gb827, _, none⟩) NB817_827.out _).trans (((cell_far (p := ⟨gb827, _, none⟩) NB817_827.out _).trans (hHeld.1)))), ((cell_far (p := ⟨gb827, _, none⟩) NB817_827.out _).trans (((cell_far (p := ⟨gb827, _, none⟩) NB817_827.out _).trans (hHeld.2))))⟩ (fun hHeld => ?_)
            clear hK K
            refine done_ (done_of HT_.out (by kernel_rfl)) ?_
            have hnb66 := NB827_817.out
            have hnc66 := NB817_827.out
            have hcz67_0 : w62.cell? ⟨gb827, 0, none⟩ = some (.int .i64 0) := (blk_cell BK827.out 0).trans rfl
            have hcz67_1 : w62.cell? ⟨gb827, 1, none⟩ = some (.slice none 0 0) := (blk_cell BK827.out 1).trans rfl
            have hfz67_0 := blk_frozen BK827.out 0
            have hfz67_1 := blk_frozen BK827.out 1
            try go_wp2_with (first | ((with_reducible refine gate_callee (f := 40) rfl ?_); refine goesL_ (some 59) rfl rfl Try.func40 (by kernel_rfl) rfl #[.int .i64 a1, .int .i64 (t824.length : Int)] rfl (by (try simp only [List.map_toArray, List.map_cons, List.map_nil]); first | done | rfl | (simp only [List.length_drop, List.length_take]; rfl)) ?_; (with_reducible refine (billetlaw06_pick.calls a1 (t824.length : Int) t833 _ A52.out).mono ?_); rintro e w' ⟨rfl, ⟨nd, rfl⟩⟩; refine ⟨_, rfl, ?_⟩; have p834 : 0 ≤ (t833 : Int) := of_decide_eq_true (by first | (with_reducible assumption) | assumption); have q834 : t833 < (t824.length : Int) := of_decide_eq_true (by first | (with_reducible assumption) | assumption); obtain ⟨ad834, e834, hx834_0, hx834_1, hx834_2⟩ := at_T41 (Kd.R_reads' HO826.out).2.2 t833 p834 q834; cases e834; have hn834_0 : ad834.block ≠ gb827 := Kd.own_blk (Kd.R_ne HO826.out BK827.out (by decide)); have hn834_1 : ad834.block ≠ gb827 := Kd.own_blk (Kd.R_ne HO826.out BK827.out (by decide)); replace hx834_0 := (cell_far (p := ⟨gb827, 0, none⟩) (by first | (rw [add_block]; exact hn834_0) | (show (Addr.add _ _).block ≠ _; rw [add_block]; exact hn834_0) | exact hn834_0) (.int .i64 t823)).trans hx834_0; replace hx834_1 := (cell_far (p := ⟨gb827, 0, none⟩) (by first | (rw [add_block]; exact hn834_0) | (show (Addr.add _ _).block ≠ _; rw [add_block]; exact hn834_0) | exact hn834_0) (.int .i64 t823)).trans hx834_1; replace hx834_2 := (cell_far (p := ⟨gb827, 0, none⟩) (by first | (rw [add_block]; exact hn834_0) | (show (Addr.add _ _).block ≠ _; rw [add_block]; exact hn834_0) | exact hn834_0) (.int .i64 t823)).trans hx834_2; replace hx834_0 := (cell_far (p := ⟨gb827, 1, none⟩) (by first | (rw [add_block]; exact hn834_1) | (show (Addr.add _ _).block ≠ _; rw [add_block]; exact hn834_1) | exact hn834_1) (.slice (some ad834) t824.length co64)).trans hx834_0; replace hx834_1 := (cell_far (p := ⟨gb827, 1, none⟩) (by first | (rw [add_block]; exact hn834_1) | (show (Addr.add _ _).block ≠ _; rw [add_block]; exact hn834_1) | exact hn834_1) (.slice (some ad834) t824.length co64)).trans hx834_1; replace hx834_2 := (cell_far (p := ⟨gb827, 1, none⟩) (by first | (rw [add_block]; exact hn834_1) | (show (Addr.add _ _).block ≠ _; rw [add_block]; exact hn834_1) | exact hn834_1) (.slice (some ad834) t824.length co64)).trans hx834_2; clear hn834_0; clear hn834_1; replace p834 := eq_true p834; replace q834 := eq_true q834) | ((with_reducible refine gate_dst (N := 13) rfl ?_); refine box_event ?hg (N := 13) ?hd (cs := #[.int .i64 0, .int .i64 0, .int .i64 0]) (t := 41) ?hr ?_; (case hd => rfl); (case hg => rfl); (case hr => first | (go_simp; done) | (go_simp; rfl)); intro gb835 hg w68 hbox hb; have n0_ := Aside0.mk (Kd.R_below (Kd.R_elderB (by (with_reducible repeat (first | apply Kd.R_alloc | apply Kd.R_drewN | apply Kd.R_drew)); exact (Kd.R_mono (Kd.R_far (p := ⟨gb827, 1, none⟩) (Kd.R_far (p := ⟨gb827, 0, none⟩) (Kd.R_types HO826.out BK827.out (by decide)) (fun _ hk => hk.2) (.int .i64 t823)) (fun _ hk => hk.2) (.slice (some ad834) t824.length co64)) (fun _ h_ => h_.1))) gb835 (Nat.le_of_eq hg.symm)) hb); have n1_ := Aside0.mk (blk_below (g := gb817) (o := .cells #[.int .i64 a0_0, .slice A0_1 l0_1.length c0_1] 24 (0, 0)) (by (with_reducible repeat (first | refine blk_drewN ?_ _ | refine blk_drew ?_ | refine blk_alloc ?_ _)); refine blk_far ?_ NB817_827.out _; (with_reducible repeat (first | refine blk_drewN ?_ _ | refine blk_drew ?_ | refine blk_alloc ?_ _)); refine blk_far ?_ NB817_827.out _; (with_reducible repeat (first | refine blk_drewN ?_ _ | refine blk_drew ?_ | refine blk_alloc ?_ _)); exact BK817.out) hb); have n2_ := Aside0.mk (blk_below (g := gb827) (o := .cells #[.int .i64 t823, .slice (some ad834) t824.length co64] 24 (0, 0)) (by (with_reducible repeat (first | refine blk_drewN ?_ _ | refine blk_drew ?_ | refine blk_alloc ?_ _)); refine blk_put (cs := #[.int .i64 t823, .slice none 0 0]) ?_ 1 _ rfl; (with_reducible repeat (first | refine blk_drewN ?_ _ | refine blk_drew ?_ | refine blk_alloc ?_ _)); refine blk_put (cs := #[.int .i64 0, .slice none 0 0]) ?_ 0 _ rfl; (with_reducible repeat (first | refine blk_drewN ?_ _ | refine blk_drew ?_ | refine blk_alloc ?_ _)); exact BK827.out) hb); have n3_ := Aside0.mk (below_step (by repeat (first | (with_reducible first | exact HB.out | apply below_alloc | apply pw_below_drewN | apply below_drew1 | refine below_set ?_ GE817.out | refine below_set ?_ GE827.out) | exact HB.out)) hb); have n4_ := Aside0.mk (hbox); have n5_ := Aside0.mk ((by rw [hg]; exact (below_size (by repeat (first | (with_reducible first | exact HB.out | apply below_alloc | apply pw_below_drewN | apply below_drew1 | refine below_set ?_ GE817.out | refine below_set ?_ GE827.out) | exact HB.out))) : w.heap.size ≤ gb835)); have n6_ := Aside0.mk ((by rw [hg]; exact (below_size (by repeat (first | (with_reducible first | exact HB.out | apply below_alloc | apply pw_below_drewN | apply below_drew1 | refine below_set ?_ GE817.out | refine below_set ?_ GE827.out) | exact HB.out))) : w.heap.size ≤ gb835)); have n7_ := Aside0.mk ((by rw [hg]; exact Nat.ne_of_lt (blk_lt (g := gb817) (o := .cells #[.int .i64 a0_0, .slice A0_1 l0_1.length c0_1] 24 (0, 0)) (by (with_reducible repeat (first | refine blk_drewN ?_ _ | refine blk_drew ?_ | refine blk_alloc ?_ _)); refine blk_far ?_ NB817_827.out _; (with_reducible repeat (first | refine blk_drewN ?_ _ | refine blk_drew ?_ | refine blk_alloc ?_ _)); refine blk_far ?_ NB817_827.out _; (with_reducible repeat (first | refine blk_drewN ?_ _ | refine blk_drew ?_ | refine blk_alloc ?_ _)); exact BK817.out)) : gb817 ≠ gb835)); have n8_ := Aside0.mk ((by rw [hg]; exact Nat.ne_of_gt (blk_lt (g := gb817) (o := .cells #[.int .i64 a0_0, .slice A0_1 l0_1.length c0_1] 24 (0, 0)) (by (with_reducible repeat (first | refine blk_drewN ?_ _ | refine blk_drew ?_ | refine blk_alloc ?_ _)); refine blk_far ?_ NB817_827.out _; (with_reducible repeat (first | refine blk_drewN ?_ _ | refine blk_drew ?_ | refine blk_alloc ?_ _)); refine blk_far ?_ NB817_827.out _; (with_reducible repeat (first | refine blk_drewN ?_ _ | refine blk_drew ?_ | refine blk_alloc ?_ _)); exact BK817.out)) : gb835 ≠ gb817)); have n9_ := Aside0.mk ((by rw [hg]; exact Nat.ne_of_lt (blk_lt (g := gb827) (o := .cells #[.int .i64 t823, .slice (some ad834) t824.length co64] 24 (0, 0)) (by (with_reducible repeat (first | refine blk_drewN ?_ _ | refine blk_drew ?_ | refine blk_alloc ?_ _)); refine blk_put (cs := #[.int .i64 t823, .slice none 0 0]) ?_ 1 _ rfl; (with_reducible repeat (first | refine blk_drewN ?_ _ | refine blk_drew ?_ | refine blk_alloc ?_ _)); refine blk_put (cs := #[.int .i64 0, .slice none 0 0]) ?_ 0 _ rfl; (with_reducible repeat (first | refine blk_drewN ?_ _ | refine blk_drew ?_ | refine blk_alloc ?_ _)); exact BK827.out)) : gb827 ≠ gb835)); have n10_ := Aside0.mk ((by rw [hg]; exact Nat.ne_of_gt (blk_lt (g := gb827) (o := .cells #[.int .i64 t823, .slice (some ad834) t824.length co64] 24 (0, 0)) (by (with_reducible repeat (first | refine blk_drewN ?_ _ | refine blk_drew ?_ | refine blk_alloc ?_ _)); refine blk_put (cs := #[.int .i64 t823, .slice none 0 0]) ?_ 1 _ rfl; (with_reducible repeat (first | refine blk_drewN ?_ _ | refine blk_drew ?_ | refine blk_alloc ?_ _)); refine blk_put (cs := #[.int .i64 0, .slice none 0 0]) ?_ 0 _ rfl; (with_reducible repeat (first | refine blk_drewN ?_ _ | refine blk_drew ?_ | refine blk_alloc ?_ _)); exact BK827.out)) : gb835 ≠ gb827)); clear HO826; clear BK817; clear BK827; clear HB; have HO826 := n0_; have BK817 := n1_; have BK827 := n2_; have HB := n3_; have BK835 := n4_; have GW835 := n5_; have GE835 := n6_; have NB817_835 := n7_; have NB835_817 := n8_; have NB827_835 := n9_; have NB835_827 := n10_; clear n0_ n1_ n2_ n3_ n4_ n5_ n6_ n7_ n8_ n9_ n10_; clear hb hbox hg; have hnb69 := NB835_817.out; have hnc69 := NB817_835.out; have hnb70 := NB835_827.out; have hnc70 := NB827_835.out; have hcz71_0 : w68.cell? ⟨gb835, 0, none⟩ = some (.int .i64 0) := (blk_cell BK835.out 0).trans rfl; have hcz71_1 : w68.cell? ⟨gb835, 1, none⟩ = some (.int .i64 0) := (blk_cell BK835.out 1).trans rfl; have hcz71_2 : w68.cell? ⟨gb835, 2, none⟩ = some (.int .i64 0) := (blk_cell BK835.out 2).trans rfl; have hfz71_0 := blk_frozen BK835.out 0; have hfz71_1 := blk_frozen BK835.out 1; have hfz71_2 := blk_frozen BK835.out 2) | ((with_reducible refine gate_callee (f := 40) rfl ?_); refine goesL_ (some 69) rfl rfl Try.func40 (by kernel_rfl) rfl #[.int .i64 a2, .int .i64 (wrap64 (((rd_T41 t824 t833).f2) + 1))] rfl (by (try simp only [List.map_toArray, List.map_cons, List.map_nil]); first | done | rfl | (simp only [List.length_drop, List.length_take]; rfl)) ?_; (with_reducible refine (billetlaw06_pick.calls a2 (wrap64 (((rd_T41 t824 t833).f2) + 1)) t836 _ A55.out).mono ?_); rintro e w' ⟨rfl, ⟨nd, rfl⟩⟩; refine ⟨_, rfl, ?_⟩; have hcz72_0 : w68.cell? ⟨gb827, 0, none⟩ = some (.int .i64 t823) := (blk_cell BK827.out 0).trans rfl; have hcz72_1 : w68.cell? ⟨gb827, 1, none⟩ = some (.slice (some ad834) t824.length co64) := (blk_cell BK827.out 1).trans rfl; have hfz72_0 := blk_frozen BK827.out 0; have hfz72_1 := blk_frozen BK827.out 1) | ((with_reducible refine gate_dst (N := 78) rfl ?_); refine Kd.R_lit k41 _ 41 ?hg (N := 78) ?hd (xs := ([(⟨(rd_T41 t824 t833).f0, (rd_T41 t824 t833).f1, t836⟩ : S41)] : List (S41))) (inner := [.int .i64 ((rd_T41 t824 t833).f0), .int .i64 ((rd_T41 t824 t833).f1), .int .i64 t836]) (ok := fun _ => True) (okp := fun _ => True) ?hr ?hp (fun _ hk => hk) trivial (Below.refl _ _) (Nat.le_refl _) (by simp) ?_; (case hd => rfl); (case hg => rfl); (case hr => first | (go_simp; done) | (go_simp; rfl)); (case hp => exact (Reps.c3 (show Kd.M k41 _ _ _ (⟨(rd_T41 t824 t833).f0, (rd_T41 t824 t833).f1, t836⟩ : S41) [.int .i64 ((rd_T41 t824 t833).f0), .int .i64 ((rd_T41 t824 t833).f1), .int .i64 t836] from (k41_mkM _ _ _ (⟨(rd_T41 t824 t833).f0, (rd_T41 t824 t833).f1, t836⟩ : S41) )) (Reps.none _ _))); intro v838 w73 ho74 hb hg_ hnew_; clear hg_ hnew_; (first | rw [← Ny837.out] at ho74 | (simp only [Int.reduceToNat] at ho74; rw [← Ny837.out] at ho74)); have n0_ := Aside0.mk (Kd.R_elder' (by (with_reducible repeat (first | apply Kd.R_alloc | apply Kd.R_drewN | apply Kd.R_drew)); exact (Kd.R_mono (Kd.R_far (p := ⟨gb835, 2, none⟩) (Kd.R_far (p := ⟨gb835, 1, none⟩) (Kd.R_far (p := ⟨gb835, 0, none⟩) (Kd.R_mono HO826.out (fun k_ hk => (⟨hk, hk.2⟩ : _ ∧ k_ ≠ gb835))) (fun _ hk => hk.2) (.int .i64 ((rd_T41 t824 t833).f0))) (fun _ hk => hk.2) (.int .i64 ((rd_T41 t824 t833).f1))) (fun _ hk => hk.2) (.int .i64 ((rd_T41 t824 t833).f2))) (fun _ h_ => h_.1))) (Kd.R_base ho74) hb); have n1_ := Aside0.mk (Kd.R_lower (Kd.R_newB (Kd.R_new' ho74 (Kd.R_lt (by (with_reducible repeat (first | apply Kd.R_alloc | apply Kd.R_drewN | apply Kd.R_drew)); exact (Kd.R_mono (Kd.R_far (p := ⟨gb835, 2, none⟩) (Kd.R_far (p := ⟨gb835, 1, none⟩) (Kd.R_far (p := ⟨gb835, 0, none⟩) (Kd.R_mono HO826.out (fun k_ hk => (⟨hk, hk.2⟩ : _ ∧ k_ ≠ gb835))) (fun _ hk => hk.2) (.int .i64 ((rd_T41 t824 t833).f0))) (fun _ hk => hk.2) (.int .i64 ((rd_T41 t824 t833).f1))) (fun _ hk => hk.2) (.int .i64 ((rd_T41 t824 t833).f2))) (fun _ h_ => h_.1))))) (g := gb835) (o := .cells #[.int .i64 ((rd_T41 t824 t833).f0), .int .i64 ((rd_T41 t824 t833).f1), .int .i64 ((rd_T41 t824 t833).f2)] 41 (0, 0)) (by (with_reducible repeat (first | refine blk_drewN ?_ _ | refine blk_drew ?_ | refine blk_alloc ?_ _)); refine blk_put (cs := #[.int .i64 ((rd_T41 t824 t833).f0), .int .i64 ((rd_T41 t824 t833).f1), .int .i64 0]) ?_ 2 _ rfl; (with_reducible repeat (first | refine blk_drewN ?_ _ | refine blk_drew ?_ | refine blk_alloc ?_ _)); refine blk_put (cs := #[.int .i64 ((rd_T41 t824 t833).f0), .int .i64 0, .int .i64 0]) ?_ 1 _ rfl; (with_reducible repeat (first | refine blk_drewN ?_ _ | refine blk_drew ?_ | refine blk_alloc ?_ _)); refine blk_put (cs := #[.int .i64 0, .int .i64 0, .int .i64 0]) ?_ 0 _ rfl; (with_reducible repeat (first | refine blk_drewN ?_ _ | refine blk_drew ?_ | refine blk_alloc ?_ _)); exact BK835.out)) (below_size (by repeat (first | (with_reducible first | exact HB.out | apply below_alloc | apply pw_below_drewN | apply below_drew1 | refine below_set ?_ GE817.out | refine below_set ?_ GE827.out | refine below_set ?_ GE835.out) | exact HB.out)))); have n2_ := Aside0.mk (blk_below (g := gb817) (o := .cells #[.int .i64 a0_0, .slice A0_1 l0_1.length c0_1] 24 (0, 0)) (by (with_reducible repeat (first | refine blk_drewN ?_ _ | refine blk_drew ?_ | refine blk_alloc ?_ _)); refine blk_far ?_ NB817_835.out _; (with_reducible repeat (first | refine blk_drewN ?_ _ | refine blk_drew ?_ | refine blk_alloc ?_ _)); refine blk_far ?_ NB817_835.out _; (with_reducible repeat (first | refine blk_drewN ?_ _ | refine blk_drew ?_ | refine blk_alloc ?_ _)); refine blk_far ?_ NB817_835.out _; (with_reducible repeat (first | refine blk_drewN ?_ _ | refine blk_drew ?_ | refine blk_alloc ?_ _)); exact BK817.out) hb); have n3_ := Aside0.mk (blk_below (g := gb827) (o := .cells #[.int .i64 t823, .slice (some ad834) t824.length co64] 24 (0, 0)) (by (with_reducible repeat (first | refine blk_drewN ?_ _ | refine blk_drew ?_ | refine blk_alloc ?_ _)); refine blk_far ?_ NB827_835.out _; (with_reducible repeat (first | refine blk_drewN ?_ _ | refine blk_drew ?_ | refine blk_alloc ?_ _)); refine blk_far ?_ NB827_835.out _; (with_reducible repeat (first | refine blk_drewN ?_ _ | refine blk_drew ?_ | refine blk_alloc ?_ _)); refine blk_far ?_ NB827_835.out _; (with_reducible repeat (first | refine blk_drewN ?_ _ | refine blk_drew ?_ | refine blk_alloc ?_ _)); exact BK827.out) hb); have n4_ := Aside0.mk (blk_below (g := gb835) (o := .cells #[.int .i64 ((rd_T41 t824 t833).f0), .int .i64 ((rd_T41 t824 t833).f1), .int .i64 ((rd_T41 t824 t833).f2)] 41 (0, 0)) (by (with_reducible repeat (first | refine blk_drewN ?_ _ | refine blk_drew ?_ | refine blk_alloc ?_ _)); refine blk_put (cs := #[.int .i64 ((rd_T41 t824 t833).f0), .int .i64 ((rd_T41 t824 t833).f1), .int .i64 0]) ?_ 2 _ rfl; (with_reducible repeat (first | refine blk_drewN ?_ _ | refine blk_drew ?_ | refine blk_alloc ?_ _)); refine blk_put (cs := #[.int .i64 ((rd_T41 t824 t833).f0), .int .i64 0, .int .i64 0]) ?_ 1 _ rfl; (with_reducible repeat (first | refine blk_drewN ?_ _ | refine blk_drew ?_ | refine blk_alloc ?_ _)); refine blk_put (cs := #[.int .i64 0, .int .i64 0, .int .i64 0]) ?_ 0 _ rfl; (with_reducible repeat (first | refine blk_drewN ?_ _ | refine blk_drew ?_ | refine blk_alloc ?_ _)); exact BK835.out) hb); have n5_ := Aside0.mk (below_step (by repeat (first | (with_reducible first | exact HB.out | apply below_alloc | apply pw_below_drewN | apply below_drew1 | refine below_set ?_ GE817.out | refine below_set ?_ GE827.out | refine below_set ?_ GE835.out) | exact HB.out)) hb); clear HO826; clear BK817; clear BK827; clear BK835; clear HB; have HO826 := n0_; have HO839 := n1_; have BK817 := n2_; have BK827 := n3_; have BK835 := n4_; have HB := n5_; clear n0_ n1_ n2_ n3_ n4_ n5_; clear hb ho74; obtain ⟨Ao75, co75, eo75⟩ := Kd.R_slice HO839.out; subst eo75) | ((with_reducible refine gate_dst (N := 15) rfl ?_); refine box_event ?hg (N := 15) ?hd (cs := #[.int .i64 0, .slice none 0 0]) (t := 24) ?hr ?_; (case hd => rfl); (case hg => rfl); (case hr => first | (go_simp; done) | (go_simp; rfl)); intro gb840 hg w76 hbox hb; have n0_ := Aside0.mk (Kd.R_below (by (with_reducible repeat (first | apply Kd.R_alloc | apply Kd.R_drewN | apply Kd.R_drew)); exact HO826.out) hb); have n1_ := Aside0.mk (Kd.R_below (by (with_reducible repeat (first | apply Kd.R_alloc | apply Kd.R_drewN | apply Kd.R_drew)); exact HO839.out) hb); have n2_ := Aside0.mk (blk_below (g := gb817) (o := .cells #[.int .i64 a0_0, .slice A0_1 l0_1.length c0_1] 24 (0, 0)) (by (with_reducible repeat (first | refine blk_drewN ?_ _ | refine blk_drew ?_ | refine blk_alloc ?_ _)); exact BK817.out) hb); have n3_ := Aside0.mk (blk_below (g := gb827) (o := .cells #[.int .i64 t823, .slice (some ad834) t824.length co64] 24 (0, 0)) (by (with_reducible repeat (first | refine blk_drewN ?_ _ | refine blk_drew ?_ | refine blk_alloc ?_ _)); exact BK827.out) hb); have n4_ := Aside0.mk (blk_below (g := gb835) (o := .cells #[.int .i64 ((rd_T41 t824 t833).f0), .int .i64 ((rd_T41 t824 t833).f1), .int .i64 ((rd_T41 t824 t833).f2)] 41 (0, 0)) (by (with_reducible repeat (first | refine blk_drewN ?_ _ | refine blk_drew ?_ | refine blk_alloc ?_ _)); exact BK835.out) hb); have n5_ := Aside0.mk (below_step (by repeat (first | (with_reducible first | exact HB.out | apply below_alloc | apply pw_below_drewN | apply below_drew1 | refine below_set ?_ GE817.out | refine below_set ?_ GE827.out | refine below_set ?_ GE835.out) | exact HB.out)) hb); have n6_ := Aside0.mk (hbox); have n7_ := Aside0.mk ((by rw [hg]; exact (below_size (by repeat (first | (with_reducible first | exact HB.out | apply below_alloc | apply pw_below_drewN | apply below_drew1 | refine below_set ?_ GE817.out | refine below_set ?_ GE827.out | refine below_set ?_ GE835.out) | exact HB.out))) : w.heap.size ≤ gb840)); have n8_ := Aside0.mk ((by rw [hg]; exact (below_size (by repeat (first | (with_reducible first | exact HB.out | apply below_alloc | apply pw_below_drewN | apply below_drew1 | refine below_set ?_ GE817.out | refine below_set ?_ GE827.out | refine below_set ?_ GE835.out) | exact HB.out))) : w.heap.size ≤ gb840)); have n9_ := Aside0.mk ((by rw [hg]; exact Nat.ne_of_lt (blk_lt (g := gb817) (o := .cells #[.int .i64 a0_0, .slice A0_1 l0_1.length c0_1] 24 (0, 0)) (by (with_reducible repeat (first | refine blk_drewN ?_ _ | refine blk_drew ?_ | refine blk_alloc ?_ _)); exact BK817.out)) : gb817 ≠ gb840)); have n10_ := Aside0.mk ((by rw [hg]; exact Nat.ne_of_gt (blk_lt (g := gb817) (o := .cells #[.int .i64 a0_0, .slice A0_1 l0_1.length c0_1] 24 (0, 0)) (by (with_reducible repeat (first | refine blk_drewN ?_ _ | refine blk_drew ?_ | refine blk_alloc ?_ _)); exact BK817.out)) : gb840 ≠ gb817)); have n11_ := Aside0.mk ((by rw [hg]; exact Nat.ne_of_lt (blk_lt (g := gb827) (o := .cells #[.int .i64 t823, .slice (some ad834) t824.length co64] 24 (0, 0)) (by (with_reducible repeat (first | refine blk_drewN ?_ _ | refine blk_drew ?_ | refine blk_alloc ?_ _)); exact BK827.out)) : gb827 ≠ gb840)); have n12_ := Aside0.mk ((by rw [hg]; exact Nat.ne_of_gt (blk_lt (g := gb827) (o := .cells #[.int .i64 t823, .slice (some ad834) t824.length co64] 24 (0, 0)) (by (with_reducible repeat (first | refine blk_drewN ?_ _ | refine blk_drew ?_ | refine blk_alloc ?_ _)); exact BK827.out)) : gb840 ≠ gb827)); have n13_ := Aside0.mk ((by rw [hg]; exact Nat.ne_of_lt (blk_lt (g := gb835) (o := .cells #[.int .i64 ((rd_T41 t824 t833).f0), .int .i64 ((rd_T41 t824 t833).f1), .int .i64 ((rd_T41 t824 t833).f2)] 41 (0, 0)) (by (with_reducible repeat (first | refine blk_drewN ?_ _ | refine blk_drew ?_ | refine blk_alloc ?_ _)); exact BK835.out)) : gb835 ≠ gb840)); have n14_ := Aside0.mk ((by rw [hg]; exact Nat.ne_of_gt (blk_lt (g := gb835) (o := .cells #[.int .i64 ((rd_T41 t824 t833).f0), .int .i64 ((rd_T41 t824 t833).f1), .int .i64 ((rd_T41 t824 t833).f2)] 41 (0, 0)) (by (with_reducible repeat (first | refine blk_drewN ?_ _ | refine blk_drew ?_ | refine blk_alloc ?_ _)); exact BK835.out)) : gb840 ≠ gb835)); clear HO826; clear HO839; clear BK817; clear BK827; clear BK835; clear HB; have HO826 := n0_; have HO839 := n1_; have BK817 := n2_; have BK827 := n3_; have BK835 := n4_; have HB := n5_; have BK840 := n6_; have GW840 := n7_; have GE840 := n8_; have NB817_840 := n9_; have NB840_817 := n10_; have NB827_840 := n11_; have NB840_827 := n12_; have NB835_840 := n13_; have NB840_835 := n14_; clear n0_ n1_ n2_ n3_ n4_ n5_ n6_ n7_ n8_ n9_ n10_ n11_ n12_ n13_ n14_; clear hb hbox hg; have hnb77 := NB840_817.out; have hnc77 := NB817_840.out; have hnb78 := NB840_827.out; have hnc78 := NB827_840.out; have hnb79 := NB840_835.out; have hnc79 := NB835_840.out; have hcz80_0 : w76.cell? ⟨gb840, 0, none⟩ = some (.int .i64 0) := (blk_cell BK840.out 0).trans rfl; have hcz80_1 : w76.cell? ⟨gb840, 1, none⟩ = some (.slice none 0 0) := (blk_cell BK840.out 1).trans rfl; have hfz80_0 := blk_frozen BK840.out 0; have hfz80_1 := blk_frozen BK840.out 1; have hcz81_0 : w76.cell? ⟨gb827, 0, none⟩ = some (.int .i64 t823) := (blk_cell BK827.out 0).trans rfl; have hcz81_1 : w76.cell? ⟨gb827, 1, none⟩ = some (.slice (some ad834) t824.length co64) := (blk_cell BK827.out 1).trans rfl; have hfz81_0 := blk_frozen BK827.out 0; have hfz81_1 := blk_frozen BK827.out 1))
            go_loopg [16] k (fun kq v16 w' => ∃ (x16_1 : Int) (x841001_1 : List (S41)) (u841001 : Value), v16 = .int .i64 x16_1 ∧ Aside0 (billetlaw06_FlowParts.l0 kq t818 t833 t836 x16_1 t823 t824 ((rd_T41 t824 t833).f0) ((rd_T41 t824 t833).f1) ((rd_T41 t824 t833).f2) t823 x841001_1 = some r) ∧ Aside0 (kq ≤ k) ∧ Aside0 (Kd.R k41 41 w' w.heap.size (fun k_ => some k_ ≠ (u841001 : Value).ownBlock ∧ k_ ≠ gb835) (.slice (some ad834) t824.length co64) t824) ∧ Aside0 (Kd.R k41 41 w' w.heap.size (fun k_ => some k_ ≠ ((.slice (some ad834) t824.length co64) : Value).ownBlock ∧ k_ ≠ gb835) u841001 x841001_1) ∧ Aside0 (w'.heap[gb817]? = some (.cells #[.int .i64 a0_0, (.slice A0_1 l0_1.length c0_1)] 24 (0, 0))) ∧ Aside0 (w'.heap[gb827]? = some (.cells #[.int .i64 t823, (.slice (some ad834) t824.length co64)] 24 (0, 0))) ∧ Aside0 (w'.heap[gb835]? = some (.cells #[.int .i64 ((rd_T41 t824 t833).f0), .int .i64 ((rd_T41 t824 t833).f1), .int .i64 ((rd_T41 t824 t833).f2)] 41 (0, 0))) ∧ Aside0 (w'.heap[gb840]? = some (.cells #[.int .i64 t823, u841001] 24 (0, 0))) ∧ Aside0 (Below w.heap.size w w'))
            case atStart => exact ⟨(wrap64 ((t824.length : Int) - 1)), (y837), (.slice Ao75 y837.length co75), (by first | rfl | (simp; done) | (simp [*]; done)), H', ⟨Nat.le_refl _⟩, ⟨by (with_reducible repeat (first | apply Kd.R_alloc | apply Kd.R_drewN | apply Kd.R_drew)); exact Kd.R_mono (Kd.R_far (p := ⟨gb840, 1, none⟩) (Kd.R_far (p := ⟨gb840, 0, none⟩) (Kd.R_types HO826.out BK840.out (by decide)) (fun _ hk => hk.2) (.int .i64 t823)) (fun _ hk => hk.2) (.slice Ao75 y837.length co75)) (fun _ hk => ⟨hk.1.2, hk.1.1.2⟩)⟩, ⟨by (with_reducible repeat (first | apply Kd.R_alloc | apply Kd.R_drewN | apply Kd.R_drew)); exact Kd.R_mono (Kd.R_far (p := ⟨gb840, 1, none⟩) (Kd.R_far (p := ⟨gb840, 0, none⟩) (Kd.R_types HO839.out BK840.out (by decide)) (fun _ hk => hk.2) (.int .i64 t823)) (fun _ hk => hk.2) (.slice Ao75 y837.length co75)) (fun _ hk => ⟨hk.1.1.2, hk.1.2⟩)⟩, ⟨by (with_reducible repeat (first | refine blk_drewN ?_ _ | refine blk_drew ?_ | refine blk_alloc ?_ _)); refine blk_far ?_ NB817_840.out _; (with_reducible repeat (first | refine blk_drewN ?_ _ | refine blk_drew ?_ | refine blk_alloc ?_ _)); refine blk_far ?_ NB817_840.out _; (with_reducible repeat (first | refine blk_drewN ?_ _ | refine blk_drew ?_ | refine blk_alloc ?_ _)); exact BK817.out⟩, ⟨by (with_reducible repeat (first | refine blk_drewN ?_ _ | refine blk_drew ?_ | refine blk_alloc ?_ _)); refine blk_far ?_ NB827_840.out _; (with_reducible repeat (first | refine blk_drewN ?_ _ | refine blk_drew ?_ | refine blk_alloc ?_ _)); refine blk_far ?_ NB827_840.out _; (with_reducible repeat (first | refine blk_drewN ?_ _ | refine blk_drew ?_ | refine blk_alloc ?_ _)); exact BK827.out⟩, ⟨by (with_reducible repeat (first | refine blk_drewN ?_ _ | refine blk_drew ?_ | refine blk_alloc ?_ _)); refine blk_far ?_ NB835_840.out _; (with_reducible repeat (first | refine blk_drewN ?_ _ | refine blk_drew ?_ | refine blk_alloc ?_ _)); refine blk_far ?_ NB835_840.out _; (with_reducible repeat (first | refine blk_drewN ?_ _ | refine blk_drew ?_ | refine blk_alloc ?_ _)); exact BK835.out⟩, ⟨by (with_reducible repeat (first | refine blk_drewN ?_ _ | refine blk_drew ?_ | refine blk_alloc ?_ _)); refine blk_put (cs := #[.int .i64 t823, .slice none 0 0]) ?_ 1 _ rfl; (with_reducible repeat (first | refine blk_drewN ?_ _ | refine blk_drew ?_ | refine blk_alloc ?_ _)); refine blk_put (cs := #[.int .i64 0, .slice none 0 0]) ?_ 0 _ rfl; (with_reducible repeat (first | refine blk_drewN ?_ _ | refine blk_drew ?_ | refine blk_alloc ?_ _)); exact BK840.out⟩, ⟨by repeat (first | (with_reducible first | exact HB.out | apply below_alloc | apply pw_below_drewN | apply below_drew1 | refine below_set ?_ GE817.out | refine below_set ?_ GE827.out | refine below_set ?_ GE835.out | refine below_set ?_ GE840.out) | exact HB.out)⟩⟩
            case round =>
              clear H'
              try clear c1
              try clear p2
              try clear c3
              try clear c4
              try clear q4
              try clear c5
              try clear q5
              try clear c6
              try clear p6
              try clear c7
              try clear p8
              try clear q8
              try clear hx8
              try clear c9
              try clear c9b0
              try clear c9b1
              try clear c9b2
              try clear c16
              try clear c30
              try clear c34
              try clear c37
              try clear c40
              try clear q42
              try clear c49
              try clear c53
              try clear c53b0
              try clear c54
              try clear c54b0
              try clear q59
              try clear p64
              try clear c66
              try clear c69
              try clear c70
              try clear c77
              try clear c78
              try clear c79
              try clear hcz50_0
              try clear hcz50_1
              try clear hcz67_0
              try clear hcz67_1
              try clear hcz71_0
              try clear hcz71_1
              try clear hcz71_2
              try clear hcz72_0
              try clear hcz72_1
              try clear hcz80_0
              try clear hcz80_1
              try clear hcz81_0
              try clear hcz81_1
              try clear hfz50_0
              try clear hfz50_1
              try clear hfz67_0
              try clear hfz67_1
              try clear hfz71_0
              try clear hfz71_1
              try clear hfz71_2
              try clear hfz72_0
              try clear hfz72_1
              try clear hfz80_0
              try clear hfz80_1
              try clear hfz81_0
              try clear hfz81_1
              try clear hx834_0
              try clear hx834_1
              try clear hx834_2
              try clear p834
              try clear q42
              try clear q59
              try clear q834
              obtain ⟨x16_1, x841001_1, u841001, rfl, HA, HK1, HO_828001, HO_841001, BK817, BK827, BK835, BK840, HB⟩ := hrel
              cases gk with
              | zero => exact absurd HA.out (by simp [billetlaw06_FlowParts.l0])
              | succ k1 =>
                have H := HA.out
                clear HA
                simp only [billetlaw06_FlowParts.l0] at H
                by_cases c82 : x16_1 ≥ 0
                · rw [if_pos c82] at H
                  have c82b0 : decide (0 ≤ x16_1) = true := decide_eq_true c82
                  clear c82
                  by_cases c83 : 0 ≤ x16_1
                  · rw [if_pos c83] at H
                    have c83b0 : decide (0 ≤ x16_1) = true := decide_eq_true c83
                    clear c83
                    by_cases c84 : x16_1 < (t824.length : Int)
                    · rw [if_pos c84] at H
                      have c84b0 : decide (x16_1 < (t824.length : Int)) = true := decide_eq_true c84
                      clear c84
                      by_cases c85 : x16_1 = t833
                      · rw [if_pos c85] at H
                        have c85b0 : (x16_1 == t833) = true := beq_iff_eq.mpr c85
                        have c85b1 : (x16_1 != t833) = false := bne_eq_false_iff_eq.mpr c85
                        clear c85
                        by_cases c86 : x841001_1.length < 5864062014805
                        · rw [if_pos c86] at H
                          have LMc86 := Aside0.mk c86
                          clear c86
                          obtain ⟨y843, hy843⟩ : ∃ y_ : List (S41), y_ = (x841001_1 ++ [(⟨(rd_T41 t824 x16_1).f0, (rd_T41 t824 x16_1).f1, wrap64 (((rd_T41 t824 t833).f2) - t836)⟩ : S41)]) := ⟨_, rfl⟩
                          replace H : (billetlaw06_FlowParts.l0 k1 t818 t833 t836 (wrap64 (x16_1 - 1)) t823 t824 ((rd_T41 t824 t833).f0) ((rd_T41 t824 t833).f1) ((rd_T41 t824 t833).f2) t823 y843) = some r := by first | (rw [hy843]; with_reducible exact H) | (have H2_ := (Option.bind_some _ _).symm.trans H; rw [hy843]; with_reducible exact H2_) | (have H2_ := (Option.bind_some _ _).symm.trans H; with_reducible exact H2_) | with_reducible exact H | (rw [hy843]; exact H) | exact H
                          have Ny843 := Aside0.mk hy843
                          clear hy843
                          have H' := Aside0.mk H
                          clear H
                          have hnb87 := NB827_817.out
                          have hnc87 := NB817_827.out
                          have hnb88 := NB827_835.out
                          have hnc88 := NB835_827.out
                          have hnb89 := NB827_840.out
                          have hnc89 := NB840_827.out
                          have hcz90_0 : wr.cell? ⟨gb827, 0, none⟩ = some (.int .i64 t823) := (blk_cell BK827.out 0).trans rfl
                          have hcz90_1 : wr.cell? ⟨gb827, 1, none⟩ = some (.slice (some ad834) t824.length co64) := (blk_cell BK827.out 1).trans rfl
                          have hfz90_0 := blk_frozen BK827.out 0
                          have hfz90_1 := blk_frozen BK827.out 1
                          have p841 : 0 ≤ (x16_1 : Int) := of_decide_eq_true (by first | (with_reducible assumption) | assumption)
                          have q841 : x16_1 < (t824.length : Int) := of_decide_eq_true (by first | (with_reducible assumption) | assumption)
                          obtain ⟨ad841, e841, hx841_0, hx841_1, hx841_2⟩ := at_T41 (Kd.R_reads' HO_828001.out).2.2 x16_1 p841 q841
                          obtain rfl : ad834 = ad841 := (by injection e841)
                          replace p841 := eq_true p841
                          replace q841 := eq_true q841
                          go_wp2_with (first | ((with_reducible refine gate_dst (N := 17) rfl ?_); refine box_event ?hg (N := 17) ?hd (cs := #[.int .i64 0, .int .i64 0, .int .i64 0]) (t := 41) ?hr ?_; (case hd => rfl); (case hg => rfl); (case hr => first | (go_simp; done) | (go_simp; rfl)); intro gb842 hg w91 hbox hb; have hz1_ : ∀ a_ b_ c_ X : Value, ((((w91.setCell ⟨gb842, 0, none⟩ a_).setCell ⟨gb842, 1, none⟩ b_).setCell ⟨gb842, 2, none⟩ c_).setCell ⟨gb842, 2, none⟩ X).cell? ⟨gb842, 2, none⟩ = some X := (fun _ _ _ _ => World.cell?_setCell_same' _ _ _ (isSome_set2_ (isSome_set2_ (isSome_set2_ (by rw [show w91.cell? ⟨gb842, 2, none⟩ = some (.int .i64 0) from (blk_cell hbox 2).trans rfl]; rfl))))); have n0_ := Aside0.mk (Kd.R_below (Kd.R_elderB (by (with_reducible repeat (first | apply Kd.R_alloc | apply Kd.R_drewN | apply Kd.R_drew)); exact HO_828001.out) gb842 (Nat.le_of_eq hg.symm)) hb); have n1_ := Aside0.mk (Kd.R_below (Kd.R_elderB (by (with_reducible repeat (first | apply Kd.R_alloc | apply Kd.R_drewN | apply Kd.R_drew)); exact HO_841001.out) gb842 (Nat.le_of_eq hg.symm)) hb); have n2_ := Aside0.mk (blk_below (g := gb817) (o := .cells #[.int .i64 a0_0, .slice A0_1 l0_1.length c0_1] 24 (0, 0)) (by (with_reducible repeat (first | refine blk_drewN ?_ _ | refine blk_drew ?_ | refine blk_alloc ?_ _)); exact BK817.out) hb); have n3_ := Aside0.mk (blk_below (g := gb827) (o := .cells #[.int .i64 t823, .slice (some ad834) t824.length co64] 24 (0, 0)) (by (with_reducible repeat (first | refine blk_drewN ?_ _ | refine blk_drew ?_ | refine blk_alloc ?_ _)); exact BK827.out) hb); have n4_ := Aside0.mk (blk_below (g := gb835) (o := .cells #[.int .i64 ((rd_T41 t824 t833).f0), .int .i64 ((rd_T41 t824 t833).f1), .int .i64 ((rd_T41 t824 t833).f2)] 41 (0, 0)) (by (with_reducible repeat (first | refine blk_drewN ?_ _ | refine blk_drew ?_ | refine blk_alloc ?_ _)); exact BK835.out) hb); have n5_ := Aside0.mk (blk_below (g := gb840) (o := .cells #[.int .i64 t823, u841001] 24 (0, 0)) (by (with_reducible repeat (first | refine blk_drewN ?_ _ | refine blk_drew ?_ | refine blk_alloc ?_ _)); exact BK840.out) hb); have n6_ := Aside0.mk (below_step (by repeat (first | (with_reducible first | exact HB.out | apply below_alloc | apply pw_below_drewN | apply below_drew1 | refine below_set ?_ GE817.out | refine below_set ?_ GE827.out | refine below_set ?_ GE835.out | refine below_set ?_ GE840.out) | exact HB.out)) hb); have n7_ := Aside0.mk (hbox); have n8_ := Aside0.mk ((by rw [hg]; exact (below_size (by repeat (first | (with_reducible first | exact HB.out | apply below_alloc | apply pw_below_drewN | apply below_drew1 | refine below_set ?_ GE817.out | refine below_set ?_ GE827.out | refine below_set ?_ GE835.out | refine below_set ?_ GE840.out) | exact HB.out))) : w.heap.size ≤ gb842)); have n9_ := Aside0.mk ((by rw [hg]; exact (below_size (by repeat (first | (with_reducible first | exact HB.out | apply below_alloc | apply pw_below_drewN | apply below_drew1 | refine below_set ?_ GE817.out | refine below_set ?_ GE827.out | refine below_set ?_ GE835.out | refine below_set ?_ GE840.out) | exact HB.out))) : w.heap.size ≤ gb842)); have n10_ := Aside0.mk ((by rw [hg]; exact Nat.ne_of_lt (blk_lt (g := gb817) (o := .cells #[.int .i64 a0_0, .slice A0_1 l0_1.length c0_1] 24 (0, 0)) (by (with_reducible repeat (first | refine blk_drewN ?_ _ | refine blk_drew ?_ | refine blk_alloc ?_ _)); exact BK817.out)) : gb817 ≠ gb842)); have n11_ := Aside0.mk ((by rw [hg]; exact Nat.ne_of_gt (blk_lt (g := gb817) (o := .cells #[.int .i64 a0_0, .slice A0_1 l0_1.length c0_1] 24 (0, 0)) (by (with_reducible repeat (first | refine blk_drewN ?_ _ | refine blk_drew ?_ | refine blk_alloc ?_ _)); exact BK817.out)) : gb842 ≠ gb817)); have n12_ := Aside0.mk ((by rw [hg]; exact Nat.ne_of_lt (blk_lt (g := gb827) (o := .cells #[.int .i64 t823, .slice (some ad834) t824.length co64] 24 (0, 0)) (by (with_reducible repeat (first | refine blk_drewN ?_ _ | refine blk_drew ?_ | refine blk_alloc ?_ _)); exact BK827.out)) : gb827 ≠ gb842)); have n13_ := Aside0.mk ((by rw [hg]; exact Nat.ne_of_gt (blk_lt (g := gb827) (o := .cells #[.int .i64 t823, .slice (some ad834) t824.length co64] 24 (0, 0)) (by (with_reducible repeat (first | refine blk_drewN ?_ _ | refine blk_drew ?_ | refine blk_alloc ?_ _)); exact BK827.out)) : gb842 ≠ gb827)); have n14_ := Aside0.mk ((by rw [hg]; exact Nat.ne_of_lt (blk_lt (g := gb835) (o := .cells #[.int .i64 ((rd_T41 t824 t833).f0), .int .i64 ((rd_T41 t824 t833).f1), .int .i64 ((rd_T41 t824 t833).f2)] 41 (0, 0)) (by (with_reducible repeat (first | refine blk_drewN ?_ _ | refine blk_drew ?_ | refine blk_alloc ?_ _)); exact BK835.out)) : gb835 ≠ gb842)); have n15_ := Aside0.mk ((by rw [hg]; exact Nat.ne_of_gt (blk_lt (g := gb835) (o := .cells #[.int .i64 ((rd_T41 t824 t833).f0), .int .i64 ((rd_T41 t824 t833).f1), .int .i64 ((rd_T41 t824 t833).f2)] 41 (0, 0)) (by (with_reducible repeat (first | refine blk_drewN ?_ _ | refine blk_drew ?_ | refine blk_alloc ?_ _)); exact BK835.out)) : gb842 ≠ gb835)); have n16_ := Aside0.mk ((by rw [hg]; exact Nat.ne_of_lt (blk_lt (g := gb840) (o := .cells #[.int .i64 t823, u841001] 24 (0, 0)) (by (with_reducible repeat (first | refine blk_drewN ?_ _ | refine blk_drew ?_ | refine blk_alloc ?_ _)); exact BK840.out)) : gb840 ≠ gb842)); have n17_ := Aside0.mk ((by rw [hg]; exact Nat.ne_of_gt (blk_lt (g := gb840) (o := .cells #[.int .i64 t823, u841001] 24 (0, 0)) (by (with_reducible repeat (first | refine blk_drewN ?_ _ | refine blk_drew ?_ | refine blk_alloc ?_ _)); exact BK840.out)) : gb842 ≠ gb840)); clear HO_828001; clear HO_841001; clear BK817; clear BK827; clear BK835; clear BK840; clear HB; have HO_828001 := n0_; have HO_841001 := n1_; have BK817 := n2_; have BK827 := n3_; have BK835 := n4_; have BK840 := n5_; have HB := n6_; have BK842 := n7_; have GW842 := n8_; have GE842 := n9_; have NB817_842 := n10_; have NB842_817 := n11_; have NB827_842 := n12_; have NB842_827 := n13_; have NB835_842 := n14_; have NB842_835 := n15_; have NB840_842 := n16_; have NB842_840 := n17_; clear n0_ n1_ n2_ n3_ n4_ n5_ n6_ n7_ n8_ n9_ n10_ n11_ n12_ n13_ n14_ n15_ n16_ n17_; clear hb hbox hg; have hnb92 := NB842_817.out; have hnc92 := NB817_842.out; have hnb93 := NB842_827.out; have hnc93 := NB827_842.out; have hnb94 := NB842_835.out; have hnc94 := NB835_842.out; have hnb95 := NB842_840.out; have hnc95 := NB840_842.out; have hcz96_0 : w91.cell? ⟨gb842, 0, none⟩ = some (.int .i64 0) := (blk_cell BK842.out 0).trans rfl; have hcz96_1 : w91.cell? ⟨gb842, 1, none⟩ = some (.int .i64 0) := (blk_cell BK842.out 1).trans rfl; have hcz96_2 : w91.cell? ⟨gb842, 2, none⟩ = some (.int .i64 0) := (blk_cell BK842.out 2).trans rfl; have hfz96_0 := blk_frozen BK842.out 0; have hfz96_1 := blk_frozen BK842.out 1; have hfz96_2 := blk_frozen BK842.out 2; have hnb97 := NB835_817.out; have hnc97 := NB817_835.out; have hnb98 := NB835_840.out; have hnc98 := NB840_835.out; have hcz99_0 : w91.cell? ⟨gb835, 0, none⟩ = some (.int .i64 ((rd_T41 t824 t833).f0)) := (blk_cell BK835.out 0).trans rfl; have hcz99_1 : w91.cell? ⟨gb835, 1, none⟩ = some (.int .i64 ((rd_T41 t824 t833).f1)) := (blk_cell BK835.out 1).trans rfl; have hcz99_2 : w91.cell? ⟨gb835, 2, none⟩ = some (.int .i64 ((rd_T41 t824 t833).f2)) := (blk_cell BK835.out 2).trans rfl; have hfz99_0 := blk_frozen BK835.out 0; have hfz99_1 := blk_frozen BK835.out 1; have hfz99_2 := blk_frozen BK835.out 2; have hnb100 := NB840_817.out; have hnc100 := NB817_840.out; have hcz101_0 : w91.cell? ⟨gb840, 0, none⟩ = some (.int .i64 t823) := (blk_cell BK840.out 0).trans rfl; have hcz101_1 : w91.cell? ⟨gb840, 1, none⟩ = some (u841001) := (blk_cell BK840.out 1).trans rfl; have hfz101_0 := blk_frozen BK840.out 0; have hfz101_1 := blk_frozen BK840.out 1) | ((with_reducible refine gate_builtin (b := .append) (xs := #[.tmp 102, .tmp 104]) rfl ?_); at_builtin; refine Kd.R_append k41 (w0 := w) w.heap.size rfl (.tmp 102) (.tmp 104) 22 41 (.agg #[(.int .i64 0), (.int .i64 0), (.int .i64 0)]) 24 rfl Try.underlying22 info41 rfl (by decide) (by omega) u841001 x841001_1 (⟨(rd_T41 t824 x16_1).f0, (rd_T41 t824 x16_1).f1, wrap64 (((rd_T41 t824 t833).f2) - t836)⟩ : S41) [.int .i64 ((rd_T41 t824 x16_1).f0), .int .i64 ((rd_T41 t824 x16_1).f1), .int .i64 (wrap64 (((rd_T41 t824 t833).f2) - t836))] (fun k_ => some k_ ≠ (.slice (some ad834) t824.length co64 : Value).ownBlock ∧ k_ ≠ gb835 ∧ k_ ≠ gb842) (fun _ => False) rfl (by first | (go_simp; done) | (go_simp; rfl)) ?aP (fun _ hk => hk.elim) ?aF ?aO ?aB ?aS ?aL ?_; (case aP => exact k41_mkM _ _ _ (⟨(rd_T41 t824 x16_1).f0, (rd_T41 t824 x16_1).f1, wrap64 (((rd_T41 t824 t833).f2) - t836)⟩ : S41)); (case aB => exact (by repeat (first | (with_reducible first | exact HB.out | apply below_alloc | apply pw_below_drewN | apply below_drew1 | refine below_set ?_ GE817.out | refine below_set ?_ GE827.out | refine below_set ?_ GE835.out | refine below_set ?_ GE840.out | refine below_set ?_ GE842.out) | exact HB.out))); (case aF => exact (fun k_ hk => ⟨Kd.fresh' (Kd.R_lt (by (with_reducible repeat (first | apply Kd.R_alloc | apply Kd.R_drewN | apply Kd.R_drew)); exact (Kd.R_mono (Kd.R_far (p := ⟨gb842, 2, none⟩) (Kd.R_far (p := ⟨gb842, 2, none⟩) (Kd.R_far (p := ⟨gb842, 1, none⟩) (Kd.R_far (p := ⟨gb842, 0, none⟩) (Kd.R_mono HO_828001.out (fun k_ hk => (⟨hk, hk.2⟩ : _ ∧ k_ ≠ gb842))) (fun _ hk => hk.2) (.int .i64 ((rd_T41 t824 x16_1).f0))) (fun _ hk => hk.2) (.int .i64 ((rd_T41 t824 x16_1).f1))) (fun _ hk => hk.2) (.int .i64 ((rd_T41 t824 x16_1).f2))) (fun _ hk => hk.2) (.int .i64 (wrap64 (((rd_T41 t824 t833).f2) - t836)))) (fun _ h_ => h_.1)))) k_ hk, Kd.freshB (g := gb835) (o := .cells #[.int .i64 ((rd_T41 t824 t833).f0), .int .i64 ((rd_T41 t824 t833).f1), .int .i64 ((rd_T41 t824 t833).f2)] 41 (0, 0)) (by (with_reducible repeat (first | refine blk_drewN ?_ _ | refine blk_drew ?_ | refine blk_alloc ?_ _)); refine blk_far ?_ NB835_842.out _; (with_reducible repeat (first | refine blk_drewN ?_ _ | refine blk_drew ?_ | refine blk_alloc ?_ _)); refine blk_far ?_ NB835_842.out _; (with_reducible repeat (first | refine blk_drewN ?_ _ | refine blk_drew ?_ | refine blk_alloc ?_ _)); refine blk_far ?_ NB835_842.out _; (with_reducible repeat (first | refine blk_drewN ?_ _ | refine blk_drew ?_ | refine blk_alloc ?_ _)); refine blk_far ?_ NB835_842.out _; (with_reducible repeat (first | refine blk_drewN ?_ _ | refine blk_drew ?_ | refine blk_alloc ?_ _)); exact BK835.out) k_ hk, Kd.freshB (g := gb842) (o := .cells #[.int .i64 ((rd_T41 t824 x16_1).f0), .int .i64 ((rd_T41 t824 x16_1).f1), .int .i64 (wrap64 (((rd_T41 t824 t833).f2) - t836))] 41 (0, 0)) (by (with_reducible repeat (first | refine blk_drewN ?_ _ | refine blk_drew ?_ | refine blk_alloc ?_ _)); refine blk_put (cs := #[.int .i64 ((rd_T41 t824 x16_1).f0), .int .i64 ((rd_T41 t824 x16_1).f1), .int .i64 ((rd_T41 t824 x16_1).f2)]) ?_ 2 _ rfl; (with_reducible repeat (first | refine blk_drewN ?_ _ | refine blk_drew ?_ | refine blk_alloc ?_ _)); refine blk_put (cs := #[.int .i64 ((rd_T41 t824 x16_1).f0), .int .i64 ((rd_T41 t824 x16_1).f1), .int .i64 0]) ?_ 2 _ rfl; (with_reducible repeat (first | refine blk_drewN ?_ _ | refine blk_drew ?_ | refine blk_alloc ?_ _)); refine blk_put (cs := #[.int .i64 ((rd_T41 t824 x16_1).f0), .int .i64 0, .int .i64 0]) ?_ 1 _ rfl; (with_reducible repeat (first | refine blk_drewN ?_ _ | refine blk_drew ?_ | refine blk_alloc ?_ _)); refine blk_put (cs := #[.int .i64 0, .int .i64 0, .int .i64 0]) ?_ 0 _ rfl; (with_reducible repeat (first | refine blk_drewN ?_ _ | refine blk_drew ?_ | refine blk_alloc ?_ _)); exact BK842.out) k_ hk⟩)); (case aO => exact (by (with_reducible repeat (first | apply Kd.R_alloc | apply Kd.R_drewN | apply Kd.R_drew)); exact Kd.R_mono (Kd.R_far (p := ⟨gb842, 2, none⟩) (Kd.R_far (p := ⟨gb842, 2, none⟩) (Kd.R_far (p := ⟨gb842, 1, none⟩) (Kd.R_far (p := ⟨gb842, 0, none⟩) (Kd.R_mono HO_841001.out (fun k_ hk => (⟨hk, hk.2⟩ : _ ∧ k_ ≠ gb842))) (fun _ hk => hk.2) (.int .i64 ((rd_T41 t824 x16_1).f0))) (fun _ hk => hk.2) (.int .i64 ((rd_T41 t824 x16_1).f1))) (fun _ hk => hk.2) (.int .i64 ((rd_T41 t824 x16_1).f2))) (fun _ hk => hk.2) (.int .i64 (wrap64 (((rd_T41 t824 t833).f2) - t836)))) (fun _ hk => ⟨hk.1.1.1, ⟨hk.1.1.2, hk.1.2⟩⟩))); (case aS => exact (below_size (by repeat (first | (with_reducible first | exact HB.out | apply below_alloc | apply pw_below_drewN | apply below_drew1 | refine below_set ?_ GE817.out | refine below_set ?_ GE827.out | refine below_set ?_ GE835.out | refine below_set ?_ GE840.out | refine below_set ?_ GE842.out) | exact HB.out)))); (case aL => have := LMc86.out; omega); intro v844 w102 ho hb hg hat; rw [← Ny843.out] at ho; have n0_ := Aside0.mk (Kd.R_after (ok := (fun k_ => k_ ≠ gb835 ∧ k_ ≠ gb842)) (by (with_reducible repeat (first | apply Kd.R_alloc | apply Kd.R_drewN | apply Kd.R_drew)); exact Kd.R_mono (Kd.R_far (p := ⟨gb842, 2, none⟩) (Kd.R_far (p := ⟨gb842, 2, none⟩) (Kd.R_far (p := ⟨gb842, 1, none⟩) (Kd.R_far (p := ⟨gb842, 0, none⟩) (Kd.R_mono HO_828001.out (fun k_ hk => (⟨hk, hk.2⟩ : _ ∧ k_ ≠ gb842))) (fun _ hk => hk.2) (.int .i64 ((rd_T41 t824 x16_1).f0))) (fun _ hk => hk.2) (.int .i64 ((rd_T41 t824 x16_1).f1))) (fun _ hk => hk.2) (.int .i64 ((rd_T41 t824 x16_1).f2))) (fun _ hk => hk.2) (.int .i64 (wrap64 (((rd_T41 t824 t833).f2) - t836)))) (fun _ hk => ⟨⟨hk.1.1.2, hk.1.2⟩, hk.1.1.1⟩)) hg hat); have n1_ := Aside0.mk (blk_grown (g := gb817) (o := .cells #[.int .i64 a0_0, .slice A0_1 l0_1.length c0_1] 24 (0, 0)) (by (with_reducible repeat (first | refine blk_drewN ?_ _ | refine blk_drew ?_ | refine blk_alloc ?_ _)); refine blk_far ?_ NB817_842.out _; (with_reducible repeat (first | refine blk_drewN ?_ _ | refine blk_drew ?_ | refine blk_alloc ?_ _)); refine blk_far ?_ NB817_842.out _; (with_reducible repeat (first | refine blk_drewN ?_ _ | refine blk_drew ?_ | refine blk_alloc ?_ _)); refine blk_far ?_ NB817_842.out _; (with_reducible repeat (first | refine blk_drewN ?_ _ | refine blk_drew ?_ | refine blk_alloc ?_ _)); refine blk_far ?_ NB817_842.out _; (with_reducible repeat (first | refine blk_drewN ?_ _ | refine blk_drew ?_ | refine blk_alloc ?_ _)); exact BK817.out) hg (Kd.R_ne HO_841001.out BK817.out (by decide))); have n2_ := Aside0.mk (blk_grown (g := gb827) (o := .cells #[.int .i64 t823, .slice (some ad834) t824.length co64] 24 (0, 0)) (by (with_reducible repeat (first | refine blk_drewN ?_ _ | refine blk_drew ?_ | refine blk_alloc ?_ _)); refine blk_far ?_ NB827_842.out _; (with_reducible repeat (first | refine blk_drewN ?_ _ | refine blk_drew ?_ | refine blk_alloc ?_ _)); refine blk_far ?_ NB827_842.out _; (with_reducible repeat (first | refine blk_drewN ?_ _ | refine blk_drew ?_ | refine blk_alloc ?_ _)); refine blk_far ?_ NB827_842.out _; (with_reducible repeat (first | refine blk_drewN ?_ _ | refine blk_drew ?_ | refine blk_alloc ?_ _)); refine blk_far ?_ NB827_842.out _; (with_reducible repeat (first | refine blk_drewN ?_ _ | refine blk_drew ?_ | refine blk_alloc ?_ _)); exact BK827.out) hg (Kd.R_ne HO_841001.out BK827.out (by decide))); have n3_ := Aside0.mk (blk_grown (g := gb835) (o := .cells #[.int .i64 ((rd_T41 t824 t833).f0), .int .i64 ((rd_T41 t824 t833).f1), .int .i64 ((rd_T41 t824 t833).f2)] 41 (0, 0)) (by (with_reducible repeat (first | refine blk_drewN ?_ _ | refine blk_drew ?_ | refine blk_alloc ?_ _)); refine blk_far ?_ NB835_842.out _; (with_reducible repeat (first | refine blk_drewN ?_ _ | refine blk_drew ?_ | refine blk_alloc ?_ _)); refine blk_far ?_ NB835_842.out _; (with_reducible repeat (first | refine blk_drewN ?_ _ | refine blk_drew ?_ | refine blk_alloc ?_ _)); refine blk_far ?_ NB835_842.out _; (with_reducible repeat (first | refine blk_drewN ?_ _ | refine blk_drew ?_ | refine blk_alloc ?_ _)); refine blk_far ?_ NB835_842.out _; (with_reducible repeat (first | refine blk_drewN ?_ _ | refine blk_drew ?_ | refine blk_alloc ?_ _)); exact BK835.out) hg (Kd.R_away HO_841001.out (fun _ hk => hk.1.2))); have n4_ := Aside0.mk (blk_grown (g := gb840) (o := .cells #[.int .i64 t823, u841001] 24 (0, 0)) (by (with_reducible repeat (first | refine blk_drewN ?_ _ | refine blk_drew ?_ | refine blk_alloc ?_ _)); refine blk_far ?_ NB840_842.out _; (with_reducible repeat (first | refine blk_drewN ?_ _ | refine blk_drew ?_ | refine blk_alloc ?_ _)); refine blk_far ?_ NB840_842.out _; (with_reducible repeat (first | refine blk_drewN ?_ _ | refine blk_drew ?_ | refine blk_alloc ?_ _)); refine blk_far ?_ NB840_842.out _; (with_reducible repeat (first | refine blk_drewN ?_ _ | refine blk_drew ?_ | refine blk_alloc ?_ _)); refine blk_far ?_ NB840_842.out _; (with_reducible repeat (first | refine blk_drewN ?_ _ | refine blk_drew ?_ | refine blk_alloc ?_ _)); exact BK840.out) hg (Kd.R_ne HO_841001.out BK840.out (by decide))); have n5_ := Aside0.mk (blk_grown (g := gb842) (o := .cells #[.int .i64 ((rd_T41 t824 x16_1).f0), .int .i64 ((rd_T41 t824 x16_1).f1), .int .i64 (wrap64 (((rd_T41 t824 t833).f2) - t836))] 41 (0, 0)) (by (with_reducible repeat (first | refine blk_drewN ?_ _ | refine blk_drew ?_ | refine blk_alloc ?_ _)); refine blk_put (cs := #[.int .i64 ((rd_T41 t824 x16_1).f0), .int .i64 ((rd_T41 t824 x16_1).f1), .int .i64 ((rd_T41 t824 x16_1).f2)]) ?_ 2 _ rfl; (with_reducible repeat (first | refine blk_drewN ?_ _ | refine blk_drew ?_ | refine blk_alloc ?_ _)); refine blk_put (cs := #[.int .i64 ((rd_T41 t824 x16_1).f0), .int .i64 ((rd_T41 t824 x16_1).f1), .int .i64 0]) ?_ 2 _ rfl; (with_reducible repeat (first | refine blk_drewN ?_ _ | refine blk_drew ?_ | refine blk_alloc ?_ _)); refine blk_put (cs := #[.int .i64 ((rd_T41 t824 x16_1).f0), .int .i64 0, .int .i64 0]) ?_ 1 _ rfl; (with_reducible repeat (first | refine blk_drewN ?_ _ | refine blk_drew ?_ | refine blk_alloc ?_ _)); refine blk_put (cs := #[.int .i64 0, .int .i64 0, .int .i64 0]) ?_ 0 _ rfl; (with_reducible repeat (first | refine blk_drewN ?_ _ | refine blk_drew ?_ | refine blk_alloc ?_ _)); exact BK842.out) hg (Kd.R_away HO_841001.out (fun _ hk => hk.2))); have n6_ := Aside0.mk (hb); have n7_ := Aside0.mk (ho); clear HO_828001; clear BK817; clear BK827; clear BK835; clear BK840; clear BK842; clear HB; clear HO_841001; have HO_828001 := n0_; have BK817 := n1_; have BK827 := n2_; have BK835 := n3_; have BK840 := n4_; have BK842 := n5_; have HB := n6_; have HO845 := n7_; clear n0_ n1_ n2_ n3_ n4_ n5_ n6_ n7_; clear ho hb hg hat; obtain ⟨Ao103, co103, eo103⟩ := Kd.R_slice HO845.out; subst eo103; have hcz104_0 : w102.cell? ⟨gb840, 0, none⟩ = some (.int .i64 t823) := (blk_cell BK840.out 0).trans rfl; have hcz104_1 : w102.cell? ⟨gb840, 1, none⟩ = some (u841001) := (blk_cell BK840.out 1).trans rfl; have hfz104_0 := blk_frozen BK840.out 0; have hfz104_1 := blk_frozen BK840.out 1))
                          go_roundg k1
                          case measure => have := HK1.out; omega
                          case rel => exact ⟨(wrap64 (x16_1 - 1)), (y843), (.slice Ao103 y843.length co103), (by first | rfl | (simp; done) | (simp [*]; done)), H', ⟨by have := HK1.out; omega⟩, ⟨by (with_reducible repeat (first | apply Kd.R_alloc | apply Kd.R_drewN | apply Kd.R_drew)); exact Kd.R_mono (Kd.R_far (p := ⟨gb840, 1, none⟩) (Kd.R_types HO_828001.out BK840.out (by decide)) (fun _ hk => hk.2) (.slice Ao103 y843.length co103)) (fun _ hk => ⟨hk.1.2, hk.1.1.1⟩)⟩, ⟨by (with_reducible repeat (first | apply Kd.R_alloc | apply Kd.R_drewN | apply Kd.R_drew)); exact Kd.R_mono (Kd.R_far (p := ⟨gb840, 1, none⟩) (Kd.R_types HO845.out BK840.out (by decide)) (fun _ hk => hk.2) (.slice Ao103 y843.length co103)) (fun _ hk => ⟨hk.1.1, hk.1.2.1⟩)⟩, ⟨by (with_reducible repeat (first | refine blk_drewN ?_ _ | refine blk_drew ?_ | refine blk_alloc ?_ _)); refine blk_far ?_ NB817_840.out _; (with_reducible repeat (first | refine blk_drewN ?_ _ | refine blk_drew ?_ | refine blk_alloc ?_ _)); exact BK817.out⟩, ⟨by (with_reducible repeat (first | refine blk_drewN ?_ _ | refine blk_drew ?_ | refine blk_alloc ?_ _)); refine blk_far ?_ NB827_840.out _; (with_reducible repeat (first | refine blk_drewN ?_ _ | refine blk_drew ?_ | refine blk_alloc ?_ _)); exact BK827.out⟩, ⟨by (with_reducible repeat (first | refine blk_drewN ?_ _ | refine blk_drew ?_ | refine blk_alloc ?_ _)); refine blk_far ?_ NB835_840.out _; (with_reducible repeat (first | refine blk_drewN ?_ _ | refine blk_drew ?_ | refine blk_alloc ?_ _)); exact BK835.out⟩, ⟨by (with_reducible repeat (first | refine blk_drewN ?_ _ | refine blk_drew ?_ | refine blk_alloc ?_ _)); refine blk_put (cs := #[.int .i64 t823, u841001]) ?_ 1 _ rfl; (with_reducible repeat (first | refine blk_drewN ?_ _ | refine blk_drew ?_ | refine blk_alloc ?_ _)); exact BK840.out⟩, ⟨by repeat (first | (with_reducible first | exact HB.out | apply below_alloc | apply pw_below_drewN | apply below_drew1 | refine below_set ?_ GE817.out | refine below_set ?_ GE827.out | refine below_set ?_ GE835.out | refine below_set ?_ GE840.out | refine below_set ?_ GE842.out) | exact HB.out)⟩⟩
                        · rw [if_neg c86] at H
                          exact absurd H (by simp)
                      · rw [if_neg c85] at H
                        have c85b0 : (x16_1 == t833) = false := beq_eq_false_iff_ne.mpr c85
                        have c85b1 : (x16_1 != t833) = true := bne_iff_ne.mpr c85
                        by_cases c105 : x841001_1.length < 5864062014805
                        · rw [if_pos c105] at H
                          have LMc105 := Aside0.mk c105
                          clear c105
                          obtain ⟨y846, hy846⟩ : ∃ y_ : List (S41), y_ = (x841001_1 ++ [(⟨(rd_T41 t824 x16_1).f0, (rd_T41 t824 x16_1).f1, (rd_T41 t824 x16_1).f2⟩ : S41)]) := ⟨_, rfl⟩
                          replace H : (billetlaw06_FlowParts.l0 k1 t818 t833 t836 (wrap64 (x16_1 - 1)) t823 t824 ((rd_T41 t824 t833).f0) ((rd_T41 t824 t833).f1) ((rd_T41 t824 t833).f2) t823 y846) = some r := by first | (rw [hy846]; with_reducible exact H) | (have H2_ := (Option.bind_some _ _).symm.trans H; rw [hy846]; with_reducible exact H2_) | (have H2_ := (Option.bind_some _ _).symm.trans H; with_reducible exact H2_) | with_reducible exact H | (rw [hy846]; exact H) | exact H
                          have Ny846 := Aside0.mk hy846
                          clear hy846
                          have H' := Aside0.mk H
                          clear H
                          have hnb106 := NB827_817.out
                          have hnc106 := NB817_827.out
                          have hnb107 := NB827_835.out
                          have hnc107 := NB835_827.out
                          have hnb108 := NB827_840.out
                          have hnc108 := NB840_827.out
                          have hcz109_0 : wr.cell? ⟨gb827, 0, none⟩ = some (.int .i64 t823) := (blk_cell BK827.out 0).trans rfl
                          have hcz109_1 : wr.cell? ⟨gb827, 1, none⟩ = some (.slice (some ad834) t824.length co64) := (blk_cell BK827.out 1).trans rfl
                          have hfz109_0 := blk_frozen BK827.out 0
                          have hfz109_1 := blk_frozen BK827.out 1
                          have p841 : 0 ≤ (x16_1 : Int) := of_decide_eq_true (by first | (with_reducible assumption) | assumption)
                          have q841 : x16_1 < (t824.length : Int) := of_decide_eq_true (by first | (with_reducible assumption) | assumption)
                          obtain ⟨ad841, e841, hx841_0, hx841_1, hx841_2⟩ := at_T41 (Kd.R_reads' HO_828001.out).2.2 x16_1 p841 q841
                          obtain rfl : ad834 = ad841 := (by injection e841)
                          replace p841 := eq_true p841
                          replace q841 := eq_true q841
                          go_wp2_with (first | ((with_reducible refine gate_dst (N := 17) rfl ?_); refine box_event ?hg (N := 17) ?hd (cs := #[.int .i64 0, .int .i64 0, .int .i64 0]) (t := 41) ?hr ?_; (case hd => rfl); (case hg => rfl); (case hr => first | (go_simp; done) | (go_simp; rfl)); intro gb842 hg w110 hbox hb; have hz1_ : ∀ a_ b_ c_ X : Value, ((((w110.setCell ⟨gb842, 0, none⟩ a_).setCell ⟨gb842, 1, none⟩ b_).setCell ⟨gb842, 2, none⟩ c_).setCell ⟨gb842, 2, none⟩ X).cell? ⟨gb842, 2, none⟩ = some X := (fun _ _ _ _ => World.cell?_setCell_same' _ _ _ (isSome_set2_ (isSome_set2_ (isSome_set2_ (by rw [show w110.cell? ⟨gb842, 2, none⟩ = some (.int .i64 0) from (blk_cell hbox 2).trans rfl]; rfl))))); have n0_ := Aside0.mk (Kd.R_below (Kd.R_elderB (by (with_reducible repeat (first | apply Kd.R_alloc | apply Kd.R_drewN | apply Kd.R_drew)); exact HO_828001.out) gb842 (Nat.le_of_eq hg.symm)) hb); have n1_ := Aside0.mk (Kd.R_below (Kd.R_elderB (by (with_reducible repeat (first | apply Kd.R_alloc | apply Kd.R_drewN | apply Kd.R_drew)); exact HO_841001.out) gb842 (Nat.le_of_eq hg.symm)) hb); have n2_ := Aside0.mk (blk_below (g := gb817) (o := .cells #[.int .i64 a0_0, .slice A0_1 l0_1.length c0_1] 24 (0, 0)) (by (with_reducible repeat (first | refine blk_drewN ?_ _ | refine blk_drew ?_ | refine blk_alloc ?_ _)); exact BK817.out) hb); have n3_ := Aside0.mk (blk_below (g := gb827) (o := .cells #[.int .i64 t823, .slice (some ad834) t824.length co64] 24 (0, 0)) (by (with_reducible repeat (first | refine blk_drewN ?_ _ | refine blk_drew ?_ | refine blk_alloc ?_ _)); exact BK827.out) hb); have n4_ := Aside0.mk (blk_below (g := gb835) (o := .cells #[.int .i64 ((rd_T41 t824 t833).f0), .int .i64 ((rd_T41 t824 t833).f1), .int .i64 ((rd_T41 t824 t833).f2)] 41 (0, 0)) (by (with_reducible repeat (first | refine blk_drewN ?_ _ | refine blk_drew ?_ | refine blk_alloc ?_ _)); exact BK835.out) hb); have n5_ := Aside0.mk (blk_below (g := gb840) (o := .cells #[.int .i64 t823, u841001] 24 (0, 0)) (by (with_reducible repeat (first | refine blk_drewN ?_ _ | refine blk_drew ?_ | refine blk_alloc ?_ _)); exact BK840.out) hb); have n6_ := Aside0.mk (below_step (by repeat (first | (with_reducible first | exact HB.out | apply below_alloc | apply pw_below_drewN | apply below_drew1 | refine below_set ?_ GE817.out | refine below_set ?_ GE827.out | refine below_set ?_ GE835.out | refine below_set ?_ GE840.out) | exact HB.out)) hb); have n7_ := Aside0.mk (hbox); have n8_ := Aside0.mk ((by rw [hg]; exact (below_size (by repeat (first | (with_reducible first | exact HB.out | apply below_alloc | apply pw_below_drewN | apply below_drew1 | refine below_set ?_ GE817.out | refine below_set ?_ GE827.out | refine below_set ?_ GE835.out | refine below_set ?_ GE840.out) | exact HB.out))) : w.heap.size ≤ gb842)); have n9_ := Aside0.mk ((by rw [hg]; exact (below_size (by repeat (first | (with_reducible first | exact HB.out | apply below_alloc | apply pw_below_drewN | apply below_drew1 | refine below_set ?_ GE817.out | refine below_set ?_ GE827.out | refine below_set ?_ GE835.out | refine below_set ?_ GE840.out) | exact HB.out))) : w.heap.size ≤ gb842)); have n10_ := Aside0.mk ((by rw [hg]; exact Nat.ne_of_lt (blk_lt (g := gb817) (o := .cells #[.int .i64 a0_0, .slice A0_1 l0_1.length c0_1] 24 (0, 0)) (by (with_reducible repeat (first | refine blk_drewN ?_ _ | refine blk_drew ?_ | refine blk_alloc ?_ _)); exact BK817.out)) : gb817 ≠ gb842)); have n11_ := Aside0.mk ((by rw [hg]; exact Nat.ne_of_gt (blk_lt (g := gb817) (o := .cells #[.int .i64 a0_0, .slice A0_1 l0_1.length c0_1] 24 (0, 0)) (by (with_reducible repeat (first | refine blk_drewN ?_ _ | refine blk_drew ?_ | refine blk_alloc ?_ _)); exact BK817.out)) : gb842 ≠ gb817)); have n12_ := Aside0.mk ((by rw [hg]; exact Nat.ne_of_lt (blk_lt (g := gb827) (o := .cells #[.int .i64 t823, .slice (some ad834) t824.length co64] 24 (0, 0)) (by (with_reducible repeat (first | refine blk_drewN ?_ _ | refine blk_drew ?_ | refine blk_alloc ?_ _)); exact BK827.out)) : gb827 ≠ gb842)); have n13_ := Aside0.mk ((by rw [hg]; exact Nat.ne_of_gt (blk_lt (g := gb827) (o := .cells #[.int .i64 t823, .slice (some ad834) t824.length co64] 24 (0, 0)) (by (with_reducible repeat (first | refine blk_drewN ?_ _ | refine blk_drew ?_ | refine blk_alloc ?_ _)); exact BK827.out)) : gb842 ≠ gb827)); have n14_ := Aside0.mk ((by rw [hg]; exact Nat.ne_of_lt (blk_lt (g := gb835) (o := .cells #[.int .i64 ((rd_T41 t824 t833).f0), .int .i64 ((rd_T41 t824 t833).f1), .int .i64 ((rd_T41 t824 t833).f2)] 41 (0, 0)) (by (with_reducible repeat (first | refine blk_drewN ?_ _ | refine blk_drew ?_ | refine blk_alloc ?_ _)); exact BK835.out)) : gb835 ≠ gb842)); have n15_ := Aside0.mk ((by rw [hg]; exact Nat.ne_of_gt (blk_lt (g := gb835) (o := .cells #[.int .i64 ((rd_T41 t824 t833).f0), .int .i64 ((rd_T41 t824 t833).f1), .int .i64 ((rd_T41 t824 t833).f2)] 41 (0, 0)) (by (with_reducible repeat (first | refine blk_drewN ?_ _ | refine blk_drew ?_ | refine blk_alloc ?_ _)); exact BK835.out)) : gb842 ≠ gb835)); have n16_ := Aside0.mk ((by rw [hg]; exact Nat.ne_of_lt (blk_lt (g := gb840) (o := .cells #[.int .i64 t823, u841001] 24 (0, 0)) (by (with_reducible repeat (first | refine blk_drewN ?_ _ | refine blk_drew ?_ | refine blk_alloc ?_ _)); exact BK840.out)) : gb840 ≠ gb842)); have n17_ := Aside0.mk ((by rw [hg]; exact Nat.ne_of_gt (blk_lt (g := gb840) (o := .cells #[.int .i64 t823, u841001] 24 (0, 0)) (by (with_reducible repeat (first | refine blk_drewN ?_ _ | refine blk_drew ?_ | refine blk_alloc ?_ _)); exact BK840.out)) : gb842 ≠ gb840)); clear HO_828001; clear HO_841001; clear BK817; clear BK827; clear BK835; clear BK840; clear HB; have HO_828001 := n0_; have HO_841001 := n1_; have BK817 := n2_; have BK827 := n3_; have BK835 := n4_; have BK840 := n5_; have HB := n6_; have BK842 := n7_; have GW842 := n8_; have GE842 := n9_; have NB817_842 := n10_; have NB842_817 := n11_; have NB827_842 := n12_; have NB842_827 := n13_; have NB835_842 := n14_; have NB842_835 := n15_; have NB840_842 := n16_; have NB842_840 := n17_; clear n0_ n1_ n2_ n3_ n4_ n5_ n6_ n7_ n8_ n9_ n10_ n11_ n12_ n13_ n14_ n15_ n16_ n17_; clear hb hbox hg; have hnb111 := NB842_817.out; have hnc111 := NB817_842.out; have hnb112 := NB842_827.out; have hnc112 := NB827_842.out; have hnb113 := NB842_835.out; have hnc113 := NB835_842.out; have hnb114 := NB842_840.out; have hnc114 := NB840_842.out; have hcz115_0 : w110.cell? ⟨gb842, 0, none⟩ = some (.int .i64 0) := (blk_cell BK842.out 0).trans rfl; have hcz115_1 : w110.cell? ⟨gb842, 1, none⟩ = some (.int .i64 0) := (blk_cell BK842.out 1).trans rfl; have hcz115_2 : w110.cell? ⟨gb842, 2, none⟩ = some (.int .i64 0) := (blk_cell BK842.out 2).trans rfl; have hfz115_0 := blk_frozen BK842.out 0; have hfz115_1 := blk_frozen BK842.out 1; have hfz115_2 := blk_frozen BK842.out 2; have hnb116 := NB840_817.out; have hnc116 := NB817_840.out; have hnb117 := NB840_835.out; have hnc117 := NB835_840.out; have hcz118_0 : w110.cell? ⟨gb840, 0, none⟩ = some (.int .i64 t823) := (blk_cell BK840.out 0).trans rfl; have hcz118_1 : w110.cell? ⟨gb840, 1, none⟩ = some (u841001) := (blk_cell BK840.out 1).trans rfl; have hfz118_0 := blk_frozen BK840.out 0; have hfz118_1 := blk_frozen BK840.out 1) | ((with_reducible refine gate_builtin (b := .append) (xs := #[.tmp 102, .tmp 104]) rfl ?_); at_builtin; refine Kd.R_append k41 (w0 := w) w.heap.size rfl (.tmp 102) (.tmp 104) 22 41 (.agg #[(.int .i64 0), (.int .i64 0), (.int .i64 0)]) 24 rfl Try.underlying22 info41 rfl (by decide) (by omega) u841001 x841001_1 (⟨(rd_T41 t824 x16_1).f0, (rd_T41 t824 x16_1).f1, (rd_T41 t824 x16_1).f2⟩ : S41) [.int .i64 ((rd_T41 t824 x16_1).f0), .int .i64 ((rd_T41 t824 x16_1).f1), .int .i64 ((rd_T41 t824 x16_1).f2)] (fun k_ => some k_ ≠ (.slice (some ad834) t824.length co64 : Value).ownBlock ∧ k_ ≠ gb835 ∧ k_ ≠ gb842) (fun _ => False) rfl (by first | (go_simp; done) | (go_simp; rfl)) ?aP (fun _ hk => hk.elim) ?aF ?aO ?aB ?aS ?aL ?_; (case aP => exact k41_mkM _ _ _ (⟨(rd_T41 t824 x16_1).f0, (rd_T41 t824 x16_1).f1, (rd_T41 t824 x16_1).f2⟩ : S41)); (case aB => exact (by repeat (first | (with_reducible first | exact HB.out | apply below_alloc | apply pw_below_drewN | apply below_drew1 | refine below_set ?_ GE817.out | refine below_set ?_ GE827.out | refine below_set ?_ GE835.out | refine below_set ?_ GE840.out | refine below_set ?_ GE842.out) | exact HB.out))); (case aF => exact (fun k_ hk => ⟨Kd.fresh' (Kd.R_lt (by (with_reducible repeat (first | apply Kd.R_alloc | apply Kd.R_drewN | apply Kd.R_drew)); exact (Kd.R_mono (Kd.R_far (p := ⟨gb842, 2, none⟩) (Kd.R_far (p := ⟨gb842, 1, none⟩) (Kd.R_far (p := ⟨gb842, 0, none⟩) (Kd.R_mono HO_828001.out (fun k_ hk => (⟨hk, hk.2⟩ : _ ∧ k_ ≠ gb842))) (fun _ hk => hk.2) (.int .i64 ((rd_T41 t824 x16_1).f0))) (fun _ hk => hk.2) (.int .i64 ((rd_T41 t824 x16_1).f1))) (fun _ hk => hk.2) (.int .i64 ((rd_T41 t824 x16_1).f2))) (fun _ h_ => h_.1)))) k_ hk, Kd.freshB (g := gb835) (o := .cells #[.int .i64 ((rd_T41 t824 t833).f0), .int .i64 ((rd_T41 t824 t833).f1), .int .i64 ((rd_T41 t824 t833).f2)] 41 (0, 0)) (by (with_reducible repeat (first | refine blk_drewN ?_ _ | refine blk_drew ?_ | refine blk_alloc ?_ _)); refine blk_far ?_ NB835_842.out _; (with_reducible repeat (first | refine blk_drewN ?_ _ | refine blk_drew ?_ | refine blk_alloc ?_ _)); refine blk_far ?_ NB835_842.out _; (with_reducible repeat (first | refine blk_drewN ?_ _ | refine blk_drew ?_ | refine blk_alloc ?_ _)); refine blk_far ?_ NB835_842.out _; (with_reducible repeat (first | refine blk_drewN ?_ _ | refine blk_drew ?_ | refine blk_alloc ?_ _)); exact BK835.out) k_ hk, Kd.freshB (g := gb842) (o := .cells #[.int .i64 ((rd_T41 t824 x16_1).f0), .int .i64 ((rd_T41 t824 x16_1).f1), .int .i64 ((rd_T41 t824 x16_1).f2)] 41 (0, 0)) (by (with_reducible repeat (first | refine blk_drewN ?_ _ | refine blk_drew ?_ | refine blk_alloc ?_ _)); refine blk_put (cs := #[.int .i64 ((rd_T41 t824 x16_1).f0), .int .i64 ((rd_T41 t824 x16_1).f1), .int .i64 0]) ?_ 2 _ rfl; (with_reducible repeat (first | refine blk_drewN ?_ _ | refine blk_drew ?_ | refine blk_alloc ?_ _)); refine blk_put (cs := #[.int .i64 ((rd_T41 t824 x16_1).f0), .int .i64 0, .int .i64 0]) ?_ 1 _ rfl; (with_reducible repeat (first | refine blk_drewN ?_ _ | refine blk_drew ?_ | refine blk_alloc ?_ _)); refine blk_put (cs := #[.int .i64 0, .int .i64 0, .int .i64 0]) ?_ 0 _ rfl; (with_reducible repeat (first | refine blk_drewN ?_ _ | refine blk_drew ?_ | refine blk_alloc ?_ _)); exact BK842.out) k_ hk⟩)); (case aO => exact (by (with_reducible repeat (first | apply Kd.R_alloc | apply Kd.R_drewN | apply Kd.R_drew)); exact Kd.R_mono (Kd.R_far (p := ⟨gb842, 2, none⟩) (Kd.R_far (p := ⟨gb842, 1, none⟩) (Kd.R_far (p := ⟨gb842, 0, none⟩) (Kd.R_mono HO_841001.out (fun k_ hk => (⟨hk, hk.2⟩ : _ ∧ k_ ≠ gb842))) (fun _ hk => hk.2) (.int .i64 ((rd_T41 t824 x16_1).f0))) (fun _ hk => hk.2) (.int .i64 ((rd_T41 t824 x16_1).f1))) (fun _ hk => hk.2) (.int .i64 ((rd_T41 t824 x16_1).f2))) (fun _ hk => ⟨hk.1.1.1, ⟨hk.1.1.2, hk.1.2⟩⟩))); (case aS => exact (below_size (by repeat (first | (with_reducible first | exact HB.out | apply below_alloc | apply pw_below_drewN | apply below_drew1 | refine below_set ?_ GE817.out | refine below_set ?_ GE827.out | refine below_set ?_ GE835.out | refine below_set ?_ GE840.out | refine below_set ?_ GE842.out) | exact HB.out)))); (case aL => have := LMc105.out; omega); intro v847 w119 ho hb hg hat; rw [← Ny846.out] at ho; have n0_ := Aside0.mk (Kd.R_after (ok := (fun k_ => k_ ≠ gb835 ∧ k_ ≠ gb842)) (by (with_reducible repeat (first | apply Kd.R_alloc | apply Kd.R_drewN | apply Kd.R_drew)); exact Kd.R_mono (Kd.R_far (p := ⟨gb842, 2, none⟩) (Kd.R_far (p := ⟨gb842, 1, none⟩) (Kd.R_far (p := ⟨gb842, 0, none⟩) (Kd.R_mono HO_828001.out (fun k_ hk => (⟨hk, hk.2⟩ : _ ∧ k_ ≠ gb842))) (fun _ hk => hk.2) (.int .i64 ((rd_T41 t824 x16_1).f0))) (fun _ hk => hk.2) (.int .i64 ((rd_T41 t824 x16_1).f1))) (fun _ hk => hk.2) (.int .i64 ((rd_T41 t824 x16_1).f2))) (fun _ hk => ⟨⟨hk.1.1.2, hk.1.2⟩, hk.1.1.1⟩)) hg hat); have n1_ := Aside0.mk (blk_grown (g := gb817) (o := .cells #[.int .i64 a0_0, .slice A0_1 l0_1.length c0_1] 24 (0, 0)) (by (with_reducible repeat (first | refine blk_drewN ?_ _ | refine blk_drew ?_ | refine blk_alloc ?_ _)); refine blk_far ?_ NB817_842.out _; (with_reducible repeat (first | refine blk_drewN ?_ _ | refine blk_drew ?_ | refine blk_alloc ?_ _)); refine blk_far ?_ NB817_842.out _; (with_reducible repeat (first | refine blk_drewN ?_ _ | refine blk_drew ?_ | refine blk_alloc ?_ _)); refine blk_far ?_ NB817_842.out _; (with_reducible repeat (first | refine blk_drewN ?_ _ | refine blk_drew ?_ | refine blk_alloc ?_ _)); exact BK817.out) hg (Kd.R_ne HO_841001.out BK817.out (by decide))); have n2_ := Aside0.mk (blk_grown (g := gb827) (o := .cells #[.int .i64 t823, .slice (some ad834) t824.length co64] 24 (0, 0)) (by (with_reducible repeat (first | refine blk_drewN ?_ _ | refine blk_drew ?_ | refine blk_alloc ?_ _)); refine blk_far ?_ NB827_842.out _; (with_reducible repeat (first | refine blk_drewN ?_ _ | refine blk_drew ?_ | refine blk_alloc ?_ _)); refine blk_far ?_ NB827_842.out _; (with_reducible repeat (first | refine blk_drewN ?_ _ | refine blk_drew ?_ | refine blk_alloc ?_ _)); refine blk_far ?_ NB827_842.out _; (with_reducible repeat (first | refine blk_drewN ?_ _ | refine blk_drew ?_ | refine blk_alloc ?_ _)); exact BK827.out) hg (Kd.R_ne HO_841001.out BK827.out (by decide))); have n3_ := Aside0.mk (blk_grown (g := gb835) (o := .cells #[.int .i64 ((rd_T41 t824 t833).f0), .int .i64 ((rd_T41 t824 t833).f1), .int .i64 ((rd_T41 t824 t833).f2)] 41 (0, 0)) (by (with_reducible repeat (first | refine blk_drewN ?_ _ | refine blk_drew ?_ | refine blk_alloc ?_ _)); refine blk_far ?_ NB835_842.out _; (with_reducible repeat (first | refine blk_drewN ?_ _ | refine blk_drew ?_ | refine blk_alloc ?_ _)); refine blk_far ?_ NB835_842.out _; (with_reducible repeat (first | refine blk_drewN ?_ _ | refine blk_drew ?_ | refine blk_alloc ?_ _)); refine blk_far ?_ NB835_842.out _; (with_reducible repeat (first | refine blk_drewN ?_ _ | refine blk_drew ?_ | refine blk_alloc ?_ _)); exact BK835.out) hg (Kd.R_away HO_841001.out (fun _ hk => hk.1.2))); have n4_ := Aside0.mk (blk_grown (g := gb840) (o := .cells #[.int .i64 t823, u841001] 24 (0, 0)) (by (with_reducible repeat (first | refine blk_drewN ?_ _ | refine blk_drew ?_ | refine blk_alloc ?_ _)); refine blk_far ?_ NB840_842.out _; (with_reducible repeat (first | refine blk_drewN ?_ _ | refine blk_drew ?_ | refine blk_alloc ?_ _)); refine blk_far ?_ NB840_842.out _; (with_reducible repeat (first | refine blk_drewN ?_ _ | refine blk_drew ?_ | refine blk_alloc ?_ _)); refine blk_far ?_ NB840_842.out _; (with_reducible repeat (first | refine blk_drewN ?_ _ | refine blk_drew ?_ | refine blk_alloc ?_ _)); exact BK840.out) hg (Kd.R_ne HO_841001.out BK840.out (by decide))); have n5_ := Aside0.mk (blk_grown (g := gb842) (o := .cells #[.int .i64 ((rd_T41 t824 x16_1).f0), .int .i64 ((rd_T41 t824 x16_1).f1), .int .i64 ((rd_T41 t824 x16_1).f2)] 41 (0, 0)) (by (with_reducible repeat (first | refine blk_drewN ?_ _ | refine blk_drew ?_ | refine blk_alloc ?_ _)); refine blk_put (cs := #[.int .i64 ((rd_T41 t824 x16_1).f0), .int .i64 ((rd_T41 t824 x16_1).f1), .int .i64 0]) ?_ 2 _ rfl; (with_reducible repeat (first | refine blk_drewN ?_ _ | refine blk_drew ?_ | refine blk_alloc ?_ _)); refine blk_put (cs := #[.int .i64 ((rd_T41 t824 x16_1).f0), .int .i64 0, .int .i64 0]) ?_ 1 _ rfl; (with_reducible repeat (first | refine blk_drewN ?_ _ | refine blk_drew ?_ | refine blk_alloc ?_ _)); refine blk_put (cs := #[.int .i64 0, .int .i64 0, .int .i64 0]) ?_ 0 _ rfl; (with_reducible repeat (first | refine blk_drewN ?_ _ | refine blk_drew ?_ | refine blk_alloc ?_ _)); exact BK842.out) hg (Kd.R_away HO_841001.out (fun _ hk => hk.2))); have n6_ := Aside0.mk (hb); have n7_ := Aside0.mk (ho); clear HO_828001; clear BK817; clear BK827; clear BK835; clear BK840; clear BK842; clear HB; clear HO_841001; have HO_828001 := n0_; have BK817 := n1_; have BK827 := n2_; have BK835 := n3_; have BK840 := n4_; have BK842 := n5_; have HB := n6_; have HO848 := n7_; clear n0_ n1_ n2_ n3_ n4_ n5_ n6_ n7_; clear ho hb hg hat; obtain ⟨Ao120, co120, eo120⟩ := Kd.R_slice HO848.out; subst eo120; have hcz121_0 : w119.cell? ⟨gb840, 0, none⟩ = some (.int .i64 t823) := (blk_cell BK840.out 0).trans rfl; have hcz121_1 : w119.cell? ⟨gb840, 1, none⟩ = some (u841001) := (blk_cell BK840.out 1).trans rfl; have hfz121_0 := blk_frozen BK840.out 0; have hfz121_1 := blk_frozen BK840.out 1))
                          go_roundg k1
                          case measure => have := HK1.out; omega
                          case rel => exact ⟨(wrap64 (x16_1 - 1)), (y846), (.slice Ao120 y846.length co120), (by first | rfl | (simp; done) | (simp [*]; done)), H', ⟨by have := HK1.out; omega⟩, ⟨by (with_reducible repeat (first | apply Kd.R_alloc | apply Kd.R_drewN | apply Kd.R_drew)); exact Kd.R_mono (Kd.R_far (p := ⟨gb840, 1, none⟩) (Kd.R_types HO_828001.out BK840.out (by decide)) (fun _ hk => hk.2) (.slice Ao120 y846.length co120)) (fun _ hk => ⟨hk.1.2, hk.1.1.1⟩)⟩, ⟨by (with_reducible repeat (first | apply Kd.R_alloc | apply Kd.R_drewN | apply Kd.R_drew)); exact Kd.R_mono (Kd.R_far (p := ⟨gb840, 1, none⟩) (Kd.R_types HO848.out BK840.out (by decide)) (fun _ hk => hk.2) (.slice Ao120 y846.length co120)) (fun _ hk => ⟨hk.1.1, hk.1.2.1⟩)⟩, ⟨by (with_reducible repeat (first | refine blk_drewN ?_ _ | refine blk_drew ?_ | refine blk_alloc ?_ _)); refine blk_far ?_ NB817_840.out _; (with_reducible repeat (first | refine blk_drewN ?_ _ | refine blk_drew ?_ | refine blk_alloc ?_ _)); exact BK817.out⟩, ⟨by (with_reducible repeat (first | refine blk_drewN ?_ _ | refine blk_drew ?_ | refine blk_alloc ?_ _)); refine blk_far ?_ NB827_840.out _; (with_reducible repeat (first | refine blk_drewN ?_ _ | refine blk_drew ?_ | refine blk_alloc ?_ _)); exact BK827.out⟩, ⟨by (with_reducible repeat (first | refine blk_drewN ?_ _ | refine blk_drew ?_ | refine blk_alloc ?_ _)); refine blk_far ?_ NB835_840.out _; (with_reducible repeat (first | refine blk_drewN ?_ _ | refine blk_drew ?_ | refine blk_alloc ?_ _)); exact BK835.out⟩, ⟨by (with_reducible repeat (first | refine blk_drewN ?_ _ | refine blk_drew ?_ | refine blk_alloc ?_ _)); refine blk_put (cs := #[.int .i64 t823, u841001]) ?_ 1 _ rfl; (with_reducible repeat (first | refine blk_drewN ?_ _ | refine blk_drew ?_ | refine blk_alloc ?_ _)); exact BK840.out⟩, ⟨by repeat (first | (with_reducible first | exact HB.out | apply below_alloc | apply pw_below_drewN | apply below_drew1 | refine below_set ?_ GE817.out | refine below_set ?_ GE827.out | refine below_set ?_ GE835.out | refine below_set ?_ GE840.out | refine below_set ?_ GE842.out) | exact HB.out)⟩⟩
                        · rw [if_neg c105] at H
                          exact absurd H (by simp)
                    · rw [if_neg c84] at H
                      exact absurd H (by simp)
                  · rw [if_neg c83] at H
                    exact absurd H (by simp)
                · rw [if_neg c82] at H
                  have c82b0 : decide (0 ≤ x16_1) = false := decide_eq_false c82
                  clear c82
                  replace H := Option.bind_eq_some_iff.mp H
                  obtain ⟨⟨t849, t852, t853⟩, A1220, H⟩ := H
                  replace H : ((flow_Max.f k1 t823 x841001_1 0 1).bind fun bt854 => (if t818 = true then (if t853 = 0 then (if bt854.2.2 = 0 then (some (t852 == bt854.2.1)) else (some false)) else (some false)) else (some false))) = some r := H
                  have A122 := Aside0.mk A1220
                  clear A1220
                  replace H := Option.bind_eq_some_iff.mp H
                  obtain ⟨⟨t854, t857, t858⟩, A1230, H⟩ := H
                  replace H : (if t818 = true then (if t853 = 0 then (if t858 = 0 then (some (t852 == t857)) else (some false)) else (some false)) else (some false)) = some r := H
                  have A123 := Aside0.mk A1230
                  clear A1230
                  by_cases c124 : t818 = true
                  · subst c124
                    have H1 : (if t853 = 0 then (if t858 = 0 then (some (t852 == t857)) else (some false)) else (some false)) = some r := by rw [if_pos rfl] at H; exact H
                    clear H
                    have H := H1
                    clear H1
                    by_cases c125 : t853 = 0
                    · rw [if_pos c125] at H
                      have c125b0 : (t853 == 0) = true := beq_iff_eq.mpr c125
                      have c125b1 : (t853 != 0) = false := bne_eq_false_iff_eq.mpr c125
                      clear c125
                      by_cases c126 : t858 = 0
                      · rw [if_pos c126] at H
                        have c126b0 : (t858 == 0) = true := beq_iff_eq.mpr c126
                        have c126b1 : (t858 != 0) = false := bne_eq_false_iff_eq.mpr c126
                        clear c126
                        obtain rfl := Option.some.inj H
                        have hnb127 := NB827_817.out
                        have hnc127 := NB817_827.out
                        have hnb128 := NB827_835.out
                        have hnc128 := NB835_827.out
                        have hnb129 := NB827_840.out
                        have hnc129 := NB840_827.out
                        have hcz130_0 : wr.cell? ⟨gb827, 0, none⟩ = some (.int .i64 t823) := (blk_cell BK827.out 0).trans rfl
                        have hcz130_1 : wr.cell? ⟨gb827, 1, none⟩ = some (.slice (some ad834) t824.length co64) := (blk_cell BK827.out 1).trans rfl
                        have hfz130_0 := blk_frozen BK827.out 0
                        have hfz130_1 := blk_frozen BK827.out 1
                        go_wp2_with (first | ((with_reducible refine gate_callee (f := 37) rfl ?_); refine goesL_ (some 109) rfl rfl Try.func37 (by kernel_rfl) rfl #[.agg #[.int .i64 t823, .slice (some ad834) t824.length co64], .int .i64 0, .int .i64 1] rfl (by (try simp only [List.map_toArray, List.map_cons, List.map_nil]); first | done | rfl | (simp only [List.length_drop, List.length_take]; rfl)) ?_; (with_reducible refine (flow_Max.calls k1 t823 _ _ t824 0 1 t849 t852 t853 _ ?side1 ?side2 A122.out).mono ?_); (case side1 => repeat (first | exact (Kd.R_reads' HO_828001.out).2.2 | (with_reducible refine Kd.C_alloc ?_ _) | (with_reducible refine Kd.C_drewN ?_ _) | (with_reducible refine Kd.C_drew ?_))); (case side2 => exact (Kd.R_reads' HO_828001.out).2.1); rintro e w131 ⟨v850, rfl, ho0, hb⟩; refine ⟨_, rfl, ?_⟩; have n0_ := Aside0.mk (Kd.R_below (by (with_reducible repeat (first | apply Kd.R_alloc | apply Kd.R_drewN | apply Kd.R_drew)); exact HO_828001.out) hb); have n1_ := Aside0.mk (Kd.R_below (by (with_reducible repeat (first | apply Kd.R_alloc | apply Kd.R_drewN | apply Kd.R_drew)); exact HO_841001.out) hb); have n2_ := Aside0.mk (Kd.V_lower (Kd.V_mono (ok' := fun k_ => some k_ ≠ (.slice (some ad834) t824.length co64 : Value).ownBlock ∧ some k_ ≠ (u841001 : Value).ownBlock ∧ k_ ≠ gb817 ∧ k_ ≠ gb827 ∧ k_ ≠ gb835 ∧ k_ ≠ gb840) ho0 (fun k_ hk_ => ⟨(Kd.fresh' (Kd.R_lt (by (with_reducible repeat (first | apply Kd.R_alloc | apply Kd.R_drewN | apply Kd.R_drew)); exact HO_828001.out)) k_ hk_), (Kd.fresh' (Kd.R_lt (by (with_reducible repeat (first | apply Kd.R_alloc | apply Kd.R_drewN | apply Kd.R_drew)); exact HO_841001.out)) k_ hk_), (Kd.freshB (g := gb817) (o := .cells #[.int .i64 a0_0, .slice A0_1 l0_1.length c0_1] 24 (0, 0)) (by (with_reducible repeat (first | refine blk_drewN ?_ _ | refine blk_drew ?_ | refine blk_alloc ?_ _)); exact BK817.out) k_ hk_), (Kd.freshB (g := gb827) (o := .cells #[.int .i64 t823, .slice (some ad834) t824.length co64] 24 (0, 0)) (by (with_reducible repeat (first | refine blk_drewN ?_ _ | refine blk_drew ?_ | refine blk_alloc ?_ _)); exact BK827.out) k_ hk_), (Kd.freshB (g := gb835) (o := .cells #[.int .i64 ((rd_T41 t824 t833).f0), .int .i64 ((rd_T41 t824 t833).f1), .int .i64 ((rd_T41 t824 t833).f2)] 41 (0, 0)) (by (with_reducible repeat (first | refine blk_drewN ?_ _ | refine blk_drew ?_ | refine blk_alloc ?_ _)); exact BK835.out) k_ hk_), (Kd.freshB (g := gb840) (o := .cells #[.int .i64 t823, u841001] 24 (0, 0)) (by (with_reducible repeat (first | refine blk_drewN ?_ _ | refine blk_drew ?_ | refine blk_alloc ?_ _)); exact BK840.out) k_ hk_)⟩)) (below_size (by repeat (first | (with_reducible first | exact HB.out | apply below_alloc | apply pw_below_drewN | apply below_drew1 | refine below_set ?_ GE817.out | refine below_set ?_ GE827.out | refine below_set ?_ GE835.out | refine below_set ?_ GE840.out) | exact HB.out)))); have n3_ := Aside0.mk (blk_below (g := gb817) (o := .cells #[.int .i64 a0_0, .slice A0_1 l0_1.length c0_1] 24 (0, 0)) (by (with_reducible repeat (first | refine blk_drewN ?_ _ | refine blk_drew ?_ | refine blk_alloc ?_ _)); exact BK817.out) hb); have n4_ := Aside0.mk (blk_below (g := gb827) (o := .cells #[.int .i64 t823, .slice (some ad834) t824.length co64] 24 (0, 0)) (by (with_reducible repeat (first | refine blk_drewN ?_ _ | refine blk_drew ?_ | refine blk_alloc ?_ _)); exact BK827.out) hb); have n5_ := Aside0.mk (blk_below (g := gb835) (o := .cells #[.int .i64 ((rd_T41 t824 t833).f0), .int .i64 ((rd_T41 t824 t833).f1), .int .i64 ((rd_T41 t824 t833).f2)] 41 (0, 0)) (by (with_reducible repeat (first | refine blk_drewN ?_ _ | refine blk_drew ?_ | refine blk_alloc ?_ _)); exact BK835.out) hb); have n6_ := Aside0.mk (blk_below (g := gb840) (o := .cells #[.int .i64 t823, u841001] 24 (0, 0)) (by (with_reducible repeat (first | refine blk_drewN ?_ _ | refine blk_drew ?_ | refine blk_alloc ?_ _)); exact BK840.out) hb); have n7_ := Aside0.mk (below_step (by repeat (first | (with_reducible first | exact HB.out | apply below_alloc | apply pw_below_drewN | apply below_drew1 | refine below_set ?_ GE817.out | refine below_set ?_ GE827.out | refine below_set ?_ GE835.out | refine below_set ?_ GE840.out) | exact HB.out)) hb); clear HO_828001; clear HO_841001; clear BK817; clear BK827; clear BK835; clear BK840; clear HB; have HO_828001 := n0_; have HO_841001 := n1_; have HO851 := n2_; have BK817 := n3_; have BK827 := n4_; have BK835 := n5_; have BK840 := n6_; have HB := n7_; clear n0_ n1_ n2_ n3_ n4_ n5_ n6_ n7_; (try clear hb); (try clear hb2); (try clear hk); (try clear hi); (try clear ho0); have hnb132 := NB840_817.out; have hnc132 := NB817_840.out; have hnb133 := NB840_835.out; have hnc133 := NB835_840.out; have hcz134_0 : w131.cell? ⟨gb840, 0, none⟩ = some (.int .i64 t823) := (blk_cell BK840.out 0).trans rfl; have hcz134_1 : w131.cell? ⟨gb840, 1, none⟩ = some (u841001) := (blk_cell BK840.out 1).trans rfl; have hfz134_0 := blk_frozen BK840.out 0; have hfz134_1 := blk_frozen BK840.out 1; obtain ⟨Ao135, co135, eo135⟩ := Kd.R_slice HO_841001.out; subst eo135) | ((with_reducible refine gate_callee (f := 37) rfl ?_); refine goesL_ (some 115) rfl rfl Try.func37 (by kernel_rfl) rfl #[.agg #[.int .i64 t823, .slice Ao135 x841001_1.length co135], .int .i64 0, .int .i64 1] rfl (by (try simp only [List.map_toArray, List.map_cons, List.map_nil]); first | done | rfl | (simp only [List.length_drop, List.length_take]; rfl)) ?_; (with_reducible refine (flow_Max.calls k1 t823 _ _ x841001_1 0 1 t854 t857 t858 _ ?side1 ?side2 A123.out).mono ?_); (case side1 => repeat (first | exact (Kd.R_reads' HO_841001.out).2.2 | (with_reducible refine Kd.C_alloc ?_ _) | (with_reducible refine Kd.C_drewN ?_ _) | (with_reducible refine Kd.C_drew ?_))); (case side2 => exact (Kd.R_reads' HO_841001.out).2.1); rintro e w136 ⟨v855, rfl, ho0, hb⟩; refine ⟨_, rfl, ?_⟩; have n0_ := Aside0.mk (Kd.R_below (by (with_reducible repeat (first | apply Kd.R_alloc | apply Kd.R_drewN | apply Kd.R_drew)); exact HO_828001.out) hb); have n1_ := Aside0.mk (Kd.R_below (by (with_reducible repeat (first | apply Kd.R_alloc | apply Kd.R_drewN | apply Kd.R_drew)); exact HO_841001.out) hb); have n2_ := Aside0.mk (Kd.V_below (by (with_reducible repeat (first | apply Kd.V_alloc | apply Kd.V_drewN | apply Kd.V_drew)); exact HO851.out) hb); have n3_ := Aside0.mk (Kd.V_lower (Kd.V_mono (ok' := fun k_ => some k_ ≠ (.slice (some ad834) t824.length co64 : Value).ownBlock ∧ some k_ ≠ (.slice Ao135 x841001_1.length co135 : Value).ownBlock ∧ k_ ≠ gb817 ∧ k_ ≠ gb827 ∧ k_ ≠ gb835 ∧ k_ ≠ gb840) ho0 (fun k_ hk_ => ⟨(Kd.fresh' (Kd.R_lt (by (with_reducible repeat (first | apply Kd.R_alloc | apply Kd.R_drewN | apply Kd.R_drew)); exact HO_828001.out)) k_ hk_), (Kd.fresh' (Kd.R_lt (by (with_reducible repeat (first | apply Kd.R_alloc | apply Kd.R_drewN | apply Kd.R_drew)); exact HO_841001.out)) k_ hk_), (Kd.freshB (g := gb817) (o := .cells #[.int .i64 a0_0, .slice A0_1 l0_1.length c0_1] 24 (0, 0)) (by (with_reducible repeat (first | refine blk_drewN ?_ _ | refine blk_drew ?_ | refine blk_alloc ?_ _)); exact BK817.out) k_ hk_), (Kd.freshB (g := gb827) (o := .cells #[.int .i64 t823, .slice (some ad834) t824.length co64] 24 (0, 0)) (by (with_reducible repeat (first | refine blk_drewN ?_ _ | refine blk_drew ?_ | refine blk_alloc ?_ _)); exact BK827.out) k_ hk_), (Kd.freshB (g := gb835) (o := .cells #[.int .i64 ((rd_T41 t824 t833).f0), .int .i64 ((rd_T41 t824 t833).f1), .int .i64 ((rd_T41 t824 t833).f2)] 41 (0, 0)) (by (with_reducible repeat (first | refine blk_drewN ?_ _ | refine blk_drew ?_ | refine blk_alloc ?_ _)); exact BK835.out) k_ hk_), (Kd.freshB (g := gb840) (o := .cells #[.int .i64 t823, .slice Ao135 x841001_1.length co135] 24 (0, 0)) (by (with_reducible repeat (first | refine blk_drewN ?_ _ | refine blk_drew ?_ | refine blk_alloc ?_ _)); exact BK840.out) k_ hk_)⟩)) (below_size (by repeat (first | (with_reducible first | exact HB.out | apply below_alloc | apply pw_below_drewN | apply below_drew1 | refine below_set ?_ GE817.out | refine below_set ?_ GE827.out | refine below_set ?_ GE835.out | refine below_set ?_ GE840.out) | exact HB.out)))); have n4_ := Aside0.mk (blk_below (g := gb817) (o := .cells #[.int .i64 a0_0, .slice A0_1 l0_1.length c0_1] 24 (0, 0)) (by (with_reducible repeat (first | refine blk_drewN ?_ _ | refine blk_drew ?_ | refine blk_alloc ?_ _)); exact BK817.out) hb); have n5_ := Aside0.mk (blk_below (g := gb827) (o := .cells #[.int .i64 t823, .slice (some ad834) t824.length co64] 24 (0, 0)) (by (with_reducible repeat (first | refine blk_drewN ?_ _ | refine blk_drew ?_ | refine blk_alloc ?_ _)); exact BK827.out) hb); have n6_ := Aside0.mk (blk_below (g := gb835) (o := .cells #[.int .i64 ((rd_T41 t824 t833).f0), .int .i64 ((rd_T41 t824 t833).f1), .int .i64 ((rd_T41 t824 t833).f2)] 41 (0, 0)) (by (with_reducible repeat (first | refine blk_drewN ?_ _ | refine blk_drew ?_ | refine blk_alloc ?_ _)); exact BK835.out) hb); have n7_ := Aside0.mk (blk_below (g := gb840) (o := .cells #[.int .i64 t823, .slice Ao135 x841001_1.length co135] 24 (0, 0)) (by (with_reducible repeat (first | refine blk_drewN ?_ _ | refine blk_drew ?_ | refine blk_alloc ?_ _)); exact BK840.out) hb); have n8_ := Aside0.mk (below_step (by repeat (first | (with_reducible first | exact HB.out | apply below_alloc | apply pw_below_drewN | apply below_drew1 | refine below_set ?_ GE817.out | refine below_set ?_ GE827.out | refine below_set ?_ GE835.out | refine below_set ?_ GE840.out) | exact HB.out)) hb); clear HO_828001; clear HO_841001; clear HO851; clear BK817; clear BK827; clear BK835; clear BK840; clear HB; have HO_828001 := n0_; have HO_841001 := n1_; have HO851 := n2_; have HO856 := n3_; have BK817 := n4_; have BK827 := n5_; have BK835 := n6_; have BK840 := n7_; have HB := n8_; clear n0_ n1_ n2_ n3_ n4_ n5_ n6_ n7_ n8_; (try clear hb); (try clear hb2); (try clear hk); (try clear hi); (try clear ho0)))
                        go_ret
                        exact ⟨by first | rfl | (simp [errW_none, errW_some] <;> rfl) | (simp only [← hji5]; first | rfl | (simp [errW_none, errW_some] <;> rfl)) | (simp [*, errW_none, errW_some] <;> rfl), by repeat (first | (with_reducible first | exact HB.out | apply below_alloc | apply pw_below_drewN | apply below_drew1 | refine below_set ?_ GE817.out | refine below_set ?_ GE827.out | refine below_set ?_ GE835.out | refine below_set ?_ GE840.out) | exact HB.out)⟩
                      · rw [if_neg c126] at H
                        have c126b0 : (t858 == 0) = false := beq_eq_false_iff_ne.mpr c126
                        have c126b1 : (t858 != 0) = true := bne_iff_ne.mpr c126
                        obtain rfl := Option.some.inj H
                        have hnb137 := NB827_817.out
                        have hnc137 := NB817_827.out
                        have hnb138 := NB827_835.out
                        have hnc138 := NB835_827.out
                        have hnb139 := NB827_840.out
                        have hnc139 := NB840_827.out
                        have hcz140_0 : wr.cell? ⟨gb827, 0, none⟩ = some (.int .i64 t823) := (blk_cell BK827.out 0).trans rfl
                        have hcz140_1 : wr.cell? ⟨gb827, 1, none⟩ = some (.slice (some ad834) t824.length co64) := (blk_cell BK827.out 1).trans rfl
                        have hfz140_0 := blk_frozen BK827.out 0
                        have hfz140_1 := blk_frozen BK827.out 1
                        go_wp2_with (first | ((with_reducible refine gate_callee (f := 37) rfl ?_); refine goesL_ (some 109) rfl rfl Try.func37 (by kernel_rfl) rfl #[.agg #[.int .i64 t823, .slice (some ad834) t824.length co64], .int .i64 0, .int .i64 1] rfl (by (try simp only [List.map_toArray, List.map_cons, List.map_nil]); first | done | rfl | (simp only [List.length_drop, List.length_take]; rfl)) ?_; (with_reducible refine (flow_Max.calls k1 t823 _ _ t824 0 1 t849 t852 t853 _ ?side1 ?side2 A122.out).mono ?_); (case side1 => repeat (first | exact (Kd.R_reads' HO_828001.out).2.2 | (with_reducible refine Kd.C_alloc ?_ _) | (with_reducible refine Kd.C_drewN ?_ _) | (with_reducible refine Kd.C_drew ?_))); (case side2 => exact (Kd.R_reads' HO_828001.out).2.1); rintro e w141 ⟨v850, rfl, ho0, hb⟩; refine ⟨_, rfl, ?_⟩; have n0_ := Aside0.mk (Kd.R_below (by (with_reducible repeat (first | apply Kd.R_alloc | apply Kd.R_drewN | apply Kd.R_drew)); exact HO_828001.out) hb); have n1_ := Aside0.mk (Kd.R_below (by (with_reducible repeat (first | apply Kd.R_alloc | apply Kd.R_drewN | apply Kd.R_drew)); exact HO_841001.out) hb); have n2_ := Aside0.mk (Kd.V_lower (Kd.V_mono (ok' := fun k_ => some k_ ≠ (.slice (some ad834) t824.length co64 : Value).ownBlock ∧ some k_ ≠ (u841001 : Value).ownBlock ∧ k_ ≠ gb817 ∧ k_ ≠ gb827 ∧ k_ ≠ gb835 ∧ k_ ≠ gb840) ho0 (fun k_ hk_ => ⟨(Kd.fresh' (Kd.R_lt (by (with_reducible repeat (first | apply Kd.R_alloc | apply Kd.R_drewN | apply Kd.R_drew)); exact HO_828001.out)) k_ hk_), (Kd.fresh' (Kd.R_lt (by (with_reducible repeat (first | apply Kd.R_alloc | apply Kd.R_drewN | apply Kd.R_drew)); exact HO_841001.out)) k_ hk_), (Kd.freshB (g := gb817) (o := .cells #[.int .i64 a0_0, .slice A0_1 l0_1.length c0_1] 24 (0, 0)) (by (with_reducible repeat (first | refine blk_drewN ?_ _ | refine blk_drew ?_ | refine blk_alloc ?_ _)); exact BK817.out) k_ hk_), (Kd.freshB (g := gb827) (o := .cells #[.int .i64 t823, .slice (some ad834) t824.length co64] 24 (0, 0)) (by (with_reducible repeat (first | refine blk_drewN ?_ _ | refine blk_drew ?_ | refine blk_alloc ?_ _)); exact BK827.out) k_ hk_), (Kd.freshB (g := gb835) (o := .cells #[.int .i64 ((rd_T41 t824 t833).f0), .int .i64 ((rd_T41 t824 t833).f1), .int .i64 ((rd_T41 t824 t833).f2)] 41 (0, 0)) (by (with_reducible repeat (first | refine blk_drewN ?_ _ | refine blk_drew ?_ | refine blk_alloc ?_ _)); exact BK835.out) k_ hk_), (Kd.freshB (g := gb840) (o := .cells #[.int .i64 t823, u841001] 24 (0, 0)) (by (with_reducible repeat (first | refine blk_drewN ?_ _ | refine blk_drew ?_ | refine blk_alloc ?_ _)); exact BK840.out) k_ hk_)⟩)) (below_size (by repeat (first | (with_reducible first | exact HB.out | apply below_alloc | apply pw_below_drewN | apply below_drew1 | refine below_set ?_ GE817.out | refine below_set ?_ GE827.out | refine below_set ?_ GE835.out | refine below_set ?_ GE840.out) | exact HB.out)))); have n3_ := Aside0.mk (blk_below (g := gb817) (o := .cells #[.int .i64 a0_0, .slice A0_1 l0_1.length c0_1] 24 (0, 0)) (by (with_reducible repeat (first | refine blk_drewN ?_ _ | refine blk_drew ?_ | refine blk_alloc ?_ _)); exact BK817.out) hb); have n4_ := Aside0.mk (blk_below (g := gb827) (o := .cells #[.int .i64 t823, .slice (some ad834) t824.length co64] 24 (0, 0)) (by (with_reducible repeat (first | refine blk_drewN ?_ _ | refine blk_drew ?_ | refine blk_alloc ?_ _)); exact BK827.out) hb); have n5_ := Aside0.mk (blk_below (g := gb835) (o := .cells #[.int .i64 ((rd_T41 t824 t833).f0), .int .i64 ((rd_T41 t824 t833).f1), .int .i64 ((rd_T41 t824 t833).f2)] 41 (0, 0)) (by (with_reducible repeat (first | refine blk_drewN ?_ _ | refine blk_drew ?_ | refine blk_alloc ?_ _)); exact BK835.out) hb); have n6_ := Aside0.mk (blk_below (g := gb840) (o := .cells #[.int .i64 t823, u841001] 24 (0, 0)) (by (with_reducible repeat (first | refine blk_drewN ?_ _ | refine blk_drew ?_ | refine blk_alloc ?_ _)); exact BK840.out) hb); have n7_ := Aside0.mk (below_step (by repeat (first | (with_reducible first | exact HB.out | apply below_alloc | apply pw_below_drewN | apply below_drew1 | refine below_set ?_ GE817.out | refine below_set ?_ GE827.out | refine below_set ?_ GE835.out | refine below_set ?_ GE840.out) | exact HB.out)) hb); clear HO_828001; clear HO_841001; clear BK817; clear BK827; clear BK835; clear BK840; clear HB; have HO_828001 := n0_; have HO_841001 := n1_; have HO851 := n2_; have BK817 := n3_; have BK827 := n4_; have BK835 := n5_; have BK840 := n6_; have HB := n7_; clear n0_ n1_ n2_ n3_ n4_ n5_ n6_ n7_; (try clear hb); (try clear hb2); (try clear hk); (try clear hi); (try clear ho0); have hnb142 := NB840_817.out; have hnc142 := NB817_840.out; have hnb143 := NB840_835.out; have hnc143 := NB835_840.out; have hcz144_0 : w141.cell? ⟨gb840, 0, none⟩ = some (.int .i64 t823) := (blk_cell BK840.out 0).trans rfl; have hcz144_1 : w141.cell? ⟨gb840, 1, none⟩ = some (u841001) := (blk_cell BK840.out 1).trans rfl; have hfz144_0 := blk_frozen BK840.out 0; have hfz144_1 := blk_frozen BK840.out 1; obtain ⟨Ao145, co145, eo145⟩ := Kd.R_slice HO_841001.out; subst eo145) | ((with_reducible refine gate_callee (f := 37) rfl ?_); refine goesL_ (some 115) rfl rfl Try.func37 (by kernel_rfl) rfl #[.agg #[.int .i64 t823, .slice Ao145 x841001_1.length co145], .int .i64 0, .int .i64 1] rfl (by (try simp only [List.map_toArray, List.map_cons, List.map_nil]); first | done | rfl | (simp only [List.length_drop, List.length_take]; rfl)) ?_; (with_reducible refine (flow_Max.calls k1 t823 _ _ x841001_1 0 1 t854 t857 t858 _ ?side1 ?side2 A123.out).mono ?_); (case side1 => repeat (first | exact (Kd.R_reads' HO_841001.out).2.2 | (with_reducible refine Kd.C_alloc ?_ _) | (with_reducible refine Kd.C_drewN ?_ _) | (with_reducible refine Kd.C_drew ?_))); (case side2 => exact (Kd.R_reads' HO_841001.out).2.1); rintro e w146 ⟨v855, rfl, ho0, hb⟩; refine ⟨_, rfl, ?_⟩; have n0_ := Aside0.mk (Kd.R_below (by (with_reducible repeat (first | apply Kd.R_alloc | apply Kd.R_drewN | apply Kd.R_drew)); exact HO_828001.out) hb); have n1_ := Aside0.mk (Kd.R_below (by (with_reducible repeat (first | apply Kd.R_alloc | apply Kd.R_drewN | apply Kd.R_drew)); exact HO_841001.out) hb); have n2_ := Aside0.mk (Kd.V_below (by (with_reducible repeat (first | apply Kd.V_alloc | apply Kd.V_drewN | apply Kd.V_drew)); exact HO851.out) hb); have n3_ := Aside0.mk (Kd.V_lower (Kd.V_mono (ok' := fun k_ => some k_ ≠ (.slice (some ad834) t824.length co64 : Value).ownBlock ∧ some k_ ≠ (.slice Ao145 x841001_1.length co145 : Value).ownBlock ∧ k_ ≠ gb817 ∧ k_ ≠ gb827 ∧ k_ ≠ gb835 ∧ k_ ≠ gb840) ho0 (fun k_ hk_ => ⟨(Kd.fresh' (Kd.R_lt (by (with_reducible repeat (first | apply Kd.R_alloc | apply Kd.R_drewN | apply Kd.R_drew)); exact HO_828001.out)) k_ hk_), (Kd.fresh' (Kd.R_lt (by (with_reducible repeat (first | apply Kd.R_alloc | apply Kd.R_drewN | apply Kd.R_drew)); exact HO_841001.out)) k_ hk_), (Kd.freshB (g := gb817) (o := .cells #[.int .i64 a0_0, .slice A0_1 l0_1.length c0_1] 24 (0, 0)) (by (with_reducible repeat (first | refine blk_drewN ?_ _ | refine blk_drew ?_ | refine blk_alloc ?_ _)); exact BK817.out) k_ hk_), (Kd.freshB (g := gb827) (o := .cells #[.int .i64 t823, .slice (some ad834) t824.length co64] 24 (0, 0)) (by (with_reducible repeat (first | refine blk_drewN ?_ _ | refine blk_drew ?_ | refine blk_alloc ?_ _)); exact BK827.out) k_ hk_), (Kd.freshB (g := gb835) (o := .cells #[.int .i64 ((rd_T41 t824 t833).f0), .int .i64 ((rd_T41 t824 t833).f1), .int .i64 ((rd_T41 t824 t833).f2)] 41 (0, 0)) (by (with_reducible repeat (first | refine blk_drewN ?_ _ | refine blk_drew ?_ | refine blk_alloc ?_ _)); exact BK835.out) k_ hk_), (Kd.freshB (g := gb840) (o := .cells #[.int .i64 t823, .slice Ao145 x841001_1.length co145] 24 (0, 0)) (by (with_reducible repeat (first | refine blk_drewN ?_ _ | refine blk_drew ?_ | refine blk_alloc ?_ _)); exact BK840.out) k_ hk_)⟩)) (below_size (by repeat (first | (with_reducible first | exact HB.out | apply below_alloc | apply pw_below_drewN | apply below_drew1 | refine below_set ?_ GE817.out | refine below_set ?_ GE827.out | refine below_set ?_ GE835.out | refine below_set ?_ GE840.out) | exact HB.out)))); have n4_ := Aside0.mk (blk_below (g := gb817) (o := .cells #[.int .i64 a0_0, .slice A0_1 l0_1.length c0_1] 24 (0, 0)) (by (with_reducible repeat (first | refine blk_drewN ?_ _ | refine blk_drew ?_ | refine blk_alloc ?_ _)); exact BK817.out) hb); have n5_ := Aside0.mk (blk_below (g := gb827) (o := .cells #[.int .i64 t823, .slice (some ad834) t824.length co64] 24 (0, 0)) (by (with_reducible repeat (first | refine blk_drewN ?_ _ | refine blk_drew ?_ | refine blk_alloc ?_ _)); exact BK827.out) hb); have n6_ := Aside0.mk (blk_below (g := gb835) (o := .cells #[.int .i64 ((rd_T41 t824 t833).f0), .int .i64 ((rd_T41 t824 t833).f1), .int .i64 ((rd_T41 t824 t833).f2)] 41 (0, 0)) (by (with_reducible repeat (first | refine blk_drewN ?_ _ | refine blk_drew ?_ | refine blk_alloc ?_ _)); exact BK835.out) hb); have n7_ := Aside0.mk (blk_below (g := gb840) (o := .cells #[.int .i64 t823, .slice Ao145 x841001_1.length co145] 24 (0, 0)) (by (with_reducible repeat (first | refine blk_drewN ?_ _ | refine blk_drew ?_ | refine blk_alloc ?_ _)); exact BK840.out) hb); have n8_ := Aside0.mk (below_step (by repeat (first | (with_reducible first | exact HB.out | apply below_alloc | apply pw_below_drewN | apply below_drew1 | refine below_set ?_ GE817.out | refine below_set ?_ GE827.out | refine below_set ?_ GE835.out | refine below_set ?_ GE840.out) | exact HB.out)) hb); clear HO_828001; clear HO_841001; clear HO851; clear BK817; clear BK827; clear BK835; clear BK840; clear HB; have HO_828001 := n0_; have HO_841001 := n1_; have HO851 := n2_; have HO856 := n3_; have BK817 := n4_; have BK827 := n5_; have BK835 := n6_; have BK840 := n7_; have HB := n8_; clear n0_ n1_ n2_ n3_ n4_ n5_ n6_ n7_ n8_; (try clear hb); (try clear hb2); (try clear hk); (try clear hi); (try clear ho0)))
                        go_ret
                        exact ⟨by first | rfl | (simp [errW_none, errW_some] <;> rfl) | (simp only [← hji5]; first | rfl | (simp [errW_none, errW_some] <;> rfl)) | (simp [*, errW_none, errW_some] <;> rfl), by repeat (first | (with_reducible first | exact HB.out | apply below_alloc | apply pw_below_drewN | apply below_drew1 | refine below_set ?_ GE817.out | refine below_set ?_ GE827.out | refine below_set ?_ GE835.out | refine below_set ?_ GE840.out) | exact HB.out)⟩
                    · rw [if_neg c125] at H
                      have c125b0 : (t853 == 0) = false := beq_eq_false_iff_ne.mpr c125
                      have c125b1 : (t853 != 0) = true := bne_iff_ne.mpr c125
                      obtain rfl := Option.some.inj H
                      have hnb147 := NB827_817.out
                      have hnc147 := NB817_827.out
                      have hnb148 := NB827_835.out
                      have hnc148 := NB835_827.out
                      have hnb149 := NB827_840.out
                      have hnc149 := NB840_827.out
                      have hcz150_0 : wr.cell? ⟨gb827, 0, none⟩ = some (.int .i64 t823) := (blk_cell BK827.out 0).trans rfl
                      have hcz150_1 : wr.cell? ⟨gb827, 1, none⟩ = some (.slice (some ad834) t824.length co64) := (blk_cell BK827.out 1).trans rfl
                      have hfz150_0 := blk_frozen BK827.out 0
                      have hfz150_1 := blk_frozen BK827.out 1
                      go_wp2_with (first | ((with_reducible refine gate_callee (f := 37) rfl ?_); refine goesL_ (some 109) rfl rfl Try.func37 (by kernel_rfl) rfl #[.agg #[.int .i64 t823, .slice (some ad834) t824.length co64], .int .i64 0, .int .i64 1] rfl (by (try simp only [List.map_toArray, List.map_cons, List.map_nil]); first | done | rfl | (simp only [List.length_drop, List.length_take]; rfl)) ?_; (with_reducible refine (flow_Max.calls k1 t823 _ _ t824 0 1 t849 t852 t853 _ ?side1 ?side2 A122.out).mono ?_); (case side1 => repeat (first | exact (Kd.R_reads' HO_828001.out).2.2 | (with_reducible refine Kd.C_alloc ?_ _) | (with_reducible refine Kd.C_drewN ?_ _) | (with_reducible refine Kd.C_drew ?_))); (case side2 => exact (Kd.R_reads' HO_828001.out).2.1); rintro e w151 ⟨v850, rfl, ho0, hb⟩; refine ⟨_, rfl, ?_⟩; have n0_ := Aside0.mk (Kd.R_below (by (with_reducible repeat (first | apply Kd.R_alloc | apply Kd.R_drewN | apply Kd.R_drew)); exact HO_828001.out) hb); have n1_ := Aside0.mk (Kd.R_below (by (with_reducible repeat (first | apply Kd.R_alloc | apply Kd.R_drewN | apply Kd.R_drew)); exact HO_841001.out) hb); have n2_ := Aside0.mk (Kd.V_lower (Kd.V_mono (ok' := fun k_ => some k_ ≠ (.slice (some ad834) t824.length co64 : Value).ownBlock ∧ some k_ ≠ (u841001 : Value).ownBlock ∧ k_ ≠ gb817 ∧ k_ ≠ gb827 ∧ k_ ≠ gb835 ∧ k_ ≠ gb840) ho0 (fun k_ hk_ => ⟨(Kd.fresh' (Kd.R_lt (by (with_reducible repeat (first | apply Kd.R_alloc | apply Kd.R_drewN | apply Kd.R_drew)); exact HO_828001.out)) k_ hk_), (Kd.fresh' (Kd.R_lt (by (with_reducible repeat (first | apply Kd.R_alloc | apply Kd.R_drewN | apply Kd.R_drew)); exact HO_841001.out)) k_ hk_), (Kd.freshB (g := gb817) (o := .cells #[.int .i64 a0_0, .slice A0_1 l0_1.length c0_1] 24 (0, 0)) (by (with_reducible repeat (first | refine blk_drewN ?_ _ | refine blk_drew ?_ | refine blk_alloc ?_ _)); exact BK817.out) k_ hk_), (Kd.freshB (g := gb827) (o := .cells #[.int .i64 t823, .slice (some ad834) t824.length co64] 24 (0, 0)) (by (with_reducible repeat (first | refine blk_drewN ?_ _ | refine blk_drew ?_ | refine blk_alloc ?_ _)); exact BK827.out) k_ hk_), (Kd.freshB (g := gb835) (o := .cells #[.int .i64 ((rd_T41 t824 t833).f0), .int .i64 ((rd_T41 t824 t833).f1), .int .i64 ((rd_T41 t824 t833).f2)] 41 (0, 0)) (by (with_reducible repeat (first | refine blk_drewN ?_ _ | refine blk_drew ?_ | refine blk_alloc ?_ _)); exact BK835.out) k_ hk_), (Kd.freshB (g := gb840) (o := .cells #[.int .i64 t823, u841001] 24 (0, 0)) (by (with_reducible repeat (first | refine blk_drewN ?_ _ | refine blk_drew ?_ | refine blk_alloc ?_ _)); exact BK840.out) k_ hk_)⟩)) (below_size (by repeat (first | (with_reducible first | exact HB.out | apply below_alloc | apply pw_below_drewN | apply below_drew1 | refine below_set ?_ GE817.out | refine below_set ?_ GE827.out | refine below_set ?_ GE835.out | refine below_set ?_ GE840.out) | exact HB.out)))); have n3_ := Aside0.mk (blk_below (g := gb817) (o := .cells #[.int .i64 a0_0, .slice A0_1 l0_1.length c0_1] 24 (0, 0)) (by (with_reducible repeat (first | refine blk_drewN ?_ _ | refine blk_drew ?_ | refine blk_alloc ?_ _)); exact BK817.out) hb); have n4_ := Aside0.mk (blk_below (g := gb827) (o := .cells #[.int .i64 t823, .slice (some ad834) t824.length co64] 24 (0, 0)) (by (with_reducible repeat (first | refine blk_drewN ?_ _ | refine blk_drew ?_ | refine blk_alloc ?_ _)); exact BK827.out) hb); have n5_ := Aside0.mk (blk_below (g := gb835) (o := .cells #[.int .i64 ((rd_T41 t824 t833).f0), .int .i64 ((rd_T41 t824 t833).f1), .int .i64 ((rd_T41 t824 t833).f2)] 41 (0, 0)) (by (with_reducible repeat (first | refine blk_drewN ?_ _ | refine blk_drew ?_ | refine blk_alloc ?_ _)); exact BK835.out) hb); have n6_ := Aside0.mk (blk_below (g := gb840) (o := .cells #[.int .i64 t823, u841001] 24 (0, 0)) (by (with_reducible repeat (first | refine blk_drewN ?_ _ | refine blk_drew ?_ | refine blk_alloc ?_ _)); exact BK840.out) hb); have n7_ := Aside0.mk (below_step (by repeat (first | (with_reducible first | exact HB.out | apply below_alloc | apply pw_below_drewN | apply below_drew1 | refine below_set ?_ GE817.out | refine below_set ?_ GE827.out | refine below_set ?_ GE835.out | refine below_set ?_ GE840.out) | exact HB.out)) hb); clear HO_828001; clear HO_841001; clear BK817; clear BK827; clear BK835; clear BK840; clear HB; have HO_828001 := n0_; have HO_841001 := n1_; have HO851 := n2_; have BK817 := n3_; have BK827 := n4_; have BK835 := n5_; have BK840 := n6_; have HB := n7_; clear n0_ n1_ n2_ n3_ n4_ n5_ n6_ n7_; (try clear hb); (try clear hb2); (try clear hk); (try clear hi); (try clear ho0); have hnb152 := NB840_817.out; have hnc152 := NB817_840.out; have hnb153 := NB840_835.out; have hnc153 := NB835_840.out; have hcz154_0 : w151.cell? ⟨gb840, 0, none⟩ = some (.int .i64 t823) := (blk_cell BK840.out 0).trans rfl; have hcz154_1 : w151.cell? ⟨gb840, 1, none⟩ = some (u841001) := (blk_cell BK840.out 1).trans rfl; have hfz154_0 := blk_frozen BK840.out 0; have hfz154_1 := blk_frozen BK840.out 1; obtain ⟨Ao155, co155, eo155⟩ := Kd.R_slice HO_841001.out; subst eo155) | ((with_reducible refine gate_callee (f := 37) rfl ?_); refine goesL_ (some 115) rfl rfl Try.func37 (by kernel_rfl) rfl #[.agg #[.int .i64 t823, .slice Ao155 x841001_1.length co155], .int .i64 0, .int .i64 1] rfl (by (try simp only [List.map_toArray, List.map_cons, List.map_nil]); first | done | rfl | (simp only [List.length_drop, List.length_take]; rfl)) ?_; (with_reducible refine (flow_Max.calls k1 t823 _ _ x841001_1 0 1 t854 t857 t858 _ ?side1 ?side2 A123.out).mono ?_); (case side1 => repeat (first | exact (Kd.R_reads' HO_841001.out).2.2 | (with_reducible refine Kd.C_alloc ?_ _) | (with_reducible refine Kd.C_drewN ?_ _) | (with_reducible refine Kd.C_drew ?_))); (case side2 => exact (Kd.R_reads' HO_841001.out).2.1); rintro e w156 ⟨v855, rfl, ho0, hb⟩; refine ⟨_, rfl, ?_⟩; have n0_ := Aside0.mk (Kd.R_below (by (with_reducible repeat (first | apply Kd.R_alloc | apply Kd.R_drewN | apply Kd.R_drew)); exact HO_828001.out) hb); have n1_ := Aside0.mk (Kd.R_below (by (with_reducible repeat (first | apply Kd.R_alloc | apply Kd.R_drewN | apply Kd.R_drew)); exact HO_841001.out) hb); have n2_ := Aside0.mk (Kd.V_below (by (with_reducible repeat (first | apply Kd.V_alloc | apply Kd.V_drewN | apply Kd.V_drew)); exact HO851.out) hb); have n3_ := Aside0.mk (Kd.V_lower (Kd.V_mono (ok' := fun k_ => some k_ ≠ (.slice (some ad834) t824.length co64 : Value).ownBlock ∧ some k_ ≠ (.slice Ao155 x841001_1.length co155 : Value).ownBlock ∧ k_ ≠ gb817 ∧ k_ ≠ gb827 ∧ k_ ≠ gb835 ∧ k_ ≠ gb840) ho0 (fun k_ hk_ => ⟨(Kd.fresh' (Kd.R_lt (by (with_reducible repeat (first | apply Kd.R_alloc | apply Kd.R_drewN | apply Kd.R_drew)); exact HO_828001.out)) k_ hk_), (Kd.fresh' (Kd.R_lt (by (with_reducible repeat (first | apply Kd.R_alloc | apply Kd.R_drewN | apply Kd.R_drew)); exact HO_841001.out)) k_ hk_), (Kd.freshB (g := gb817) (o := .cells #[.int .i64 a0_0, .slice A0_1 l0_1.length c0_1] 24 (0, 0)) (by (with_reducible repeat (first | refine blk_drewN ?_ _ | refine blk_drew ?_ | refine blk_alloc ?_ _)); exact BK817.out) k_ hk_), (Kd.freshB (g := gb827) (o := .cells #[.int .i64 t823, .slice (some ad834) t824.length co64] 24 (0, 0)) (by (with_reducible repeat (first | refine blk_drewN ?_ _ | refine blk_drew ?_ | refine blk_alloc ?_ _)); exact BK827.out) k_ hk_), (Kd.freshB (g := gb835) (o := .cells #[.int .i64 ((rd_T41 t824 t833).f0), .int .i64 ((rd_T41 t824 t833).f1), .int .i64 ((rd_T41 t824 t833).f2)] 41 (0, 0)) (by (with_reducible repeat (first | refine blk_drewN ?_ _ | refine blk_drew ?_ | refine blk_alloc ?_ _)); exact BK835.out) k_ hk_), (Kd.freshB (g := gb840) (o := .cells #[.int .i64 t823, .slice Ao155 x841001_1.length co155] 24 (0, 0)) (by (with_reducible repeat (first | refine blk_drewN ?_ _ | refine blk_drew ?_ | refine blk_alloc ?_ _)); exact BK840.out) k_ hk_)⟩)) (below_size (by repeat (first | (with_reducible first | exact HB.out | apply below_alloc | apply pw_below_drewN | apply below_drew1 | refine below_set ?_ GE817.out | refine below_set ?_ GE827.out | refine below_set ?_ GE835.out | refine below_set ?_ GE840.out) | exact HB.out)))); have n4_ := Aside0.mk (blk_below (g := gb817) (o := .cells #[.int .i64 a0_0, .slice A0_1 l0_1.length c0_1] 24 (0, 0)) (by (with_reducible repeat (first | refine blk_drewN ?_ _ | refine blk_drew ?_ | refine blk_alloc ?_ _)); exact BK817.out) hb); have n5_ := Aside0.mk (blk_below (g := gb827) (o := .cells #[.int .i64 t823, .slice (some ad834) t824.length co64] 24 (0, 0)) (by (with_reducible repeat (first | refine blk_drewN ?_ _ | refine blk_drew ?_ | refine blk_alloc ?_ _)); exact BK827.out) hb); have n6_ := Aside0.mk (blk_below (g := gb835) (o := .cells #[.int .i64 ((rd_T41 t824 t833).f0), .int .i64 ((rd_T41 t824 t833).f1), .int .i64 ((rd_T41 t824 t833).f2)] 41 (0, 0)) (by (with_reducible repeat (first | refine blk_drewN ?_ _ | refine blk_drew ?_ | refine blk_alloc ?_ _)); exact BK835.out) hb); have n7_ := Aside0.mk (blk_below (g := gb840) (o := .cells #[.int .i64 t823, .slice Ao155 x841001_1.length co155] 24 (0, 0)) (by (with_reducible repeat (first | refine blk_drewN ?_ _ | refine blk_drew ?_ | refine blk_alloc ?_ _)); exact BK840.out) hb); have n8_ := Aside0.mk (below_step (by repeat (first | (with_reducible first | exact HB.out | apply below_alloc | apply pw_below_drewN | apply below_drew1 | refine below_set ?_ GE817.out | refine below_set ?_ GE827.out | refine below_set ?_ GE835.out | refine below_set ?_ GE840.out) | exact HB.out)) hb); clear HO_828001; clear HO_841001; clear HO851; clear BK817; clear BK827; clear BK835; clear BK840; clear HB; have HO_828001 := n0_; have HO_841001 := n1_; have HO851 := n2_; have HO856 := n3_; have BK817 := n4_; have BK827 := n5_; have BK835 := n6_; have BK840 := n7_; have HB := n8_; clear n0_ n1_ n2_ n3_ n4_ n5_ n6_ n7_ n8_; (try clear hb); (try clear hb2); (try clear hk); (try clear hi); (try clear ho0)))
                      go_ret
                      exact ⟨by first | rfl | (simp [errW_none, errW_some] <;> rfl) | (simp only [← hji5]; first | rfl | (simp [errW_none, errW_some] <;> rfl)) | (simp [*, errW_none, errW_some] <;> rfl), by repeat (first | (with_reducible first | exact HB.out | apply below_alloc | apply pw_below_drewN | apply below_drew1 | refine below_set ?_ GE817.out | refine below_set ?_ GE827.out | refine below_set ?_ GE835.out | refine below_set ?_ GE840.out) | exact HB.out)⟩
                  · replace c124 := Bool.eq_false_iff.mpr c124
                    subst c124
                    have H1 : (some false) = some r := by rw [if_neg (show ¬ (false = true) by decide)] at H; exact H
                    clear H
                    have H := H1
                    clear H1
                    obtain rfl := Option.some.inj H
                    have hnb157 := NB827_817.out
                    have hnc157 := NB817_827.out
                    have hnb158 := NB827_835.out
                    have hnc158 := NB835_827.out
                    have hnb159 := NB827_840.out
                    have hnc159 := NB840_827.out
                    have hcz160_0 : wr.cell? ⟨gb827, 0, none⟩ = some (.int .i64 t823) := (blk_cell BK827.out 0).trans rfl
                    have hcz160_1 : wr.cell? ⟨gb827, 1, none⟩ = some (.slice (some ad834) t824.length co64) := (blk_cell BK827.out 1).trans rfl
                    have hfz160_0 := blk_frozen BK827.out 0
                    have hfz160_1 := blk_frozen BK827.out 1
                    go_wp2_with (first | ((with_reducible refine gate_callee (f := 37) rfl ?_); refine goesL_ (some 109) rfl rfl Try.func37 (by kernel_rfl) rfl #[.agg #[.int .i64 t823, .slice (some ad834) t824.length co64], .int .i64 0, .int .i64 1] rfl (by (try simp only [List.map_toArray, List.map_cons, List.map_nil]); first | done | rfl | (simp only [List.length_drop, List.length_take]; rfl)) ?_; (with_reducible refine (flow_Max.calls k1 t823 _ _ t824 0 1 t849 t852 t853 _ ?side1 ?side2 A122.out).mono ?_); (case side1 => repeat (first | exact (Kd.R_reads' HO_828001.out).2.2 | (with_reducible refine Kd.C_alloc ?_ _) | (with_reducible refine Kd.C_drewN ?_ _) | (with_reducible refine Kd.C_drew ?_))); (case side2 => exact (Kd.R_reads' HO_828001.out).2.1); rintro e w161 ⟨v850, rfl, ho0, hb⟩; refine ⟨_, rfl, ?_⟩; have n0_ := Aside0.mk (Kd.R_below (by (with_reducible repeat (first | apply Kd.R_alloc | apply Kd.R_drewN | apply Kd.R_drew)); exact HO_828001.out) hb); have n1_ := Aside0.mk (Kd.R_below (by (with_reducible repeat (first | apply Kd.R_alloc | apply Kd.R_drewN | apply Kd.R_drew)); exact HO_841001.out) hb); have n2_ := Aside0.mk (Kd.V_lower (Kd.V_mono (ok' := fun k_ => some k_ ≠ (.slice (some ad834) t824.length co64 : Value).ownBlock ∧ some k_ ≠ (u841001 : Value).ownBlock ∧ k_ ≠ gb817 ∧ k_ ≠ gb827 ∧ k_ ≠ gb835 ∧ k_ ≠ gb840) ho0 (fun k_ hk_ => ⟨(Kd.fresh' (Kd.R_lt (by (with_reducible repeat (first | apply Kd.R_alloc | apply Kd.R_drewN | apply Kd.R_drew)); exact HO_828001.out)) k_ hk_), (Kd.fresh' (Kd.R_lt (by (with_reducible repeat (first | apply Kd.R_alloc | apply Kd.R_drewN | apply Kd.R_drew)); exact HO_841001.out)) k_ hk_), (Kd.freshB (g := gb817) (o := .cells #[.int .i64 a0_0, .slice A0_1 l0_1.length c0_1] 24 (0, 0)) (by (with_reducible repeat (first | refine blk_drewN ?_ _ | refine blk_drew ?_ | refine blk_alloc ?_ _)); exact BK817.out) k_ hk_), (Kd.freshB (g := gb827) (o := .cells #[.int .i64 t823, .slice (some ad834) t824.length co64] 24 (0, 0)) (by (with_reducible repeat (first | refine blk_drewN ?_ _ | refine blk_drew ?_ | refine blk_alloc ?_ _)); exact BK827.out) k_ hk_), (Kd.freshB (g := gb835) (o := .cells #[.int .i64 ((rd_T41 t824 t833).f0), .int .i64 ((rd_T41 t824 t833).f1), .int .i64 ((rd_T41 t824 t833).f2)] 41 (0, 0)) (by (with_reducible repeat (first | refine blk_drewN ?_ _ | refine blk_drew ?_ | refine blk_alloc ?_ _)); exact BK835.out) k_ hk_), (Kd.freshB (g := gb840) (o := .cells #[.int .i64 t823, u841001] 24 (0, 0)) (by (with_reducible repeat (first | refine blk_drewN ?_ _ | refine blk_drew ?_ | refine blk_alloc ?_ _)); exact BK840.out) k_ hk_)⟩)) (below_size (by repeat (first | (with_reducible first | exact HB.out | apply below_alloc | apply pw_below_drewN | apply below_drew1 | refine below_set ?_ GE817.out | refine below_set ?_ GE827.out | refine below_set ?_ GE835.out | refine below_set ?_ GE840.out) | exact HB.out)))); have n3_ := Aside0.mk (blk_below (g := gb817) (o := .cells #[.int .i64 a0_0, .slice A0_1 l0_1.length c0_1] 24 (0, 0)) (by (with_reducible repeat (first | refine blk_drewN ?_ _ | refine blk_drew ?_ | refine blk_alloc ?_ _)); exact BK817.out) hb); have n4_ := Aside0.mk (blk_below (g := gb827) (o := .cells #[.int .i64 t823, .slice (some ad834) t824.length co64] 24 (0, 0)) (by (with_reducible repeat (first | refine blk_drewN ?_ _ | refine blk_drew ?_ | refine blk_alloc ?_ _)); exact BK827.out) hb); have n5_ := Aside0.mk (blk_below (g := gb835) (o := .cells #[.int .i64 ((rd_T41 t824 t833).f0), .int .i64 ((rd_T41 t824 t833).f1), .int .i64 ((rd_T41 t824 t833).f2)] 41 (0, 0)) (by (with_reducible repeat (first | refine blk_drewN ?_ _ | refine blk_drew ?_ | refine blk_alloc ?_ _)); exact BK835.out) hb); have n6_ := Aside0.mk (blk_below (g := gb840) (o := .cells #[.int .i64 t823, u841001] 24 (0, 0)) (by (with_reducible repeat (first | refine blk_drewN ?_ _ | refine blk_drew ?_ | refine blk_alloc ?_ _)); exact BK840.out) hb); have n7_ := Aside0.mk (below_step (by repeat (first | (with_reducible first | exact HB.out | apply below_alloc | apply pw_below_drewN | apply below_drew1 | refine below_set ?_ GE817.out | refine below_set ?_ GE827.out | refine below_set ?_ GE835.out | refine below_set ?_ GE840.out) | exact HB.out)) hb); clear HO_828001; clear HO_841001; clear BK817; clear BK827; clear BK835; clear BK840; clear HB; have HO_828001 := n0_; have HO_841001 := n1_; have HO851 := n2_; have BK817 := n3_; have BK827 := n4_; have BK835 := n5_; have BK840 := n6_; have HB := n7_; clear n0_ n1_ n2_ n3_ n4_ n5_ n6_ n7_; (try clear hb); (try clear hb2); (try clear hk); (try clear hi); (try clear ho0); have hnb162 := NB840_817.out; have hnc162 := NB817_840.out; have hnb163 := NB840_835.out; have hnc163 := NB835_840.out; have hcz164_0 : w161.cell? ⟨gb840, 0, none⟩ = some (.int .i64 t823) := (blk_cell BK840.out 0).trans rfl; have hcz164_1 : w161.cell? ⟨gb840, 1, none⟩ = some (u841001) := (blk_cell BK840.out 1).trans rfl; have hfz164_0 := blk_frozen BK840.out 0; have hfz164_1 := blk_frozen BK840.out 1; obtain ⟨Ao165, co165, eo165⟩ := Kd.R_slice HO_841001.out; subst eo165) | ((with_reducible refine gate_callee (f := 37) rfl ?_); refine goesL_ (some 115) rfl rfl Try.func37 (by kernel_rfl) rfl #[.agg #[.int .i64 t823, .slice Ao165 x841001_1.length co165], .int .i64 0, .int .i64 1] rfl (by (try simp only [List.map_toArray, List.map_cons, List.map_nil]); first | done | rfl | (simp only [List.length_drop, List.length_take]; rfl)) ?_; (with_reducible refine (flow_Max.calls k1 t823 _ _ x841001_1 0 1 t854 t857 t858 _ ?side1 ?side2 A123.out).mono ?_); (case side1 => repeat (first | exact (Kd.R_reads' HO_841001.out).2.2 | (with_reducible refine Kd.C_alloc ?_ _) | (with_reducible refine Kd.C_drewN ?_ _) | (with_reducible refine Kd.C_drew ?_))); (case side2 => exact (Kd.R_reads' HO_841001.out).2.1); rintro e w166 ⟨v855, rfl, ho0, hb⟩; refine ⟨_, rfl, ?_⟩; have n0_ := Aside0.mk (Kd.R_below (by (with_reducible repeat (first | apply Kd.R_alloc | apply Kd.R_drewN | apply Kd.R_drew)); exact HO_828001.out) hb); have n1_ := Aside0.mk (Kd.R_below (by (with_reducible repeat (first | apply Kd.R_alloc | apply Kd.R_drewN | apply Kd.R_drew)); exact HO_841001.out) hb); have n2_ := Aside0.mk (Kd.V_below (by (with_reducible repeat (first | apply Kd.V_alloc | apply Kd.V_drewN | apply Kd.V_drew)); exact HO851.out) hb); have n3_ := Aside0.mk (Kd.V_lower (Kd.V_mono (ok' := fun k_ => some k_ ≠ (.slice (some ad834) t824.length co64 : Value).ownBlock ∧ some k_ ≠ (.slice Ao165 x841001_1.length co165 : Value).ownBlock ∧ k_ ≠ gb817 ∧ k_ ≠ gb827 ∧ k_ ≠ gb835 ∧ k_ ≠ gb840) ho0 (fun k_ hk_ => ⟨(Kd.fresh' (Kd.R_lt (by (with_reducible repeat (first | apply Kd.R_alloc | apply Kd.R_drewN | apply Kd.R_drew)); exact HO_828001.out)) k_ hk_), (Kd.fresh' (Kd.R_lt (by (with_reducible repeat (first | apply Kd.R_alloc | apply Kd.R_drewN | apply Kd.R_drew)); exact HO_841001.out)) k_ hk_), (Kd.freshB (g := gb817) (o := .cells #[.int .i64 a0_0, .slice A0_1 l0_1.length c0_1] 24 (0, 0)) (by (with_reducible repeat (first | refine blk_drewN ?_ _ | refine blk_drew ?_ | refine blk_alloc ?_ _)); exact BK817.out) k_ hk_), (Kd.freshB (g := gb827) (o := .cells #[.int .i64 t823, .slice (some ad834) t824.length co64] 24 (0, 0)) (by (with_reducible repeat (first | refine blk_drewN ?_ _ | refine blk_drew ?_ | refine blk_alloc ?_ _)); exact BK827.out) k_ hk_), (Kd.freshB (g := gb835) (o := .cells #[.int .i64 ((rd_T41 t824 t833).f0), .int .i64 ((rd_T41 t824 t833).f1), .int .i64 ((rd_T41 t824 t833).f2)] 41 (0, 0)) (by (with_reducible repeat (first | refine blk_drewN ?_ _ | refine blk_drew ?_ | refine blk_alloc ?_ _)); exact BK835.out) k_ hk_), (Kd.freshB (g := gb840) (o := .cells #[.int .i64 t823, .slice Ao165 x841001_1.length co165] 24 (0, 0)) (by (with_reducible repeat (first | refine blk_drewN ?_ _ | refine blk_drew ?_ | refine blk_alloc ?_ _)); exact BK840.out) k_ hk_)⟩)) (below_size (by repeat (first | (with_reducible first | exact HB.out | apply below_alloc | apply pw_below_drewN | apply below_drew1 | refine below_set ?_ GE817.out | refine below_set ?_ GE827.out | refine below_set ?_ GE835.out | refine below_set ?_ GE840.out) | exact HB.out)))); have n4_ := Aside0.mk (blk_below (g := gb817) (o := .cells #[.int .i64 a0_0, .slice A0_1 l0_1.length c0_1] 24 (0, 0)) (by (with_reducible repeat (first | refine blk_drewN ?_ _ | refine blk_drew ?_ | refine blk_alloc ?_ _)); exact BK817.out) hb); have n5_ := Aside0.mk (blk_below (g := gb827) (o := .cells #[.int .i64 t823, .slice (some ad834) t824.length co64] 24 (0, 0)) (by (with_reducible repeat (first | refine blk_drewN ?_ _ | refine blk_drew ?_ | refine blk_alloc ?_ _)); exact BK827.out) hb); have n6_ := Aside0.mk (blk_below (g := gb835) (o := .cells #[.int .i64 ((rd_T41 t824 t833).f0), .int .i64 ((rd_T41 t824 t833).f1), .int .i64 ((rd_T41 t824 t833).f2)] 41 (0, 0)) (by (with_reducible repeat (first | refine blk_drewN ?_ _ | refine blk_drew ?_ | refine blk_alloc ?_ _)); exact BK835.out) hb); have n7_ := Aside0.mk (blk_below (g := gb840) (o := .cells #[.int .i64 t823, .slice Ao165 x841001_1.length co165] 24 (0, 0)) (by (with_reducible repeat (first | refine blk_drewN ?_ _ | refine blk_drew ?_ | refine blk_alloc ?_ _)); exact BK840.out) hb); have n8_ := Aside0.mk (below_step (by repeat (first | (with_reducible first | exact HB.out | apply below_alloc | apply pw_below_drewN | apply below_drew1 | refine below_set ?_ GE817.out | refine below_set ?_ GE827.out | refine below_set ?_ GE835.out | refine below_set ?_ GE840.out) | exact HB.out)) hb); clear HO_828001; clear HO_841001; clear HO851; clear BK817; clear BK827; clear BK835; clear BK840; clear HB; have HO_828001 := n0_; have HO_841001 := n1_; have HO851 := n2_; have HO856 := n3_; have BK817 := n4_; have BK827 := n5_; have BK835 := n6_; have BK840 := n7_; have HB := n8_; clear n0_ n1_ n2_ n3_ n4_ n5_ n6_ n7_ n8_; (try clear hb); (try clear hb2); (try clear hk); (try clear hi); (try clear ho0)))
                    go_ret
                    exact ⟨by first | rfl | (simp [errW_none, errW_some] <;> rfl) | (simp only [← hji5]; first | rfl | (simp [errW_none, errW_some] <;> rfl)) | (simp [*, errW_none, errW_some] <;> rfl), by repeat (first | (with_reducible first | exact HB.out | apply below_alloc | apply pw_below_drewN | apply below_drew1 | refine below_set ?_ GE817.out | refine below_set ?_ GE827.out | refine below_set ?_ GE835.out | refine below_set ?_ GE840.out) | exact HB.out)⟩
          · rw [if_neg c54] at H
            exact absurd H (by simp)
        · rw [if_neg c53] at H
          exact absurd H (by simp)
    · rw [if_neg c7] at H
      exact absurd H (by simp)
  · rw [if_neg c6] at H
    exact absurd H (by simp)

end Go.Proofs.Ytfmfojogcghkkaa.P
