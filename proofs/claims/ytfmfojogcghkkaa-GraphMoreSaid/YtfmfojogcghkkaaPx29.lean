-- Laid by a program of this session (wip/tools/genx.py) out of the kit's print of the translation.
import Derived.Test.YtfmfojogcghkkaaPx0
import Derived.Lib.Hide
import Derived.Test.YtfmfojogcghkkaaPx4
import Derived.Test.YtfmfojogcghkkaaPx12
import Derived.Test.YtfmfojogcghkkaaPx13
import Derived.Test.YtfmfojogcghkkaaPx21
import Derived.Test.YtfmfojogcghkkaaPx22
namespace Go.Proofs.Ytfmfojogcghkkaa.P
open Go.RowKit Go.Proofs.YtfmfojogcghkkaaW.PrintWords Go.Proofs.YtfmfojogcghkkaaW.PrintLast Go.Proofs.YtfmfojogcghkkaaW.PrintMore
attribute [local go_sem] max2_int min2_int max_two min_two max_three min_three max_four min_four   -- for this text's walks alone
set_option linter.unusedVariables false
set_option linter.unusedSimpArgs false

/-! ### billetlaw05_GraphMore: function 9 -/
/-- What copy leaves. -/
def copG (F : List Int) (n : Nat) : List Int := F.take (min F.length (List.replicate n (0 : Int)).length) ++ (List.replicate n 0).drop (min F.length (List.replicate n (0 : Int)).length)
theorem copG_len (F : List Int) (n : Nat) : (copG F n).length = n := by simp [copG]; omega
/-- Everybody below v. -/
def evL (N : Int) (v : Nat) : List Bool := List.replicate v true ++ List.replicate (N.toNat - v) false
theorem evL_len {N : Int} {v : Nat} (h : (v : Int) ≤ N) : (evL N v).length = N.toNat := by simp [evL]; omega
theorem evL_zero (N : Int) : evL N 0 = List.replicate N.toNat false := by simp [evL]
theorem evL_all {N : Int} {v : Nat} (h : N ≤ v) (h2 : (v : Int) ≤ N) : evL N v = List.replicate N.toNat true := by
  have e : N.toNat = v := by omega
  simp [evL, e]
theorem evL_set {N : Int} {v : Nat} (h : (v : Int) < N) : (evL N v).set v true = evL N (v + 1) := by
  unfold evL
  apply List.ext_getElem
  · simp; omega
  · intro i h1 h2
    rw [List.getElem_set]
    by_cases c : v = i
    · subst c
      rw [if_pos rfl, List.getElem_append_left (by simp)]; simp
    · rw [if_neg c]
      by_cases d : i < v
      · rw [List.getElem_append_left (by simpa using d), List.getElem_append_left (by simp; omega)]; simp
      · rw [List.getElem_append_right (by simp; omega), List.getElem_append_right (by simp; omega)]; simp
/-- What is known of the two networks. -/
structure MoreOk (k : Nat) (N : Int) (l : List S41) (F : List Int) (N1 : Int) (l1_ : List S41) : Prop where
  n0 : 2 ≤ N
  n1 : N ≤ 64
  ll : l.length ≤ 256
  ll1 : l1_.length ≤ 256
  fl : F.length = l.length
  more : l.length < l1_.length → ∃ Sa Sb : List Bool, graph_Reach.f k N l F 0 = some Sa ∧ graph_Reach.f k N1 l1_ (copG F l1_.length) 0 = some Sb ∧ (Sa.length : Int) = N ∧ (Sb.length : Int) = N ∧
    (∀ v : Nat, (v : Int) < N → rdOf false Sa v = true → rdOf false Sb v = true) ∧ graph_Cut.f k N l (List.replicate N.toNat true) = some 0 ∧ graph_Cut.f k N l (List.replicate N.toNat false) = some 0
/-- What is in memory behind the calls. -/
structure Mw (w0 : World) (N : Int) (l : List S41) (F : List Int) (N1 : Int) (l1_ : List S41) (b8 : Nat) (A8 : Option Addr) (c8 : Nat) (A9 : Option Addr) (b10 : Nat) (A10 : Option Addr) (c10 : Nat) (W : World) : Prop where
  bel : Below w0.heap.size w0 W
  x8 : W.heap[b8]? = some (.cells #[.int .i64 N, .slice A8 l.length c8] 24)
  x10 : W.heap[b10]? = some (.cells #[.int .i64 N1, .slice A10 l1_.length c10] 24)
  hl : Kd.C k41 W A8 l.length l
  hf : Kd.C (Kd.int .i64) W A9 F.length F
  hl1 : Kd.C k41 W A10 l1_.length l1_
section
variable {w0 W W' : World} {N : Int} {l : List S41} {F : List Int} {N1 : Int} {l1_ : List S41} {b8 : Nat} {A8 : Option Addr} {c8 : Nat} {A9 : Option Addr} {b10 : Nat} {A10 : Option Addr} {c10 : Nat}
theorem Mw.below (h : Mw w0 N l F N1 l1_ b8 A8 c8 A9 b10 A10 c10 W) (hb : Below W.heap.size W W') : Mw w0 N l F N1 l1_ b8 A8 c8 A9 b10 A10 c10 W' :=
  ⟨h.bel.trans (hb.mono h.bel.size), (hb.block _ (blk_lt h.x8)).trans h.x8, (hb.block _ (blk_lt h.x10)).trans h.x10, Kd.C_below h.hl hb, Kd.C_below h.hf hb, Kd.C_below h.hl1 hb⟩
theorem Mw.cells (h : Mw w0 N l F N1 l1_ b8 A8 c8 A9 b10 A10 c10 W) : W.cell? ⟨b8, 0, none⟩ = some (.int .i64 N) ∧ W.cell? ⟨b8, 1, none⟩ = some (.slice A8 l.length c8) ∧ W.cell? ⟨b10, 0, none⟩ = some (.int .i64 N1) ∧ W.cell? ⟨b10, 1, none⟩ = some (.slice A10 l1_.length c10) :=
  ⟨(blk_cell h.x8 0).trans rfl, (blk_cell h.x8 1).trans rfl, (blk_cell h.x10 0).trans rfl, (blk_cell h.x10 1).trans rfl⟩
end
theorem reach_n (k : Nat) (a0_0 : Int) (A0_1 : Option Addr) (c0_1 : Nat) (l0_1 : List (S41)) (A1 : Option Addr) (c1 : Nat) (l1 : List Int) (a2 : Int) (r : List Bool) (w : World) {n : Nat} (hn : l1.length = n) (hr0_1 : Kd.C k41 w A0_1 l0_1.length l0_1) (hc0_1 : l0_1.length ≤ c0_1) (hr1 : Kd.C (Kd.int .i64) w A1 n l1) (hc1 : n ≤ c1) (h : graph_Reach.f k a0_0 l0_1 l1 a2 = some r) :
    Calls Try.prog 20 #[.agg #[.int .i64 a0_0, .slice A0_1 l0_1.length c0_1], .slice A1 n c1, .int .i64 a2] w fun e w' => ∃ v0_ : Value, e = .returned (v0_) ∧ Kd.R Kd.bool 4 w' w.heap.size (fun _ => True) v0_ r ∧ Below w.heap.size w w' := by
  subst hn
  exact graph_Reach.calls k a0_0 A0_1 c0_1 l0_1 A1 c1 l1 a2 r w hr0_1 hc0_1 hr1 hc1 h
theorem cut_n (k : Nat) (a0_0 : Int) (A0_1 : Option Addr) (c0_1 : Nat) (l0_1 : List (S41)) (A1 : Option Addr) (c1 : Nat) (l1 : List Bool) (r : Int) (w : World) {n : Nat} (hn : l1.length = n) (hr0_1 : Kd.C k41 w A0_1 l0_1.length l0_1) (hc0_1 : l0_1.length ≤ c0_1) (hr1 : Kd.C Kd.bool w A1 n l1) (hc1 : n ≤ c1) (h : graph_Cut.f k a0_0 l0_1 l1 = some r) :
    Calls Try.prog 28 #[.agg #[.int .i64 a0_0, .slice A0_1 l0_1.length c0_1], .slice A1 n c1] w fun e w' => e = .returned (.int .i64 r) ∧ Below w.heap.size w w' := by
  subst hn
  exact graph_Cut.calls k a0_0 A0_1 c0_1 l0_1 A1 c1 l1 r w hr0_1 hc0_1 hr1 hc1 h
theorem row_at {w : World} {base : Nat} {ok : Nat → Prop} {A : Option Addr} {n c : Nat} {l : List Bool} (h : Kd.R Kd.bool 4 w base ok (.slice A n c) l) (hn : l.length = n) : n ≤ c ∧ Kd.C Kd.bool w A n l := by
  obtain ⟨h1, h2, h3⟩ := Kd.R_reads' h
  exact ⟨h2, hn ▸ h3⟩
def billetlaw05_GraphMore.f (k : Nat) (a0_0 : Int) (l0_1 : List (S41)) (l1 : List Int) (a2_0 : Int) (a2_1 : Int) (a2_2 : Int) : Option (Bool) := (billetlaw05_awake.f k).bind fun t442 => ((billetlaw05_Fit.f k a0_0 l0_1).bind fun bt443 => ((billetlaw05_Flow.f k bt443.1 bt443.2 l1).bind fun t448 => (if 0 ≤ (mn (l0_1.length : Int) 39) then (if (mn (l0_1.length : Int) 39) ≤ (l0_1.length : Int) then ((some (l0_1.take ((mn (l0_1.length : Int) 39) : Int).toNat : List (S41))).bind fun y451 => (if ([] : List (S41)).length + y451.length < 5864062014805 then ((some (([] : List (S41)) ++ y451 : List (S41))).bind fun y455 => ((some (([(⟨a2_0, a2_1, a2_2⟩ : S41)] : List (S41)) : List (S41))).bind fun y458 => (if y455.length + y458.length < 5864062014805 then ((billetlaw05_Fit.f k a0_0 (y455 ++ y458)).bind fun bt464 => (some true)) else (none)))) else (none))) else (none)) else (none))))
def billetlaw05_GraphMore.T4 : Bool × List (List Nat × List Nat) := (true, [([], []), ([0], [0]), ([], []), ([2], [2]), ([], []), ([4], [4]), ([5], [5]), ([6], [6]), ([3, 7], [3, 7]), ([8], [8]), ([], []), ([10], [10]), ([9, 11, 9], [9, 11]), ([1, 12], [1, 12]), ([13, 12], [13]), ([], []), ([15, 14, 14, 0, 1, 2, 3, 4, 5, 6, 7, 8, 9, 10, 11, 12, 13, 14, 15], [14, 15])])
def billetlaw05_GraphMore.B4 : List Nat := [0, 1, 0, 4, 0, 16, 48, 112, 252, 508, 0, 1024, 4092, 8191, 16383, 0, 65535]
theorem billetlaw05_GraphMore.tab4 : rtab .any (opsOf Try.f9 4) = billetlaw05_GraphMore.T4 := by kernel_rfl
theorem billetlaw05_GraphMore.bits4 : waitsOk billetlaw05_GraphMore.T4.2 billetlaw05_GraphMore.B4 = true := by kernel_rfl
def billetlaw05_GraphMore.T20 : Bool × List (List Nat × List Nat) := (true, [([], []), ([], []), ([0, 1], [0, 1]), ([2], [2]), ([3, 2], [3]), ([4], [4]), ([4], [4]), ([6, 4], [4, 6]), ([7, 7, 4], [4, 7]), ([5, 8, 4, 4], [4, 5, 8]), ([9, 4], [4, 9]), ([4, 10], [4, 10]), ([11, 9, 0, 1, 2, 3, 4, 5, 6, 7, 8, 9, 10, 11], [11])])
def billetlaw05_GraphMore.B20 : List Nat := [0, 0, 3, 7, 15, 31, 31, 95, 223, 511, 1023, 2047, 4095]
theorem billetlaw05_GraphMore.tab20 : rtab .any (opsOf Try.f9 20) = billetlaw05_GraphMore.T20 := by kernel_rfl
theorem billetlaw05_GraphMore.bits20 : waitsOk billetlaw05_GraphMore.T20.2 billetlaw05_GraphMore.B20 = true := by kernel_rfl
set_option maxHeartbeats 8000000 in
set_option maxRecDepth 100000 in
theorem billetlaw05_GraphMore.calls (k : Nat) (a0_0 : Int) (A0_1 : Option Addr) (c0_1 : Nat) (l0_1 : List (S41)) (A1 : Option Addr) (c1 : Nat) (l1 : List Int) (a2_0 : Int) (a2_1 : Int) (a2_2 : Int) (r : Bool) (w : World) (hr0_1 : Kd.C k41 w A0_1 l0_1.length l0_1) (hc0_1 : l0_1.length ≤ c0_1) (hr1 : Kd.C (Kd.int .i64) w A1 l1.length l1) (hc1 : l1.length ≤ c1) (h : billetlaw05_GraphMore.f k a0_0 l0_1 l1 a2_0 a2_1 a2_2 = some r) (hT_ : r = true)
    (hP : ∀ N l F N1 l1_, billetlaw05_Fit.f k a0_0 l0_1 = some (N, l) → billetlaw05_Flow.f k N l l1 = some F → billetlaw05_Fit.f k a0_0 (([] : List S41) ++ l0_1.take (mn (l0_1.length : Int) 39).toNat ++ [(⟨a2_0, a2_1, a2_2⟩ : S41)]) = some (N1, l1_) → MoreOk k N l F N1 l1_) :
    Calls Try.prog 9 #[.agg #[.int .i64 a0_0, .slice A0_1 l0_1.length c0_1], .slice A1 l1.length c1, .agg #[.int .i64 a2_0, .int .i64 a2_1, .int .i64 a2_2]] w fun e w' => e = .returned (.bool r) ∧ Below w.heap.size w w' := by
  have hu24 := Try.underlying24
  have hu41 := Try.underlying41
  have HR0_1 := Aside0.mk hr0_1
  have HC0_1 := Aside0.mk hc0_1
  clear hr0_1 hc0_1
  have HR1 := Aside0.mk hr1
  have HC1 := Aside0.mk hc1
  clear hr1 hc1
  have HTr_ := Aside0.mk hT_
  clear hT_
  have HB := Aside0.mk (Below.refl w.heap.size w)
  have H : ((billetlaw05_awake.f k).bind fun t442 => ((billetlaw05_Fit.f k a0_0 l0_1).bind fun bt443 => ((billetlaw05_Flow.f k bt443.1 bt443.2 l1).bind fun t448 => (if 0 ≤ (mn (l0_1.length : Int) 39) then (if (mn (l0_1.length : Int) 39) ≤ (l0_1.length : Int) then ((some (l0_1.take ((mn (l0_1.length : Int) 39) : Int).toNat : List (S41))).bind fun y451 => (if ([] : List (S41)).length + y451.length < 5864062014805 then ((some (([] : List (S41)) ++ y451 : List (S41))).bind fun y455 => ((some (([(⟨a2_0, a2_1, a2_2⟩ : S41)] : List (S41)) : List (S41))).bind fun y458 => (if y455.length + y458.length < 5864062014805 then ((billetlaw05_Fit.f k a0_0 (y455 ++ y458)).bind fun bt464 => (some true)) else (none)))) else (none))) else (none)) else (none))))) = some r := h
  clear h
  replace H := Option.bind_eq_some_iff.mp H
  obtain ⟨t442, A40, H⟩ := H
  replace H : ((billetlaw05_Fit.f k a0_0 l0_1).bind fun bt443 => ((billetlaw05_Flow.f k bt443.1 bt443.2 l1).bind fun t448 => (if 0 ≤ (mn (l0_1.length : Int) 39) then (if (mn (l0_1.length : Int) 39) ≤ (l0_1.length : Int) then ((some (l0_1.take ((mn (l0_1.length : Int) 39) : Int).toNat : List (S41))).bind fun y451 => (if ([] : List (S41)).length + y451.length < 5864062014805 then ((some (([] : List (S41)) ++ y451 : List (S41))).bind fun y455 => ((some (([(⟨a2_0, a2_1, a2_2⟩ : S41)] : List (S41)) : List (S41))).bind fun y458 => (if y455.length + y458.length < 5864062014805 then ((billetlaw05_Fit.f k a0_0 (y455 ++ y458)).bind fun bt464 => (some true)) else (none)))) else (none))) else (none)) else (none)))) = some r := H
  have A4 := Aside0.mk A40
  clear A40
  replace H := Option.bind_eq_some_iff.mp H
  obtain ⟨⟨t443, t444⟩, A50, H⟩ := H
  replace H : ((billetlaw05_Flow.f k t443 t444 l1).bind fun t448 => (if 0 ≤ (mn (l0_1.length : Int) 39) then (if (mn (l0_1.length : Int) 39) ≤ (l0_1.length : Int) then ((some (l0_1.take ((mn (l0_1.length : Int) 39) : Int).toNat : List (S41))).bind fun y451 => (if ([] : List (S41)).length + y451.length < 5864062014805 then ((some (([] : List (S41)) ++ y451 : List (S41))).bind fun y455 => ((some (([(⟨a2_0, a2_1, a2_2⟩ : S41)] : List (S41)) : List (S41))).bind fun y458 => (if y455.length + y458.length < 5864062014805 then ((billetlaw05_Fit.f k a0_0 (y455 ++ y458)).bind fun bt464 => (some true)) else (none)))) else (none))) else (none)) else (none))) = some r := H
  have A5 := Aside0.mk A50
  clear A50
  replace H := Option.bind_eq_some_iff.mp H
  obtain ⟨t448, A60, H⟩ := H
  replace H : (if 0 ≤ (mn (l0_1.length : Int) 39) then (if (mn (l0_1.length : Int) 39) ≤ (l0_1.length : Int) then ((some (l0_1.take ((mn (l0_1.length : Int) 39) : Int).toNat : List (S41))).bind fun y451 => (if ([] : List (S41)).length + y451.length < 5864062014805 then ((some (([] : List (S41)) ++ y451 : List (S41))).bind fun y455 => ((some (([(⟨a2_0, a2_1, a2_2⟩ : S41)] : List (S41)) : List (S41))).bind fun y458 => (if y455.length + y458.length < 5864062014805 then ((billetlaw05_Fit.f k a0_0 (y455 ++ y458)).bind fun bt464 => (some true)) else (none)))) else (none))) else (none)) else (none)) = some r := H
  have A6 := Aside0.mk A60
  clear A60
  obtain ⟨ji7, hji7⟩ : ∃ j_ : Int, (mn (l0_1.length : Int) 39) = j_ := ⟨_, rfl⟩
  replace H : (if 0 ≤ (ji7) then (if (ji7) ≤ (l0_1.length : Int) then ((some (l0_1.take ((ji7) : Int).toNat : List (S41))).bind fun y451 => (if ([] : List (S41)).length + y451.length < 5864062014805 then ((some (([] : List (S41)) ++ y451 : List (S41))).bind fun y455 => ((some (([(⟨a2_0, a2_1, a2_2⟩ : S41)] : List (S41)) : List (S41))).bind fun y458 => (if y455.length + y458.length < 5864062014805 then ((billetlaw05_Fit.f k a0_0 (y455 ++ y458)).bind fun bt464 => (some true)) else (none)))) else (none))) else (none)) else (none)) = some r := by first | (rw [hji7] at H; exact H) | (simp only [hji7] at H ⊢; exact H)
  (try rw [hji7] at A4)
  (try rw [hji7] at A5)
  (try rw [hji7] at A6)
  (try (have hji7h : ji7 ≤ 39 := by (rw [← hji7]; unfold mn; (repeat' split) <;> omega)))
  (try (have hji7g : ji7 ≤ 64 := by omega))
  (try (have hji7l : 0 ≤ ji7 := by (rw [← hji7]; unfold mn; (repeat' split) <;> omega)))
  (try (have hji7m : 0 ≤ ji7 := by omega))
  have hji7_ : (if 39 < (l0_1.length : Int) then 39 else (l0_1.length : Int)) = ji7 := hji7
  by_cases c8 : 0 ≤ (ji7)
  · rw [if_pos c8] at H
    have c8b0 := eq_true c8
    have c8b1 : decide (0 ≤ (ji7)) = true := decide_eq_true c8
    clear c8
    by_cases c9 : (ji7) ≤ (l0_1.length : Int)
    · rw [if_pos c9] at H
      have c9b0 := eq_true c9
      have c9b1 : decide ((ji7) ≤ (l0_1.length : Int)) = true := decide_eq_true c9
      clear c9
      obtain ⟨y451, hy451⟩ : ∃ y_ : List (S41), y_ = (l0_1.take ((ji7) : Int).toNat) := ⟨_, rfl⟩
      replace H : (if ([] : List (S41)).length + y451.length < 5864062014805 then ((some (([] : List (S41)) ++ y451 : List (S41))).bind fun y455 => ((some (([(⟨a2_0, a2_1, a2_2⟩ : S41)] : List (S41)) : List (S41))).bind fun y458 => (if y455.length + y458.length < 5864062014805 then ((billetlaw05_Fit.f k a0_0 (y455 ++ y458)).bind fun bt464 => (some true)) else (none)))) else (none)) = some r := by first | (rw [hy451]; with_reducible exact H) | (have H2_ := (Option.bind_some _ _).symm.trans H; rw [hy451]; with_reducible exact H2_) | (have H2_ := (Option.bind_some _ _).symm.trans H; with_reducible exact H2_) | with_reducible exact H | (rw [hy451]; exact H) | exact H
      have Ny451 := Aside0.mk hy451
      clear hy451
      by_cases c10 : ([] : List (S41)).length + y451.length < 5864062014805
      · rw [if_pos c10] at H
        have LMc10 := Aside0.mk c10
        clear c10
        obtain ⟨y455, hy455⟩ : ∃ y_ : List (S41), y_ = (([] : List (S41)) ++ y451) := ⟨_, rfl⟩
        replace H : ((some (([(⟨a2_0, a2_1, a2_2⟩ : S41)] : List (S41)) : List (S41))).bind fun y458 => (if y455.length + y458.length < 5864062014805 then ((billetlaw05_Fit.f k a0_0 (y455 ++ y458)).bind fun bt464 => (some true)) else (none))) = some r := by first | (rw [hy455]; with_reducible exact H) | (have H2_ := (Option.bind_some _ _).symm.trans H; rw [hy455]; with_reducible exact H2_) | (have H2_ := (Option.bind_some _ _).symm.trans H; with_reducible exact H2_) | with_reducible exact H | (rw [hy455]; exact H) | exact H
        have Ny455 := Aside0.mk hy455
        clear hy455
        obtain ⟨y458, hy458⟩ : ∃ y_ : List (S41), y_ = (([(⟨a2_0, a2_1, a2_2⟩ : S41)] : List (S41))) := ⟨_, rfl⟩
        replace H : (if y455.length + y458.length < 5864062014805 then ((billetlaw05_Fit.f k a0_0 (y455 ++ y458)).bind fun bt464 => (some true)) else (none)) = some r := by first | (rw [hy458]; with_reducible exact H) | (have H2_ := (Option.bind_some _ _).symm.trans H; rw [hy458]; with_reducible exact H2_) | (have H2_ := (Option.bind_some _ _).symm.trans H; with_reducible exact H2_) | with_reducible exact H | (rw [hy458]; exact H) | exact H
        have Ny458 := Aside0.mk hy458
        clear hy458
        by_cases c11 : y455.length + y458.length < 5864062014805
        · rw [if_pos c11] at H
          have LMc11 := Aside0.mk c11
          clear c11
          obtain ⟨y461, hy461⟩ : ∃ y_ : List (S41), y_ = (y455 ++ y458) := ⟨_, rfl⟩
          replace H : ((billetlaw05_Fit.f k a0_0 y461).bind fun bt464 => (some true)) = some r := by first | (rw [hy461]; with_reducible exact H) | (have H2_ := (Option.bind_some _ _).symm.trans H; rw [hy461]; with_reducible exact H2_) | (have H2_ := (Option.bind_some _ _).symm.trans H; with_reducible exact H2_) | with_reducible exact H | (rw [hy461]; exact H) | exact H
          have Ny461 := Aside0.mk hy461
          clear hy461
          replace H := Option.bind_eq_some_iff.mp H
          obtain ⟨⟨t464, t465⟩, A120, H⟩ := H
          replace H : (some true) = some r := H
          have HE_ := Aside0.mk (hP t443 t444 t448 t464 t465 A5.out A6.out (by rw [show (mn (l0_1.length : Int) 39) = ji7 from hji7, ← Ny451.out, ← Ny455.out, ← Ny458.out, ← Ny461.out]; exact A120))
          have HAw_ := Aside0.mk (billetlaw05_awake.true_ A4.out)
          have A12 := Aside0.mk A120
          clear A120
          go_enter Try.func9, Try.ntmps9
          try go_wp2_with (first | ((with_reducible refine gate_dst (N := 3) rfl ?_); (try (refine gate_guard (by rfl) ?_; dsimp only)); refine box_event ?hg (N := 3) ?hd (cs := #[.int .i64 a0_0, .slice A0_1 l0_1.length c0_1]) (t := 24) ?hr ?_; (case hd => rfl); (case hg => rfl); (case hr => first | (go_simp; done) | (go_simp; rfl)); intro gb440 hg w15 hbox hb; have n0_ := Aside0.mk (below_step (by repeat (first | (with_reducible first | exact HB.out | apply below_alloc | apply pw_below_drewN | apply below_drew1) | exact HB.out)) hb); have n1_ := Aside0.mk (hbox); have n2_ := Aside0.mk ((by rw [hg]; exact (below_size (by repeat (first | (with_reducible first | exact HB.out | apply below_alloc | apply pw_below_drewN | apply below_drew1) | exact HB.out))) : w.heap.size ≤ gb440)); have n3_ := Aside0.mk ((by rw [hg]; exact (below_size (by repeat (first | (with_reducible first | exact HB.out | apply below_alloc | apply pw_below_drewN | apply below_drew1) | exact HB.out))) : w.heap.size ≤ gb440)); clear HB; have HB := n0_; have BK440 := n1_; have GW440 := n2_; have GE440 := n3_; clear n0_ n1_ n2_ n3_; clear hb hbox hg) | ((with_reducible refine gate_dst (N := 5) rfl ?_); (try (refine gate_guard (by rfl) ?_; dsimp only)); refine box_event ?hg (N := 5) ?hd (cs := #[.int .i64 a2_0, .int .i64 a2_1, .int .i64 a2_2]) (t := 41) ?hr ?_; (case hd => rfl); (case hg => rfl); (case hr => first | (go_simp; done) | (go_simp; rfl)); intro gb441 hg w16 hbox hb; have n0_ := Aside0.mk (blk_below (g := gb440) (o := .cells #[.int .i64 a0_0, .slice A0_1 l0_1.length c0_1] 24 (0, 0)) (by (with_reducible repeat (first | refine blk_drewN ?_ _ | refine blk_drew ?_ | refine blk_alloc ?_ _)); exact BK440.out) hb); have n1_ := Aside0.mk (below_step (by repeat (first | (with_reducible first | exact HB.out | apply below_alloc | apply pw_below_drewN | apply below_drew1 | refine below_set ?_ GE440.out) | exact HB.out)) hb); have n2_ := Aside0.mk (hbox); have n3_ := Aside0.mk ((by rw [hg]; exact (below_size (by repeat (first | (with_reducible first | exact HB.out | apply below_alloc | apply pw_below_drewN | apply below_drew1 | refine below_set ?_ GE440.out) | exact HB.out))) : w.heap.size ≤ gb441)); have n4_ := Aside0.mk ((by rw [hg]; exact (below_size (by repeat (first | (with_reducible first | exact HB.out | apply below_alloc | apply pw_below_drewN | apply below_drew1 | refine below_set ?_ GE440.out) | exact HB.out))) : w.heap.size ≤ gb441)); have n5_ := Aside0.mk ((by rw [hg]; exact Nat.ne_of_lt (blk_lt (g := gb440) (o := .cells #[.int .i64 a0_0, .slice A0_1 l0_1.length c0_1] 24 (0, 0)) (by (with_reducible repeat (first | refine blk_drewN ?_ _ | refine blk_drew ?_ | refine blk_alloc ?_ _)); exact BK440.out)) : gb440 ≠ gb441)); have n6_ := Aside0.mk ((by rw [hg]; exact Nat.ne_of_gt (blk_lt (g := gb440) (o := .cells #[.int .i64 a0_0, .slice A0_1 l0_1.length c0_1] 24 (0, 0)) (by (with_reducible repeat (first | refine blk_drewN ?_ _ | refine blk_drew ?_ | refine blk_alloc ?_ _)); exact BK440.out)) : gb441 ≠ gb440)); clear BK440; clear HB; have BK440 := n0_; have HB := n1_; have BK441 := n2_; have GW441 := n3_; have GE441 := n4_; have NB440_441 := n5_; have NB441_440 := n6_; clear n0_ n1_ n2_ n3_ n4_ n5_ n6_; clear hb hbox hg) | ((with_reducible refine gate_callee (f := 18) rfl ?_); refine goesL_ (some 16) rfl rfl Try.func18 (by kernel_rfl) rfl #[] rfl (by (try simp only [List.map_toArray, List.map_cons, List.map_nil]); first | done | rfl | (simp only [List.length_drop, List.length_take]; rfl)) ?_; (with_reducible refine (billetlaw05_awake.calls k  t442 _ A4.out).mono ?_); rintro e w17 ⟨rfl, hb⟩; refine ⟨_, rfl, ?_⟩; have n0_ := Aside0.mk (blk_below (g := gb440) (o := .cells #[.int .i64 a0_0, .slice A0_1 l0_1.length c0_1] 24 (0, 0)) (by (with_reducible repeat (first | refine blk_drewN ?_ _ | refine blk_drew ?_ | refine blk_alloc ?_ _)); exact BK440.out) hb); have n1_ := Aside0.mk (blk_below (g := gb441) (o := .cells #[.int .i64 a2_0, .int .i64 a2_1, .int .i64 a2_2] 41 (0, 0)) (by (with_reducible repeat (first | refine blk_drewN ?_ _ | refine blk_drew ?_ | refine blk_alloc ?_ _)); exact BK441.out) hb); have n2_ := Aside0.mk (below_step (by repeat (first | (with_reducible first | exact HB.out | apply below_alloc | apply pw_below_drewN | apply below_drew1 | refine below_set ?_ GE440.out | refine below_set ?_ GE441.out) | exact HB.out)) hb); clear BK440; clear BK441; clear HB; have BK440 := n0_; have BK441 := n1_; have HB := n2_; clear n0_ n1_ n2_; (try clear hb); (try clear hb2); (try clear hk); (try clear hi); have hnb18 := NB440_441.out; have hnc18 := NB441_440.out; have hcz19_0 : w17.cell? ⟨gb440, 0, none⟩ = some (.int .i64 a0_0) := (blk_cell BK440.out 0).trans rfl; have hcz19_1 : w17.cell? ⟨gb440, 1, none⟩ = some (.slice A0_1 l0_1.length c0_1) := (blk_cell BK440.out 1).trans rfl; have hfz19_0 := blk_frozen BK440.out 0; have hfz19_1 := blk_frozen BK440.out 1) | ((with_reducible refine gate_callee (f := 30) rfl ?_); refine goesL_ (some 18) rfl rfl Try.func30 (by kernel_rfl) rfl #[.agg #[.int .i64 a0_0, .slice A0_1 l0_1.length c0_1]] rfl (by (try simp only [List.map_toArray, List.map_cons, List.map_nil]); first | done | rfl | (simp only [List.length_drop, List.length_take]; rfl)) ?_; (with_reducible refine (billetlaw05_Fit.calls k a0_0 _ _ l0_1 t443 t444 _ ?side1 ?side2 A5.out).mono ?_); (case side1 => repeat (first | exact (Kd.C_below HR0_1.out HB.out) | (with_reducible refine Kd.C_alloc ?_ _) | (with_reducible refine Kd.C_drewN ?_ _) | (with_reducible refine Kd.C_drew ?_))); (case side2 => exact HC0_1.out); rintro e w20 ⟨v445, rfl, ho0, hb⟩; refine ⟨_, rfl, ?_⟩; have n0_ := Aside0.mk (Kd.R_lower (Kd.R_newB ho0 (g := gb441) (o := .cells #[.int .i64 a2_0, .int .i64 a2_1, .int .i64 a2_2] 41 (0, 0)) (by (with_reducible repeat (first | refine blk_drewN ?_ _ | refine blk_drew ?_ | refine blk_alloc ?_ _)); exact BK441.out)) (below_size (by repeat (first | (with_reducible first | exact HB.out | apply below_alloc | apply pw_below_drewN | apply below_drew1 | refine below_set ?_ GE440.out | refine below_set ?_ GE441.out) | exact HB.out)))); have n1_ := Aside0.mk (blk_below (g := gb440) (o := .cells #[.int .i64 a0_0, .slice A0_1 l0_1.length c0_1] 24 (0, 0)) (by (with_reducible repeat (first | refine blk_drewN ?_ _ | refine blk_drew ?_ | refine blk_alloc ?_ _)); exact BK440.out) hb); have n2_ := Aside0.mk (blk_below (g := gb441) (o := .cells #[.int .i64 a2_0, .int .i64 a2_1, .int .i64 a2_2] 41 (0, 0)) (by (with_reducible repeat (first | refine blk_drewN ?_ _ | refine blk_drew ?_ | refine blk_alloc ?_ _)); exact BK441.out) hb); have n3_ := Aside0.mk (below_step (by repeat (first | (with_reducible first | exact HB.out | apply below_alloc | apply pw_below_drewN | apply below_drew1 | refine below_set ?_ GE440.out | refine below_set ?_ GE441.out) | exact HB.out)) hb); clear BK440; clear BK441; clear HB; have HO446 := n0_; have BK440 := n1_; have BK441 := n2_; have HB := n3_; clear n0_ n1_ n2_ n3_; (try clear hb); (try clear hb2); (try clear hk); (try clear hi); (try clear ho0)) | ((with_reducible refine gate_dst (N := 8) rfl ?_); (try (refine gate_guard (by rfl) ?_; dsimp only)); refine box_event ?hg (N := 8) ?hd (cs := #[.int .i64 0, .slice none 0 0]) (t := 24) ?hr ?_; (case hd => rfl); (case hg => rfl); (case hr => first | (go_simp; done) | (go_simp; rfl)); intro gb447 hg w21 hbox hb; have n0_ := Aside0.mk (Kd.R_below (by (with_reducible repeat (first | apply Kd.R_alloc | apply Kd.R_drewN | apply Kd.R_drew)); exact HO446.out) hb); have n1_ := Aside0.mk (blk_below (g := gb440) (o := .cells #[.int .i64 a0_0, .slice A0_1 l0_1.length c0_1] 24 (0, 0)) (by (with_reducible repeat (first | refine blk_drewN ?_ _ | refine blk_drew ?_ | refine blk_alloc ?_ _)); exact BK440.out) hb); have n2_ := Aside0.mk (blk_below (g := gb441) (o := .cells #[.int .i64 a2_0, .int .i64 a2_1, .int .i64 a2_2] 41 (0, 0)) (by (with_reducible repeat (first | refine blk_drewN ?_ _ | refine blk_drew ?_ | refine blk_alloc ?_ _)); exact BK441.out) hb); have n3_ := Aside0.mk (below_step (by repeat (first | (with_reducible first | exact HB.out | apply below_alloc | apply pw_below_drewN | apply below_drew1 | refine below_set ?_ GE440.out | refine below_set ?_ GE441.out) | exact HB.out)) hb); have n4_ := Aside0.mk (hbox); have n5_ := Aside0.mk ((by rw [hg]; exact (below_size (by repeat (first | (with_reducible first | exact HB.out | apply below_alloc | apply pw_below_drewN | apply below_drew1 | refine below_set ?_ GE440.out | refine below_set ?_ GE441.out) | exact HB.out))) : w.heap.size ≤ gb447)); have n6_ := Aside0.mk ((by rw [hg]; exact (below_size (by repeat (first | (with_reducible first | exact HB.out | apply below_alloc | apply pw_below_drewN | apply below_drew1 | refine below_set ?_ GE440.out | refine below_set ?_ GE441.out) | exact HB.out))) : w.heap.size ≤ gb447)); have n7_ := Aside0.mk ((by rw [hg]; exact Nat.ne_of_lt (blk_lt (g := gb440) (o := .cells #[.int .i64 a0_0, .slice A0_1 l0_1.length c0_1] 24 (0, 0)) (by (with_reducible repeat (first | refine blk_drewN ?_ _ | refine blk_drew ?_ | refine blk_alloc ?_ _)); exact BK440.out)) : gb440 ≠ gb447)); have n8_ := Aside0.mk ((by rw [hg]; exact Nat.ne_of_gt (blk_lt (g := gb440) (o := .cells #[.int .i64 a0_0, .slice A0_1 l0_1.length c0_1] 24 (0, 0)) (by (with_reducible repeat (first | refine blk_drewN ?_ _ | refine blk_drew ?_ | refine blk_alloc ?_ _)); exact BK440.out)) : gb447 ≠ gb440)); have n9_ := Aside0.mk ((by rw [hg]; exact Nat.ne_of_lt (blk_lt (g := gb441) (o := .cells #[.int .i64 a2_0, .int .i64 a2_1, .int .i64 a2_2] 41 (0, 0)) (by (with_reducible repeat (first | refine blk_drewN ?_ _ | refine blk_drew ?_ | refine blk_alloc ?_ _)); exact BK441.out)) : gb441 ≠ gb447)); have n10_ := Aside0.mk ((by rw [hg]; exact Nat.ne_of_gt (blk_lt (g := gb441) (o := .cells #[.int .i64 a2_0, .int .i64 a2_1, .int .i64 a2_2] 41 (0, 0)) (by (with_reducible repeat (first | refine blk_drewN ?_ _ | refine blk_drew ?_ | refine blk_alloc ?_ _)); exact BK441.out)) : gb447 ≠ gb441)); clear HO446; clear BK440; clear BK441; clear HB; have HO446 := n0_; have BK440 := n1_; have BK441 := n2_; have HB := n3_; have BK447 := n4_; have GW447 := n5_; have GE447 := n6_; have NB440_447 := n7_; have NB447_440 := n8_; have NB441_447 := n9_; have NB447_441 := n10_; clear n0_ n1_ n2_ n3_ n4_ n5_ n6_ n7_ n8_ n9_ n10_; clear hb hbox hg; have hnb22 := NB447_440.out; have hnc22 := NB440_447.out; have hnb23 := NB447_441.out; have hnc23 := NB441_447.out; have hcz24_0 : w21.cell? ⟨gb447, 0, none⟩ = some (.int .i64 0) := (blk_cell BK447.out 0).trans rfl; have hcz24_1 : w21.cell? ⟨gb447, 1, none⟩ = some (.slice none 0 0) := (blk_cell BK447.out 1).trans rfl; have hfz24_0 := blk_frozen BK447.out 0; have hfz24_1 := blk_frozen BK447.out 1; obtain ⟨Ao25, co25, eo25⟩ := Kd.R_slice HO446.out; subst eo25) | ((with_reducible refine gate_callee (f := 31) rfl ?_); refine goesL_ (some 21) rfl rfl Try.func31 (by kernel_rfl) rfl #[.agg #[.int .i64 t443, .slice Ao25 t444.length co25], .slice A1 l1.length c1] rfl (by (try simp only [List.map_toArray, List.map_cons, List.map_nil]); first | done | rfl | (simp only [List.length_drop, List.length_take]; rfl)) ?_; (with_reducible refine (billetlaw05_Flow.calls k t443 _ _ t444 _ _ l1 t448 _ ?side1 ?side2 ?side3 ?side4 A6.out).mono ?_); (case side1 => refine (Kd.R_reads' (e := 41) (base := w.heap.size) (ok := fun k_ => (True ∧ k_ ≠ gb441)) (n := t444.length) (c := co25) ?_).2.2; exact (by (with_reducible repeat (first | apply Kd.R_alloc | apply Kd.R_drewN | apply Kd.R_drew)); exact (Kd.R_mono (Kd.R_far (p := ⟨gb447, 1, none⟩) (Kd.R_far (p := ⟨gb447, 0, none⟩) (Kd.R_types HO446.out BK447.out (by decide)) (fun _ hk => hk.2) (.int .i64 t443)) (fun _ hk => hk.2) (.slice Ao25 t444.length co25)) (fun _ h_ => h_.1)))); (case side2 => exact (Kd.R_reads' HO446.out).2.1); (case side3 => exact Kd.C_below HR1.out (by repeat (first | (with_reducible first | exact HB.out | apply below_alloc | apply pw_below_drewN | apply below_drew1 | refine below_set ?_ GE440.out | refine below_set ?_ GE441.out | refine below_set ?_ GE447.out) | exact HB.out))); (case side4 => exact HC1.out); rintro e w26 ⟨v449, rfl, ho0, hb⟩; refine ⟨_, rfl, ?_⟩; have n0_ := Aside0.mk (Kd.R_below (by (with_reducible repeat (first | apply Kd.R_alloc | apply Kd.R_drewN | apply Kd.R_drew)); exact (Kd.R_mono (Kd.R_far (p := ⟨gb447, 1, none⟩) (Kd.R_far (p := ⟨gb447, 0, none⟩) (Kd.R_types HO446.out BK447.out (by decide)) (fun _ hk => hk.2) (.int .i64 t443)) (fun _ hk => hk.2) (.slice Ao25 t444.length co25)) (fun _ h_ => h_.1))) hb); have n1_ := Aside0.mk (Kd.R_lower ho0 (below_size (by repeat (first | (with_reducible first | exact HB.out | apply below_alloc | apply pw_below_drewN | apply below_drew1 | refine below_set ?_ GE440.out | refine below_set ?_ GE441.out | refine below_set ?_ GE447.out) | exact HB.out)))); have n2_ := Aside0.mk (blk_below (g := gb440) (o := .cells #[.int .i64 a0_0, .slice A0_1 l0_1.length c0_1] 24 (0, 0)) (by (with_reducible repeat (first | refine blk_drewN ?_ _ | refine blk_drew ?_ | refine blk_alloc ?_ _)); refine blk_far ?_ NB440_447.out _; (with_reducible repeat (first | refine blk_drewN ?_ _ | refine blk_drew ?_ | refine blk_alloc ?_ _)); refine blk_far ?_ NB440_447.out _; (with_reducible repeat (first | refine blk_drewN ?_ _ | refine blk_drew ?_ | refine blk_alloc ?_ _)); exact BK440.out) hb); have n3_ := Aside0.mk (blk_below (g := gb441) (o := .cells #[.int .i64 a2_0, .int .i64 a2_1, .int .i64 a2_2] 41 (0, 0)) (by (with_reducible repeat (first | refine blk_drewN ?_ _ | refine blk_drew ?_ | refine blk_alloc ?_ _)); refine blk_far ?_ NB441_447.out _; (with_reducible repeat (first | refine blk_drewN ?_ _ | refine blk_drew ?_ | refine blk_alloc ?_ _)); refine blk_far ?_ NB441_447.out _; (with_reducible repeat (first | refine blk_drewN ?_ _ | refine blk_drew ?_ | refine blk_alloc ?_ _)); exact BK441.out) hb); have n4_ := Aside0.mk (blk_below (g := gb447) (o := .cells #[.int .i64 t443, .slice Ao25 t444.length co25] 24 (0, 0)) (by (with_reducible repeat (first | refine blk_drewN ?_ _ | refine blk_drew ?_ | refine blk_alloc ?_ _)); refine blk_put (cs := #[.int .i64 t443, .slice none 0 0]) ?_ 1 _ rfl; (with_reducible repeat (first | refine blk_drewN ?_ _ | refine blk_drew ?_ | refine blk_alloc ?_ _)); refine blk_put (cs := #[.int .i64 0, .slice none 0 0]) ?_ 0 _ rfl; (with_reducible repeat (first | refine blk_drewN ?_ _ | refine blk_drew ?_ | refine blk_alloc ?_ _)); exact BK447.out) hb); have n5_ := Aside0.mk (below_step (by repeat (first | (with_reducible first | exact HB.out | apply below_alloc | apply pw_below_drewN | apply below_drew1 | refine below_set ?_ GE440.out | refine below_set ?_ GE441.out | refine below_set ?_ GE447.out) | exact HB.out)) hb); clear HO446; clear BK440; clear BK441; clear BK447; clear HB; have HO446 := n0_; have HO450 := n1_; have BK440 := n2_; have BK441 := n3_; have BK447 := n4_; have HB := n5_; clear n0_ n1_ n2_ n3_ n4_ n5_; (try clear hb); (try clear hb2); (try clear hk); (try clear hi); (try clear ho0)))
          have n0_ := Aside0.mk (Kd.R_drew HO446.out)
          have n1_ := Aside0.mk (Kd.R_drew HO450.out)
          have n2_ := Aside0.mk (blk_drew BK440.out)
          have n3_ := Aside0.mk (blk_drew BK441.out)
          have n4_ := Aside0.mk (blk_drew BK447.out)
          have n5_ := Aside0.mk (below_drew1 HB.out)
          clear HO446
          clear HO450
          clear BK440
          clear BK441
          clear BK447
          clear HB
          have HO446 := n0_
          have HO450 := n1_
          have BK440 := n2_
          have BK441 := n3_
          have BK447 := n4_
          have HB := n5_
          clear n0_ n1_ n2_ n3_ n4_ n5_
          have q28 : ((ji7) : Int) ≤ ((l0_1.length : Int) : Int) := of_decide_eq_true (by first | (with_reducible assumption) | assumption)
          obtain ⟨i028, hi028, _, hsz28, _⟩ := info_parts info41
          have hroom28 : l0_1.length ≤ c0_1 := HC0_1.out
          have hC28 : Kd.C k41 _ A0_1 l0_1.length l0_1 := HR0_1.out
          have hcut28 := cut_to (P := Try.prog) 22 41 .i64 Try.underlying22 hi028 A0_1 l0_1.length c0_1 (ji7) (of_decide_eq_true (by first | (with_reducible assumption) | assumption)) q28 hroom28
          have hr28 := Kd.C_take (m := ((ji7) : Int).toNat) hC28 (by omega)
          have hy28 : y451.length = ((ji7) : Int).toNat := (by rw [Ny451.out, List.length_take]; omega)
          rw [← Ny451.out] at hr28
          rw [← hy28] at hcut28
          have HR454 := Aside0.mk hr28
          have HC454 := Aside0.mk (show y451.length ≤ c0_1 from by omega)
          clear hr28 hC28 hroom28 hi028 hsz28
          have KY28 := Aside0.mk hy28
          clear hy28
          replace q28 := eq_true q28
          refine start_ (n := 17) (S := fun w' => w'.cell? ⟨gb440, 0, none⟩ = some (.int .i64 a0_0) ∧ w'.cell? ⟨gb440, 1, none⟩ = some (.slice A0_1 l0_1.length c0_1) ∧ w'.cell? ⟨gb441, 0, none⟩ = some (.int .i64 a2_0) ∧ w'.cell? ⟨gb441, 1, none⟩ = some (.int .i64 a2_1) ∧ w'.cell? ⟨gb441, 2, none⟩ = some (.int .i64 a2_2)) (ds := []) #[false, false, false, false, false, false, false, false, false, false, false, false, false, false, false, false, false] (by kernel_rfl) rfl rfl ⟨(blk_cell BK440.out 0).trans rfl, (blk_cell BK440.out 1).trans rfl, (blk_cell BK441.out 0).trans rfl, (blk_cell BK441.out 1).trans rfl, (blk_cell BK441.out 2).trans rfl⟩ (fun hHeld => ?_); refine with_tabW billetlaw05_GraphMore.tab4 billetlaw05_GraphMore.bits4 (fun HT_ HW_ => ?_)
          generalize w26.drew = w27 at HO446 HO450 BK440 BK441 BK447 HB HR454 hHeld ⊢
          refine pure_ (i := 0) (N := some 22) (v := ?_) (a' := ?_) #[true, false, false, false, false, false, false, false, false, false, false, false, false, false, false, false, false] rfl rfl (any_of HT_.out (by kernel_rfl)) (fun _ _ _ h => h) (Or.inl ⟨by rfl, ?_⟩) ?_ ?_
          rotate_left
          · intro w'
            go_simp
            with_reducible rfl
          rotate_left
          · simp only [Act.put, List.setIfInBounds_toArray, List.set_cons_zero, List.set_cons_succ, i64_w, i32_w]
            rfl
          refine pure_ (i := 2) (N := some 24) (v := ?_) (a' := ?_) #[true, false, true, false, false, false, false, false, false, false, false, false, false, false, false, false, false] rfl rfl (any_of HT_.out (by kernel_rfl)) (fun _ _ _ h => h) (Or.inl ⟨by rfl, ?_⟩) ?_ ?_
          rotate_left
          · intro w'
            go_simp
            with_reducible rfl
          rotate_left
          · simp only [Act.put, List.setIfInBounds_toArray, List.set_cons_zero, List.set_cons_succ, i64_w, i32_w]
            rfl
          refine pure_ (i := 4) (N := some 26) (v := ?_) (a' := ?_) #[true, false, true, false, true, false, false, false, false, false, false, false, false, false, false, false, false] rfl rfl (any_of HT_.out (by kernel_rfl)) (fun _ _ _ h => h) (Or.inl ⟨by rfl, ?_⟩) ?_ ?_
          rotate_left
          · intro w'
            go_simp
            with_reducible rfl
          rotate_left
          · simp only [Act.put, List.setIfInBounds_toArray, List.set_cons_zero, List.set_cons_succ, i64_w, i32_w]
            rfl
          refine take_ (i := 1) (N := some 23) (v := ?_) (a' := ?_) #[true, true, true, false, true, false, false, false, false, false, false, false, false, false, false, false, false] rfl rfl (take_ofW HT_.out HW_.out (by kernel_rfl)) (fun _ _ _ h => h) (Or.inl ⟨by rfl, ?_⟩) hHeld ?_ ?_
          rotate_left
          · rintro w' ⟨s0, s1, s2, s3, s4⟩
            go_simp
            with_reducible rfl
          rotate_left
          · simp only [Act.put, List.setIfInBounds_toArray, List.set_cons_zero, List.set_cons_succ, i64_w, i32_w]
            rfl
          refine take_ (i := 3) (N := some 25) (v := ?_) (a' := ?_) #[true, true, true, true, true, false, false, false, false, false, false, false, false, false, false, false, false] rfl rfl (take_ofW HT_.out HW_.out (by kernel_rfl)) (fun _ _ _ h => h) (Or.inl ⟨by rfl, ?_⟩) hHeld ?_ ?_
          rotate_left
          · rintro w' ⟨s0, s1, s2, s3, s4⟩
            go_simp
            with_reducible rfl
          rotate_left
          · simp only [Act.put, List.setIfInBounds_toArray, List.set_cons_zero, List.set_cons_succ, i64_w, i32_w]
            rfl
          refine take_ (i := 5) (N := some 27) (v := ?_) (a' := ?_) #[true, true, true, true, true, true, false, false, false, false, false, false, false, false, false, false, false] rfl rfl (take_ofW HT_.out HW_.out (by kernel_rfl)) (fun _ _ _ h => h) (Or.inl ⟨by rfl, ?_⟩) hHeld ?_ ?_
          rotate_left
          · rintro w' ⟨s0, s1, s2, s3, s4⟩
            go_simp
            with_reducible rfl
          rotate_left
          · simp only [Act.put, List.setIfInBounds_toArray, List.set_cons_zero, List.set_cons_succ, i64_w, i32_w]
            rfl
          refine pure_ (i := 6) (N := some 28) (v := ?_) (a' := ?_) #[true, true, true, true, true, true, true, false, false, false, false, false, false, false, false, false, false] rfl rfl (any_of HT_.out (by kernel_rfl)) (fun _ _ _ h => h) (Or.inl ⟨by rfl, ?_⟩) ?_ ?_
          rotate_left
          · intro w'
            go_simp
            with_reducible rfl
          rotate_left
          · simp only [Act.put, List.setIfInBounds_toArray, List.set_cons_zero, List.set_cons_succ, i64_w, i32_w]
            rfl
          refine pure_ (i := 7) (N := some 29) (v := ?_) (a' := ?_) #[true, true, true, true, true, true, true, true, false, false, false, false, false, false, false, false, false] rfl rfl (any_of HT_.out (by kernel_rfl)) (fun _ _ _ h => h) (Or.inl ⟨by rfl, ?_⟩) ?_ ?_
          rotate_left
          · intro w'
            go_simp
            with_reducible rfl
          rotate_left
          · simp only [Act.put, List.setIfInBounds_toArray, List.set_cons_zero, List.set_cons_succ, i64_w, i32_w]
            rfl
          refine pure_ (i := 8) (N := some 30) (v := ?_) (a' := ?_) #[true, true, true, true, true, true, true, true, true, false, false, false, false, false, false, false, false] rfl rfl (any_of HT_.out (by kernel_rfl)) (fun _ _ _ h => h) (Or.inl ⟨by rfl, ?_⟩) ?_ ?_
          rotate_left
          · intro w'
            go_simp
            with_reducible rfl
          rotate_left
          · simp only [Act.put, List.setIfInBounds_toArray, List.set_cons_zero, List.set_cons_succ, i64_w, i32_w]
            rfl
          refine take_ (i := 10) (N := some 32) (v := ?_) (a' := ?_) #[true, true, true, true, true, true, true, true, true, false, true, false, false, false, false, false, false] rfl rfl (take_ofW HT_.out HW_.out (by kernel_rfl)) (fun _ _ _ h => h) (Or.inl ⟨by rfl, ?_⟩) hHeld ?_ ?_
          rotate_left
          · rintro w' ⟨s0, s1, s2, s3, s4⟩
            go_simp
            with_reducible rfl
          rotate_left
          · simp only [Act.put, List.setIfInBounds_toArray, List.set_cons_zero, List.set_cons_succ, i64_w, i32_w]
            rfl
          refine join_ (σ := Value × Value × Value × Value × Nat) 1 #[true, true, true, true, true, true, true, true, true, true, true, true, true, true, true, true, false] (fun s_ => [(31, s_.1), (33, s_.2.1), (34, s_.2.2.1), (36, .agg #[.int .i64 t464, s_.2.2.2.1]), (10, .pointer (some ⟨s_.2.2.2.2, 0, none⟩)), (35, .agg #[.int .i64 a0_0, s_.2.2.1])]) (fun s_ w' => (w'.cell? ⟨gb440, 0, none⟩ = some (.int .i64 a0_0) ∧ w'.cell? ⟨gb440, 1, none⟩ = some (.slice A0_1 l0_1.length c0_1) ∧ w'.cell? ⟨gb441, 0, none⟩ = some (.int .i64 a2_0) ∧ w'.cell? ⟨gb441, 1, none⟩ = some (.int .i64 a2_1) ∧ w'.cell? ⟨gb441, 2, none⟩ = some (.int .i64 a2_2)) ∧ (Kd.R k41 41 w' w.heap.size (fun k_ => some k_ ≠ (s_.2.1 : Value).ownBlock ∧ some k_ ≠ (s_.2.2.1 : Value).ownBlock ∧ some k_ ≠ (s_.2.2.2.1 : Value).ownBlock ∧ k_ ≠ gb441) (.slice Ao25 t444.length co25) t444) ∧ (Kd.R (Kd.int .i64) 3 w' w.heap.size (fun _ => True) v449 t448) ∧ (Kd.R k41 41 w' w.heap.size (fun k_ => some k_ ≠ (.slice Ao25 t444.length co25 : Value).ownBlock ∧ some k_ ≠ (s_.2.2.1 : Value).ownBlock ∧ some k_ ≠ (s_.2.2.2.1 : Value).ownBlock ∧ k_ ≠ gb441) s_.2.1 y458) ∧ (Kd.R k41 41 w' w.heap.size (fun k_ => some k_ ≠ (.slice Ao25 t444.length co25 : Value).ownBlock ∧ some k_ ≠ (s_.2.1 : Value).ownBlock ∧ some k_ ≠ (s_.2.2.2.1 : Value).ownBlock ∧ k_ ≠ gb441) s_.2.2.1 y461) ∧ (Kd.R k41 41 w' w.heap.size (fun k_ => some k_ ≠ (.slice Ao25 t444.length co25 : Value).ownBlock ∧ some k_ ≠ (s_.2.1 : Value).ownBlock ∧ some k_ ≠ (s_.2.2.1 : Value).ownBlock ∧ k_ ≠ gb441) s_.2.2.2.1 t465) ∧ (w'.heap[gb440]? = some (.cells #[.int .i64 a0_0, .slice A0_1 l0_1.length c0_1] 24 (0, 0))) ∧ (w'.heap[gb441]? = some (.cells #[.int .i64 a2_0, .int .i64 a2_1, .int .i64 a2_2] 41 (0, 0))) ∧ (w'.heap[gb447]? = some (.cells #[.int .i64 t443, .slice Ao25 t444.length co25] 24 (0, 0))) ∧ (w'.heap[s_.2.2.2.2]? = some (.cells #[.int .i64 0, .slice none 0 0] 24 (0, 0))) ∧ (w.heap.size ≤ s_.2.2.2.2) ∧ (w.heap.size ≤ s_.2.2.2.2) ∧ (gb440 ≠ s_.2.2.2.2) ∧ (s_.2.2.2.2 ≠ gb440) ∧ (gb441 ≠ s_.2.2.2.2) ∧ (s_.2.2.2.2 ≠ gb441) ∧ (gb447 ≠ s_.2.2.2.2) ∧ (s_.2.2.2.2 ≠ gb447) ∧ (Below w.heap.size w w')) ?_ ?_
          rotate_left
          · intro hJ9_11_12_14_15
            refine join_ (σ := Value × Value × Value × Value) 2 #[true, true, true, true, true, true, true, true, true, true, true, true, true, true, true, false, false] (fun s_ => [(31, s_.1), (33, s_.2.1), (34, s_.2.2.1), (36, .agg #[.int .i64 t464, s_.2.2.2]), (35, .agg #[.int .i64 a0_0, s_.2.2.1])]) (fun s_ w' => (w'.cell? ⟨gb440, 0, none⟩ = some (.int .i64 a0_0) ∧ w'.cell? ⟨gb440, 1, none⟩ = some (.slice A0_1 l0_1.length c0_1) ∧ w'.cell? ⟨gb441, 0, none⟩ = some (.int .i64 a2_0) ∧ w'.cell? ⟨gb441, 1, none⟩ = some (.int .i64 a2_1) ∧ w'.cell? ⟨gb441, 2, none⟩ = some (.int .i64 a2_2)) ∧ (Kd.R k41 41 w' w.heap.size (fun k_ => some k_ ≠ (s_.2.1 : Value).ownBlock ∧ some k_ ≠ (s_.2.2.1 : Value).ownBlock ∧ some k_ ≠ (s_.2.2.2 : Value).ownBlock ∧ k_ ≠ gb441) (.slice Ao25 t444.length co25) t444) ∧ (Kd.R (Kd.int .i64) 3 w' w.heap.size (fun _ => True) v449 t448) ∧ (Kd.R k41 41 w' w.heap.size (fun k_ => some k_ ≠ (.slice Ao25 t444.length co25 : Value).ownBlock ∧ some k_ ≠ (s_.2.2.1 : Value).ownBlock ∧ some k_ ≠ (s_.2.2.2 : Value).ownBlock ∧ k_ ≠ gb441) s_.2.1 y458) ∧ (Kd.R k41 41 w' w.heap.size (fun k_ => some k_ ≠ (.slice Ao25 t444.length co25 : Value).ownBlock ∧ some k_ ≠ (s_.2.1 : Value).ownBlock ∧ some k_ ≠ (s_.2.2.2 : Value).ownBlock ∧ k_ ≠ gb441) s_.2.2.1 y461) ∧ (Kd.R k41 41 w' w.heap.size (fun k_ => some k_ ≠ (.slice Ao25 t444.length co25 : Value).ownBlock ∧ some k_ ≠ (s_.2.1 : Value).ownBlock ∧ some k_ ≠ (s_.2.2.1 : Value).ownBlock ∧ k_ ≠ gb441) s_.2.2.2 t465) ∧ (w'.heap[gb440]? = some (.cells #[.int .i64 a0_0, .slice A0_1 l0_1.length c0_1] 24 (0, 0))) ∧ (w'.heap[gb441]? = some (.cells #[.int .i64 a2_0, .int .i64 a2_1, .int .i64 a2_2] 41 (0, 0))) ∧ (w'.heap[gb447]? = some (.cells #[.int .i64 t443, .slice Ao25 t444.length co25] 24 (0, 0))) ∧ (Below w.heap.size w w')) ?_ ?_
            rotate_left
            · intro hJ9_11_12_14
              refine join_ (σ := Value × Value × Value × Nat) 2 #[true, true, true, true, true, true, true, true, true, true, true, true, true, true, false, true, false] (fun s_ => [(31, s_.1), (33, s_.2.1), (34, s_.2.2.1), (10, .pointer (some ⟨s_.2.2.2, 0, none⟩)), (35, .agg #[.int .i64 a0_0, s_.2.2.1])]) (fun s_ w' => (w'.cell? ⟨gb440, 0, none⟩ = some (.int .i64 a0_0) ∧ w'.cell? ⟨gb440, 1, none⟩ = some (.slice A0_1 l0_1.length c0_1) ∧ w'.cell? ⟨gb441, 0, none⟩ = some (.int .i64 a2_0) ∧ w'.cell? ⟨gb441, 1, none⟩ = some (.int .i64 a2_1) ∧ w'.cell? ⟨gb441, 2, none⟩ = some (.int .i64 a2_2)) ∧ (Kd.R k41 41 w' w.heap.size (fun k_ => some k_ ≠ (s_.2.1 : Value).ownBlock ∧ some k_ ≠ (s_.2.2.1 : Value).ownBlock ∧ k_ ≠ gb441) (.slice Ao25 t444.length co25) t444) ∧ (Kd.R (Kd.int .i64) 3 w' w.heap.size (fun _ => True) v449 t448) ∧ (Kd.R k41 41 w' w.heap.size (fun k_ => some k_ ≠ (.slice Ao25 t444.length co25 : Value).ownBlock ∧ some k_ ≠ (s_.2.2.1 : Value).ownBlock ∧ k_ ≠ gb441) s_.2.1 y458) ∧ (Kd.R k41 41 w' w.heap.size (fun k_ => some k_ ≠ (.slice Ao25 t444.length co25 : Value).ownBlock ∧ some k_ ≠ (s_.2.1 : Value).ownBlock ∧ k_ ≠ gb441) s_.2.2.1 y461) ∧ (w'.heap[gb440]? = some (.cells #[.int .i64 a0_0, .slice A0_1 l0_1.length c0_1] 24 (0, 0))) ∧ (w'.heap[gb441]? = some (.cells #[.int .i64 a2_0, .int .i64 a2_1, .int .i64 a2_2] 41 (0, 0))) ∧ (w'.heap[gb447]? = some (.cells #[.int .i64 t443, .slice Ao25 t444.length co25] 24 (0, 0))) ∧ (w'.heap[s_.2.2.2]? = some (.cells #[.int .i64 0, .slice none 0 0] 24 (0, 0))) ∧ (w.heap.size ≤ s_.2.2.2) ∧ (w.heap.size ≤ s_.2.2.2) ∧ (gb440 ≠ s_.2.2.2) ∧ (s_.2.2.2 ≠ gb440) ∧ (gb441 ≠ s_.2.2.2) ∧ (s_.2.2.2 ≠ gb441) ∧ (gb447 ≠ s_.2.2.2) ∧ (s_.2.2.2 ≠ gb447) ∧ (Below w.heap.size w w')) ?_ ?_
              rotate_left
              · intro hJ9_11_12_15
                refine join_ (σ := Value × Value × Value) 3 #[true, true, true, true, true, true, true, true, true, true, true, true, true, true, false, false, false] (fun s_ => [(31, s_.1), (33, s_.2.1), (34, s_.2.2), (35, .agg #[.int .i64 a0_0, s_.2.2])]) (fun s_ w' => (w'.cell? ⟨gb440, 0, none⟩ = some (.int .i64 a0_0) ∧ w'.cell? ⟨gb440, 1, none⟩ = some (.slice A0_1 l0_1.length c0_1) ∧ w'.cell? ⟨gb441, 0, none⟩ = some (.int .i64 a2_0) ∧ w'.cell? ⟨gb441, 1, none⟩ = some (.int .i64 a2_1) ∧ w'.cell? ⟨gb441, 2, none⟩ = some (.int .i64 a2_2)) ∧ (Kd.R k41 41 w' w.heap.size (fun k_ => some k_ ≠ (s_.2.1 : Value).ownBlock ∧ some k_ ≠ (s_.2.2 : Value).ownBlock ∧ k_ ≠ gb441) (.slice Ao25 t444.length co25) t444) ∧ (Kd.R (Kd.int .i64) 3 w' w.heap.size (fun _ => True) v449 t448) ∧ (Kd.R k41 41 w' w.heap.size (fun k_ => some k_ ≠ (.slice Ao25 t444.length co25 : Value).ownBlock ∧ some k_ ≠ (s_.2.2 : Value).ownBlock ∧ k_ ≠ gb441) s_.2.1 y458) ∧ (Kd.R k41 41 w' w.heap.size (fun k_ => some k_ ≠ (.slice Ao25 t444.length co25 : Value).ownBlock ∧ some k_ ≠ (s_.2.1 : Value).ownBlock ∧ k_ ≠ gb441) s_.2.2 y461) ∧ (w'.heap[gb440]? = some (.cells #[.int .i64 a0_0, .slice A0_1 l0_1.length c0_1] 24 (0, 0))) ∧ (w'.heap[gb441]? = some (.cells #[.int .i64 a2_0, .int .i64 a2_1, .int .i64 a2_2] 41 (0, 0))) ∧ (w'.heap[gb447]? = some (.cells #[.int .i64 t443, .slice Ao25 t444.length co25] 24 (0, 0))) ∧ (Below w.heap.size w w')) ?_ ?_
                rotate_left
                · intro hJ9_11_12
                  refine join_ (σ := Value × Value × Nat) 4 #[true, true, true, true, true, true, true, true, true, true, true, true, false, false, false, true, false] (fun s_ => [(31, s_.1), (33, s_.2.1), (10, .pointer (some ⟨s_.2.2, 0, none⟩))]) (fun s_ w' => (w'.cell? ⟨gb440, 0, none⟩ = some (.int .i64 a0_0) ∧ w'.cell? ⟨gb440, 1, none⟩ = some (.slice A0_1 l0_1.length c0_1) ∧ w'.cell? ⟨gb441, 0, none⟩ = some (.int .i64 a2_0) ∧ w'.cell? ⟨gb441, 1, none⟩ = some (.int .i64 a2_1) ∧ w'.cell? ⟨gb441, 2, none⟩ = some (.int .i64 a2_2)) ∧ (Kd.R k41 41 w' w.heap.size (fun k_ => some k_ ≠ (s_.1 : Value).ownBlock ∧ some k_ ≠ (s_.2.1 : Value).ownBlock ∧ k_ ≠ gb441) (.slice Ao25 t444.length co25) t444) ∧ (Kd.R (Kd.int .i64) 3 w' w.heap.size (fun _ => True) v449 t448) ∧ (Kd.R k41 41 w' w.heap.size (fun k_ => some k_ ≠ (.slice Ao25 t444.length co25 : Value).ownBlock ∧ some k_ ≠ (s_.2.1 : Value).ownBlock ∧ k_ ≠ gb441) s_.1 y455) ∧ (Kd.R k41 41 w' w.heap.size (fun k_ => some k_ ≠ (.slice Ao25 t444.length co25 : Value).ownBlock ∧ some k_ ≠ (s_.1 : Value).ownBlock ∧ k_ ≠ gb441) s_.2.1 y458) ∧ (w'.heap[gb440]? = some (.cells #[.int .i64 a0_0, .slice A0_1 l0_1.length c0_1] 24 (0, 0))) ∧ (w'.heap[gb441]? = some (.cells #[.int .i64 a2_0, .int .i64 a2_1, .int .i64 a2_2] 41 (0, 0))) ∧ (w'.heap[gb447]? = some (.cells #[.int .i64 t443, .slice Ao25 t444.length co25] 24 (0, 0))) ∧ (w'.heap[s_.2.2]? = some (.cells #[.int .i64 0, .slice none 0 0] 24 (0, 0))) ∧ (w.heap.size ≤ s_.2.2) ∧ (w.heap.size ≤ s_.2.2) ∧ (gb440 ≠ s_.2.2) ∧ (s_.2.2 ≠ gb440) ∧ (gb441 ≠ s_.2.2) ∧ (s_.2.2 ≠ gb441) ∧ (gb447 ≠ s_.2.2) ∧ (s_.2.2 ≠ gb447) ∧ (Below w.heap.size w w')) ?_ ?_
                  rotate_left
                  · intro hJ9_11_15
                    refine join_ (σ := Value × Value) 5 #[true, true, true, true, true, true, true, true, true, true, true, true, false, false, false, false, false] (fun s_ => [(31, s_.1), (33, s_.2)]) (fun s_ w' => (w'.cell? ⟨gb440, 0, none⟩ = some (.int .i64 a0_0) ∧ w'.cell? ⟨gb440, 1, none⟩ = some (.slice A0_1 l0_1.length c0_1) ∧ w'.cell? ⟨gb441, 0, none⟩ = some (.int .i64 a2_0) ∧ w'.cell? ⟨gb441, 1, none⟩ = some (.int .i64 a2_1) ∧ w'.cell? ⟨gb441, 2, none⟩ = some (.int .i64 a2_2)) ∧ (Kd.R k41 41 w' w.heap.size (fun k_ => some k_ ≠ (s_.1 : Value).ownBlock ∧ some k_ ≠ (s_.2 : Value).ownBlock ∧ k_ ≠ gb441) (.slice Ao25 t444.length co25) t444) ∧ (Kd.R (Kd.int .i64) 3 w' w.heap.size (fun _ => True) v449 t448) ∧ (Kd.R k41 41 w' w.heap.size (fun k_ => some k_ ≠ (.slice Ao25 t444.length co25 : Value).ownBlock ∧ some k_ ≠ (s_.2 : Value).ownBlock ∧ k_ ≠ gb441) s_.1 y455) ∧ (Kd.R k41 41 w' w.heap.size (fun k_ => some k_ ≠ (.slice Ao25 t444.length co25 : Value).ownBlock ∧ some k_ ≠ (s_.1 : Value).ownBlock ∧ k_ ≠ gb441) s_.2 y458) ∧ (w'.heap[gb440]? = some (.cells #[.int .i64 a0_0, .slice A0_1 l0_1.length c0_1] 24 (0, 0))) ∧ (w'.heap[gb441]? = some (.cells #[.int .i64 a2_0, .int .i64 a2_1, .int .i64 a2_2] 41 (0, 0))) ∧ (w'.heap[gb447]? = some (.cells #[.int .i64 t443, .slice Ao25 t444.length co25] 24 (0, 0))) ∧ (Below w.heap.size w w')) ?_ ?_
                    rotate_left
                    · intro hJ9_11
                      refine join_ (σ := Value × Nat) 5 #[true, true, true, true, true, true, true, true, true, true, true, false, false, false, false, true, false] (fun s_ => [(31, s_.1), (10, .pointer (some ⟨s_.2, 0, none⟩))]) (fun s_ w' => (w'.cell? ⟨gb440, 0, none⟩ = some (.int .i64 a0_0) ∧ w'.cell? ⟨gb440, 1, none⟩ = some (.slice A0_1 l0_1.length c0_1) ∧ w'.cell? ⟨gb441, 0, none⟩ = some (.int .i64 a2_0) ∧ w'.cell? ⟨gb441, 1, none⟩ = some (.int .i64 a2_1) ∧ w'.cell? ⟨gb441, 2, none⟩ = some (.int .i64 a2_2)) ∧ (Kd.R k41 41 w' w.heap.size (fun k_ => some k_ ≠ (s_.1 : Value).ownBlock ∧ k_ ≠ gb441) (.slice Ao25 t444.length co25) t444) ∧ (Kd.R (Kd.int .i64) 3 w' w.heap.size (fun _ => True) v449 t448) ∧ (Kd.R k41 41 w' w.heap.size (fun k_ => some k_ ≠ (.slice Ao25 t444.length co25 : Value).ownBlock ∧ k_ ≠ gb441) s_.1 y455) ∧ (w'.heap[gb440]? = some (.cells #[.int .i64 a0_0, .slice A0_1 l0_1.length c0_1] 24 (0, 0))) ∧ (w'.heap[gb441]? = some (.cells #[.int .i64 a2_0, .int .i64 a2_1, .int .i64 a2_2] 41 (0, 0))) ∧ (w'.heap[gb447]? = some (.cells #[.int .i64 t443, .slice Ao25 t444.length co25] 24 (0, 0))) ∧ (w'.heap[s_.2]? = some (.cells #[.int .i64 0, .slice none 0 0] 24 (0, 0))) ∧ (w.heap.size ≤ s_.2) ∧ (w.heap.size ≤ s_.2) ∧ (gb440 ≠ s_.2) ∧ (s_.2 ≠ gb440) ∧ (gb441 ≠ s_.2) ∧ (s_.2 ≠ gb441) ∧ (gb447 ≠ s_.2) ∧ (s_.2 ≠ gb447) ∧ (Below w.heap.size w w')) ?_ ?_
                      rotate_left
                      · intro hJ9_15
                        refine join_ (σ := Value × Nat) 5 #[true, true, true, true, true, true, true, true, true, false, true, true, false, false, false, true, false] (fun s_ => [(33, s_.1), (10, .pointer (some ⟨s_.2, 0, none⟩))]) (fun s_ w' => (w'.cell? ⟨gb440, 0, none⟩ = some (.int .i64 a0_0) ∧ w'.cell? ⟨gb440, 1, none⟩ = some (.slice A0_1 l0_1.length c0_1) ∧ w'.cell? ⟨gb441, 0, none⟩ = some (.int .i64 a2_0) ∧ w'.cell? ⟨gb441, 1, none⟩ = some (.int .i64 a2_1) ∧ w'.cell? ⟨gb441, 2, none⟩ = some (.int .i64 a2_2)) ∧ (Kd.R k41 41 w' w.heap.size (fun k_ => some k_ ≠ (s_.1 : Value).ownBlock ∧ k_ ≠ gb441) (.slice Ao25 t444.length co25) t444) ∧ (Kd.R (Kd.int .i64) 3 w' w.heap.size (fun _ => True) v449 t448) ∧ (Kd.R k41 41 w' w.heap.size (fun k_ => some k_ ≠ (.slice Ao25 t444.length co25 : Value).ownBlock ∧ k_ ≠ gb441) s_.1 y458) ∧ (w'.heap[gb440]? = some (.cells #[.int .i64 a0_0, .slice A0_1 l0_1.length c0_1] 24 (0, 0))) ∧ (w'.heap[gb441]? = some (.cells #[.int .i64 a2_0, .int .i64 a2_1, .int .i64 a2_2] 41 (0, 0))) ∧ (w'.heap[gb447]? = some (.cells #[.int .i64 t443, .slice Ao25 t444.length co25] 24 (0, 0))) ∧ (w'.heap[s_.2]? = some (.cells #[.int .i64 0, .slice none 0 0] 24 (0, 0))) ∧ (w.heap.size ≤ s_.2) ∧ (w.heap.size ≤ s_.2) ∧ (gb440 ≠ s_.2) ∧ (s_.2 ≠ gb440) ∧ (gb441 ≠ s_.2) ∧ (s_.2 ≠ gb441) ∧ (gb447 ≠ s_.2) ∧ (s_.2 ≠ gb447) ∧ (Below w.heap.size w w')) ?_ ?_
                        rotate_left
                        · intro hJ11_15
                          refine join_ (σ := Value) 6 #[true, true, true, true, true, true, true, true, true, true, true, false, false, false, false, false, false] (fun s_ => [(31, s_)]) (fun s_ w' => (w'.cell? ⟨gb440, 0, none⟩ = some (.int .i64 a0_0) ∧ w'.cell? ⟨gb440, 1, none⟩ = some (.slice A0_1 l0_1.length c0_1) ∧ w'.cell? ⟨gb441, 0, none⟩ = some (.int .i64 a2_0) ∧ w'.cell? ⟨gb441, 1, none⟩ = some (.int .i64 a2_1) ∧ w'.cell? ⟨gb441, 2, none⟩ = some (.int .i64 a2_2)) ∧ (Kd.R k41 41 w' w.heap.size (fun k_ => some k_ ≠ (s_ : Value).ownBlock ∧ k_ ≠ gb441) (.slice Ao25 t444.length co25) t444) ∧ (Kd.R (Kd.int .i64) 3 w' w.heap.size (fun _ => True) v449 t448) ∧ (Kd.R k41 41 w' w.heap.size (fun k_ => some k_ ≠ (.slice Ao25 t444.length co25 : Value).ownBlock ∧ k_ ≠ gb441) s_ y455) ∧ (w'.heap[gb440]? = some (.cells #[.int .i64 a0_0, .slice A0_1 l0_1.length c0_1] 24 (0, 0))) ∧ (w'.heap[gb441]? = some (.cells #[.int .i64 a2_0, .int .i64 a2_1, .int .i64 a2_2] 41 (0, 0))) ∧ (w'.heap[gb447]? = some (.cells #[.int .i64 t443, .slice Ao25 t444.length co25] 24 (0, 0))) ∧ (Below w.heap.size w w')) ?_ ?_
                          rotate_left
                          · intro hJ9
                            refine join_ (σ := Value) 6 #[true, true, true, true, true, true, true, true, true, false, true, true, false, false, false, false, false] (fun s_ => [(33, s_)]) (fun s_ w' => (w'.cell? ⟨gb440, 0, none⟩ = some (.int .i64 a0_0) ∧ w'.cell? ⟨gb440, 1, none⟩ = some (.slice A0_1 l0_1.length c0_1) ∧ w'.cell? ⟨gb441, 0, none⟩ = some (.int .i64 a2_0) ∧ w'.cell? ⟨gb441, 1, none⟩ = some (.int .i64 a2_1) ∧ w'.cell? ⟨gb441, 2, none⟩ = some (.int .i64 a2_2)) ∧ (Kd.R k41 41 w' w.heap.size (fun k_ => some k_ ≠ (s_ : Value).ownBlock ∧ k_ ≠ gb441) (.slice Ao25 t444.length co25) t444) ∧ (Kd.R (Kd.int .i64) 3 w' w.heap.size (fun _ => True) v449 t448) ∧ (Kd.R k41 41 w' w.heap.size (fun k_ => some k_ ≠ (.slice Ao25 t444.length co25 : Value).ownBlock ∧ k_ ≠ gb441) s_ y458) ∧ (w'.heap[gb440]? = some (.cells #[.int .i64 a0_0, .slice A0_1 l0_1.length c0_1] 24 (0, 0))) ∧ (w'.heap[gb441]? = some (.cells #[.int .i64 a2_0, .int .i64 a2_1, .int .i64 a2_2] 41 (0, 0))) ∧ (w'.heap[gb447]? = some (.cells #[.int .i64 t443, .slice Ao25 t444.length co25] 24 (0, 0))) ∧ (Below w.heap.size w w')) ?_ ?_
                            rotate_left
                            · intro hJ11
                              refine join_ (σ := Nat) 6 #[true, true, true, true, true, true, true, true, true, false, true, false, false, false, false, true, false] (fun s_ => [(10, .pointer (some ⟨s_, 0, none⟩))]) (fun s_ w' => (w'.cell? ⟨gb440, 0, none⟩ = some (.int .i64 a0_0) ∧ w'.cell? ⟨gb440, 1, none⟩ = some (.slice A0_1 l0_1.length c0_1) ∧ w'.cell? ⟨gb441, 0, none⟩ = some (.int .i64 a2_0) ∧ w'.cell? ⟨gb441, 1, none⟩ = some (.int .i64 a2_1) ∧ w'.cell? ⟨gb441, 2, none⟩ = some (.int .i64 a2_2)) ∧ (Kd.R k41 41 w' w.heap.size (fun k_ => k_ ≠ gb441) (.slice Ao25 t444.length co25) t444) ∧ (Kd.R (Kd.int .i64) 3 w' w.heap.size (fun _ => True) v449 t448) ∧ (w'.heap[gb440]? = some (.cells #[.int .i64 a0_0, .slice A0_1 l0_1.length c0_1] 24 (0, 0))) ∧ (w'.heap[gb441]? = some (.cells #[.int .i64 a2_0, .int .i64 a2_1, .int .i64 a2_2] 41 (0, 0))) ∧ (w'.heap[gb447]? = some (.cells #[.int .i64 t443, .slice Ao25 t444.length co25] 24 (0, 0))) ∧ (w'.heap[s_]? = some (.cells #[.int .i64 0, .slice none 0 0] 24 (0, 0))) ∧ (w.heap.size ≤ s_) ∧ (w.heap.size ≤ s_) ∧ (gb440 ≠ s_) ∧ (s_ ≠ gb440) ∧ (gb441 ≠ s_) ∧ (s_ ≠ gb441) ∧ (gb447 ≠ s_) ∧ (s_ ≠ gb447) ∧ (Below w.heap.size w w')) ?_ ?_
                              rotate_left
                              · intro hJ15
                                refine three_ (i := 9) (j := 11) (k := 15) (Ni := some 31) (Nj := some 33) (Nk := some 10) #[true, true, true, true, true, true, true, true, true, true, true, false, false, false, false, false, false] #[true, true, true, true, true, true, true, true, true, false, true, true, false, false, false, false, false] #[true, true, true, true, true, true, true, true, true, false, true, false, false, false, false, true, false] rfl rfl rfl rfl rfl rfl (three_of HT_.out (by kernel_rfl)) (by decide) (by decide) (by decide) (fun K hK => ?_) (fun K hK => ?_) (fun K hK => ?_)
                                · skip
                                  refine Kd.R_append_rows_step k41 (w0 := w) w.heap.size (by rfl) (.const (.slice none 0 0)) (.tmp 30) 22 41 (.agg #[(.int .i64 0), (.int .i64 0), (.int .i64 0)]) 24 rfl Try.underlying22 info41 rfl (by decide) (by omega) (.slice none 0 0) ([] : List (S41)) y451 _ _ _ (fun k_ => some k_ ≠ (.slice Ao25 t444.length co25 : Value).ownBlock ∧ k_ ≠ gb441) (fun _ => False) rfl rfl ?aO ?aR (fun _ _ h => h) (fun _ h => h.elim) ?aF ?aB ?aS ?aL ?_
                                  (case aR => repeat (first | exact (Kd.C_below HR454.out HB.out) | (with_reducible refine Kd.C_alloc ?_ _) | (with_reducible refine Kd.C_drewN ?_ _) | (with_reducible refine Kd.C_drew ?_)))
                                  (case aB => exact (by repeat (first | (with_reducible first | exact HB.out | apply below_alloc | apply pw_below_drewN | apply below_drew1 | refine below_set ?_ GE440.out | refine below_set ?_ GE441.out | refine below_set ?_ GE447.out) | exact HB.out)))
                                  (case aF => exact (fun k_ hk => ⟨Kd.fresh' (Kd.R_lt (by (with_reducible repeat (first | apply Kd.R_alloc | apply Kd.R_drewN | apply Kd.R_drew)); exact HO446.out)) k_ hk, Kd.freshB (g := gb441) (o := .cells #[.int .i64 a2_0, .int .i64 a2_1, .int .i64 a2_2] 41 (0, 0)) (by (with_reducible repeat (first | refine blk_drewN ?_ _ | refine blk_drew ?_ | refine blk_alloc ?_ _)); exact BK441.out) k_ hk⟩))
                                  (case aO => exact ((Kd.R_nil _ _ _ _ (fun k_ => some k_ ≠ (.slice Ao25 t444.length co25 : Value).ownBlock ∧ k_ ≠ gb441))))
                                  (case aS => exact (below_size (by repeat (first | (with_reducible first | exact HB.out | apply below_alloc | apply pw_below_drewN | apply below_drew1 | refine below_set ?_ GE440.out | refine below_set ?_ GE441.out | refine below_set ?_ GE447.out) | exact HB.out))))
                                  (case aL => have := LMc10.out; omega)
                                  intro v456 w29 ho hb hg hat
                                  rw [← Ny455.out] at ho
                                  have n0_ := Aside0.mk (blk_grown (g := gb440) (o := .cells #[.int .i64 a0_0, .slice A0_1 l0_1.length c0_1] 24 (0, 0)) (by (with_reducible repeat (first | refine blk_drewN ?_ _ | refine blk_drew ?_ | refine blk_alloc ?_ _)); exact BK440.out) hg (by simp [Value.ownBlock]))
                                  have n1_ := Aside0.mk (blk_grown (g := gb441) (o := .cells #[.int .i64 a2_0, .int .i64 a2_1, .int .i64 a2_2] 41 (0, 0)) (by (with_reducible repeat (first | refine blk_drewN ?_ _ | refine blk_drew ?_ | refine blk_alloc ?_ _)); exact BK441.out) hg (by simp [Value.ownBlock]))
                                  have n2_ := Aside0.mk (Kd.R_after (Kd.R_apart_nil (by (with_reducible repeat (first | apply Kd.R_alloc | apply Kd.R_drewN | apply Kd.R_drew)); exact HO446.out)) hg hat)
                                  have n3_ := Aside0.mk (blk_grown (g := gb447) (o := .cells #[.int .i64 t443, .slice Ao25 t444.length co25] 24 (0, 0)) (by (with_reducible repeat (first | refine blk_drewN ?_ _ | refine blk_drew ?_ | refine blk_alloc ?_ _)); exact BK447.out) hg (by simp [Value.ownBlock]))
                                  have n4_ := Aside0.mk (Kd.R_grown (by (with_reducible repeat (first | apply Kd.R_alloc | apply Kd.R_drewN | apply Kd.R_drew)); exact HO450.out) hg (fun _ _ => by simp [Value.ownBlock]))
                                  have n5_ := Aside0.mk (hb)
                                  have n6_ := Aside0.mk (ho)
                                  clear BK440
                                  clear BK441
                                  clear HO446
                                  clear BK447
                                  clear HO450
                                  clear HB
                                  have BK440 := n0_
                                  have BK441 := n1_
                                  have HO446 := n2_
                                  have BK447 := n3_
                                  have HO450 := n4_
                                  have HB := n5_
                                  have HO457 := n6_
                                  clear n0_ n1_ n2_ n3_ n4_ n5_ n6_
                                  clear ho hb hg hat
                                  refine hK.out _ _ ⟨(blk_cell BK440.out 0).trans rfl, (blk_cell BK440.out 1).trans rfl, (blk_cell BK441.out 0).trans rfl, (blk_cell BK441.out 1).trans rfl, (blk_cell BK441.out 2).trans rfl⟩ (fun hHeld => ?_)
                                  clear hK K
                                  refine norm_ (a' := ?_) ?_ ?_
                                  rotate_left
                                  · show Act.put _ (some 31) _ = _
                                    simp only [Act.put, List.setIfInBounds_toArray, List.set_cons_zero, List.set_cons_succ, i64_w, i32_w]
                                    rfl
                                  exact norm_ (by first | (simp only [putAll, Act.put, List.setIfInBounds_toArray, List.set_cons_zero, List.set_cons_succ]; done) | (simp only [putAll, Act.put, List.setIfInBounds_toArray, List.set_cons_zero, List.set_cons_succ]; rfl)) (hJ9 (v456) _ ⟨hHeld, (by (with_reducible repeat (first | apply Kd.R_alloc | apply Kd.R_drewN | apply Kd.R_drew)); exact Kd.R_mono HO446.out (fun _ hk => ⟨hk.2, hk.1.2⟩)), (by (with_reducible repeat (first | apply Kd.R_alloc | apply Kd.R_drewN | apply Kd.R_drew)); exact HO450.out), (by (with_reducible repeat (first | apply Kd.R_alloc | apply Kd.R_drewN | apply Kd.R_drew)); exact HO457.out), (by (with_reducible repeat (first | refine blk_drewN ?_ _ | refine blk_drew ?_ | refine blk_alloc ?_ _)); exact BK440.out), (by (with_reducible repeat (first | refine blk_drewN ?_ _ | refine blk_drew ?_ | refine blk_alloc ?_ _)); exact BK441.out), (by (with_reducible repeat (first | refine blk_drewN ?_ _ | refine blk_drew ?_ | refine blk_alloc ?_ _)); exact BK447.out), (by repeat (first | (with_reducible first | exact HB.out | apply below_alloc | apply pw_below_drewN | apply below_drew1 | refine below_set ?_ GE440.out | refine below_set ?_ GE441.out | refine below_set ?_ GE447.out) | exact HB.out))⟩)
                                · skip
                                  refine Kd.R_lit_step k41 _ 41 ?hg (N := 33) ?hd (xs := ([(⟨a2_0, a2_1, a2_2⟩ : S41)] : List (S41))) (inner := [.int .i64 a2_0, .int .i64 a2_1, .int .i64 a2_2]) (ok := fun _ => True) (okp := fun _ => True) ?hr ?hp (fun _ hk => hk) trivial (Below.refl _ _) (Nat.le_refl _) (by simp) ?_; (case hd => rfl); (case hg => rfl); (case hr => first | (go_simp; done) | (go_simp; rfl)); (case hp => exact (Reps.c3 (show Kd.M k41 _ _ _ (⟨a2_0, a2_1, a2_2⟩ : S41) [.int .i64 a2_0, .int .i64 a2_1, .int .i64 a2_2] from (k41_mkM _ _ _ (⟨a2_0, a2_1, a2_2⟩ : S41) )) (Reps.none _ _)))
                                  intro v459 w29 ho30 hb hg_ hnew_
                                  clear hg_ hnew_
                                  (first | rw [← Ny458.out] at ho30 | (simp only [Int.reduceToNat] at ho30; rw [← Ny458.out] at ho30))
                                  have n0_ := Aside0.mk (Kd.R_elder' (by (with_reducible repeat (first | apply Kd.R_alloc | apply Kd.R_drewN | apply Kd.R_drew)); exact HO446.out) (Kd.R_base ho30) hb)
                                  have n1_ := Aside0.mk (Kd.R_below (by (with_reducible repeat (first | apply Kd.R_alloc | apply Kd.R_drewN | apply Kd.R_drew)); exact HO450.out) hb)
                                  have n2_ := Aside0.mk (Kd.R_lower (Kd.R_newB (Kd.R_new' ho30 (Kd.R_lt (by (with_reducible repeat (first | apply Kd.R_alloc | apply Kd.R_drewN | apply Kd.R_drew)); exact HO446.out))) (g := gb441) (o := .cells #[.int .i64 a2_0, .int .i64 a2_1, .int .i64 a2_2] 41 (0, 0)) (by (with_reducible repeat (first | refine blk_drewN ?_ _ | refine blk_drew ?_ | refine blk_alloc ?_ _)); exact BK441.out)) (below_size (by repeat (first | (with_reducible first | exact HB.out | apply below_alloc | apply pw_below_drewN | apply below_drew1 | refine below_set ?_ GE440.out | refine below_set ?_ GE441.out | refine below_set ?_ GE447.out) | exact HB.out))))
                                  have n3_ := Aside0.mk (blk_below (g := gb440) (o := .cells #[.int .i64 a0_0, .slice A0_1 l0_1.length c0_1] 24 (0, 0)) (by (with_reducible repeat (first | refine blk_drewN ?_ _ | refine blk_drew ?_ | refine blk_alloc ?_ _)); exact BK440.out) hb)
                                  have n4_ := Aside0.mk (blk_below (g := gb441) (o := .cells #[.int .i64 a2_0, .int .i64 a2_1, .int .i64 a2_2] 41 (0, 0)) (by (with_reducible repeat (first | refine blk_drewN ?_ _ | refine blk_drew ?_ | refine blk_alloc ?_ _)); exact BK441.out) hb)
                                  have n5_ := Aside0.mk (blk_below (g := gb447) (o := .cells #[.int .i64 t443, .slice Ao25 t444.length co25] 24 (0, 0)) (by (with_reducible repeat (first | refine blk_drewN ?_ _ | refine blk_drew ?_ | refine blk_alloc ?_ _)); exact BK447.out) hb)
                                  have n6_ := Aside0.mk (below_step (by repeat (first | (with_reducible first | exact HB.out | apply below_alloc | apply pw_below_drewN | apply below_drew1 | refine below_set ?_ GE440.out | refine below_set ?_ GE441.out | refine below_set ?_ GE447.out) | exact HB.out)) hb)
                                  clear HO446
                                  clear HO450
                                  clear BK440
                                  clear BK441
                                  clear BK447
                                  clear HB
                                  have HO446 := n0_
                                  have HO450 := n1_
                                  have HO460 := n2_
                                  have BK440 := n3_
                                  have BK441 := n4_
                                  have BK447 := n5_
                                  have HB := n6_
                                  clear n0_ n1_ n2_ n3_ n4_ n5_ n6_
                                  clear hb ho30
                                  refine hK.out _ _ ⟨(blk_cell BK440.out 0).trans rfl, (blk_cell BK440.out 1).trans rfl, (blk_cell BK441.out 0).trans rfl, (blk_cell BK441.out 1).trans rfl, (blk_cell BK441.out 2).trans rfl⟩ (fun hHeld => ?_)
                                  clear hK K
                                  refine norm_ (a' := ?_) ?_ ?_
                                  rotate_left
                                  · show Act.put _ (some 33) _ = _
                                    simp only [Act.put, List.setIfInBounds_toArray, List.set_cons_zero, List.set_cons_succ, i64_w, i32_w]
                                    rfl
                                  exact norm_ (by first | (simp only [putAll, Act.put, List.setIfInBounds_toArray, List.set_cons_zero, List.set_cons_succ]; done) | (simp only [putAll, Act.put, List.setIfInBounds_toArray, List.set_cons_zero, List.set_cons_succ]; rfl)) (hJ11 (v459) _ ⟨hHeld, (by (with_reducible repeat (first | apply Kd.R_alloc | apply Kd.R_drewN | apply Kd.R_drew)); exact Kd.R_mono HO446.out (fun _ hk => ⟨hk.2, hk.1.2⟩)), (by (with_reducible repeat (first | apply Kd.R_alloc | apply Kd.R_drewN | apply Kd.R_drew)); exact HO450.out), (by (with_reducible repeat (first | apply Kd.R_alloc | apply Kd.R_drewN | apply Kd.R_drew)); exact Kd.R_mono HO460.out (fun _ hk => ⟨hk.1.2, hk.2⟩)), (by (with_reducible repeat (first | refine blk_drewN ?_ _ | refine blk_drew ?_ | refine blk_alloc ?_ _)); exact BK440.out), (by (with_reducible repeat (first | refine blk_drewN ?_ _ | refine blk_drew ?_ | refine blk_alloc ?_ _)); exact BK441.out), (by (with_reducible repeat (first | refine blk_drewN ?_ _ | refine blk_drew ?_ | refine blk_alloc ?_ _)); exact BK447.out), (by repeat (first | (with_reducible first | exact HB.out | apply below_alloc | apply pw_below_drewN | apply below_drew1 | refine below_set ?_ GE440.out | refine below_set ?_ GE441.out | refine below_set ?_ GE447.out) | exact HB.out))⟩)
                                · skip
                                  refine box_step ?hg (N := 10) ?hd (cs := #[.int .i64 0, .slice none 0 0]) (t := 24) ?hr ?_; (case hd => rfl); (case hg => rfl); (case hr => first | (go_simp; done) | (go_simp; rfl))
                                  intro gb468 hg w29 hbox hb
                                  have n0_ := Aside0.mk (Kd.R_below (by (with_reducible repeat (first | apply Kd.R_alloc | apply Kd.R_drewN | apply Kd.R_drew)); exact HO446.out) hb)
                                  have n1_ := Aside0.mk (Kd.R_below (by (with_reducible repeat (first | apply Kd.R_alloc | apply Kd.R_drewN | apply Kd.R_drew)); exact HO450.out) hb)
                                  have n2_ := Aside0.mk (blk_below (g := gb440) (o := .cells #[.int .i64 a0_0, .slice A0_1 l0_1.length c0_1] 24 (0, 0)) (by (with_reducible repeat (first | refine blk_drewN ?_ _ | refine blk_drew ?_ | refine blk_alloc ?_ _)); exact BK440.out) hb)
                                  have n3_ := Aside0.mk (blk_below (g := gb441) (o := .cells #[.int .i64 a2_0, .int .i64 a2_1, .int .i64 a2_2] 41 (0, 0)) (by (with_reducible repeat (first | refine blk_drewN ?_ _ | refine blk_drew ?_ | refine blk_alloc ?_ _)); exact BK441.out) hb)
                                  have n4_ := Aside0.mk (blk_below (g := gb447) (o := .cells #[.int .i64 t443, .slice Ao25 t444.length co25] 24 (0, 0)) (by (with_reducible repeat (first | refine blk_drewN ?_ _ | refine blk_drew ?_ | refine blk_alloc ?_ _)); exact BK447.out) hb)
                                  have n5_ := Aside0.mk (below_step (by repeat (first | (with_reducible first | exact HB.out | apply below_alloc | apply pw_below_drewN | apply below_drew1 | refine below_set ?_ GE440.out | refine below_set ?_ GE441.out | refine below_set ?_ GE447.out) | exact HB.out)) hb)
                                  have n6_ := Aside0.mk (hbox)
                                  have n7_ := Aside0.mk ((by rw [hg]; exact (below_size (by repeat (first | (with_reducible first | exact HB.out | apply below_alloc | apply pw_below_drewN | apply below_drew1 | refine below_set ?_ GE440.out | refine below_set ?_ GE441.out | refine below_set ?_ GE447.out) | exact HB.out))) : w.heap.size ≤ gb468))
                                  have n8_ := Aside0.mk ((by rw [hg]; exact (below_size (by repeat (first | (with_reducible first | exact HB.out | apply below_alloc | apply pw_below_drewN | apply below_drew1 | refine below_set ?_ GE440.out | refine below_set ?_ GE441.out | refine below_set ?_ GE447.out) | exact HB.out))) : w.heap.size ≤ gb468))
                                  have n9_ := Aside0.mk ((by rw [hg]; exact Nat.ne_of_lt (blk_lt (g := gb440) (o := .cells #[.int .i64 a0_0, .slice A0_1 l0_1.length c0_1] 24 (0, 0)) (by (with_reducible repeat (first | refine blk_drewN ?_ _ | refine blk_drew ?_ | refine blk_alloc ?_ _)); exact BK440.out)) : gb440 ≠ gb468))
                                  have n10_ := Aside0.mk ((by rw [hg]; exact Nat.ne_of_gt (blk_lt (g := gb440) (o := .cells #[.int .i64 a0_0, .slice A0_1 l0_1.length c0_1] 24 (0, 0)) (by (with_reducible repeat (first | refine blk_drewN ?_ _ | refine blk_drew ?_ | refine blk_alloc ?_ _)); exact BK440.out)) : gb468 ≠ gb440))
                                  have n11_ := Aside0.mk ((by rw [hg]; exact Nat.ne_of_lt (blk_lt (g := gb441) (o := .cells #[.int .i64 a2_0, .int .i64 a2_1, .int .i64 a2_2] 41 (0, 0)) (by (with_reducible repeat (first | refine blk_drewN ?_ _ | refine blk_drew ?_ | refine blk_alloc ?_ _)); exact BK441.out)) : gb441 ≠ gb468))
                                  have n12_ := Aside0.mk ((by rw [hg]; exact Nat.ne_of_gt (blk_lt (g := gb441) (o := .cells #[.int .i64 a2_0, .int .i64 a2_1, .int .i64 a2_2] 41 (0, 0)) (by (with_reducible repeat (first | refine blk_drewN ?_ _ | refine blk_drew ?_ | refine blk_alloc ?_ _)); exact BK441.out)) : gb468 ≠ gb441))
                                  have n13_ := Aside0.mk ((by rw [hg]; exact Nat.ne_of_lt (blk_lt (g := gb447) (o := .cells #[.int .i64 t443, .slice Ao25 t444.length co25] 24 (0, 0)) (by (with_reducible repeat (first | refine blk_drewN ?_ _ | refine blk_drew ?_ | refine blk_alloc ?_ _)); exact BK447.out)) : gb447 ≠ gb468))
                                  have n14_ := Aside0.mk ((by rw [hg]; exact Nat.ne_of_gt (blk_lt (g := gb447) (o := .cells #[.int .i64 t443, .slice Ao25 t444.length co25] 24 (0, 0)) (by (with_reducible repeat (first | refine blk_drewN ?_ _ | refine blk_drew ?_ | refine blk_alloc ?_ _)); exact BK447.out)) : gb468 ≠ gb447))
                                  clear HO446
                                  clear HO450
                                  clear BK440
                                  clear BK441
                                  clear BK447
                                  clear HB
                                  have HO446 := n0_
                                  have HO450 := n1_
                                  have BK440 := n2_
                                  have BK441 := n3_
                                  have BK447 := n4_
                                  have HB := n5_
                                  have BK468 := n6_
                                  have GW468 := n7_
                                  have GE468 := n8_
                                  have NB440_468 := n9_
                                  have NB468_440 := n10_
                                  have NB441_468 := n11_
                                  have NB468_441 := n12_
                                  have NB447_468 := n13_
                                  have NB468_447 := n14_
                                  clear n0_ n1_ n2_ n3_ n4_ n5_ n6_ n7_ n8_ n9_ n10_ n11_ n12_ n13_ n14_
                                  clear hb hbox hg
                                  refine hK.out _ _ ⟨(blk_cell BK440.out 0).trans rfl, (blk_cell BK440.out 1).trans rfl, (blk_cell BK441.out 0).trans rfl, (blk_cell BK441.out 1).trans rfl, (blk_cell BK441.out 2).trans rfl⟩ (fun hHeld => ?_)
                                  clear hK K
                                  refine norm_ (a' := ?_) ?_ ?_
                                  rotate_left
                                  · show Act.put _ (some 10) _ = _
                                    simp only [Act.put, List.setIfInBounds_toArray, List.set_cons_zero, List.set_cons_succ, i64_w, i32_w]
                                    rfl
                                  exact norm_ (by first | (simp only [putAll, Act.put, List.setIfInBounds_toArray, List.set_cons_zero, List.set_cons_succ]; done) | (simp only [putAll, Act.put, List.setIfInBounds_toArray, List.set_cons_zero, List.set_cons_succ]; rfl)) (hJ15 (gb468) _ ⟨hHeld, (by (with_reducible repeat (first | apply Kd.R_alloc | apply Kd.R_drewN | apply Kd.R_drew)); exact Kd.R_mono HO446.out (fun _ hk => hk.2)), (by (with_reducible repeat (first | apply Kd.R_alloc | apply Kd.R_drewN | apply Kd.R_drew)); exact HO450.out), (by (with_reducible repeat (first | refine blk_drewN ?_ _ | refine blk_drew ?_ | refine blk_alloc ?_ _)); exact BK440.out), (by (with_reducible repeat (first | refine blk_drewN ?_ _ | refine blk_drew ?_ | refine blk_alloc ?_ _)); exact BK441.out), (by (with_reducible repeat (first | refine blk_drewN ?_ _ | refine blk_drew ?_ | refine blk_alloc ?_ _)); exact BK447.out), (by (with_reducible repeat (first | refine blk_drewN ?_ _ | refine blk_drew ?_ | refine blk_alloc ?_ _)); exact BK468.out), GW468.out, GE468.out, NB440_468.out, NB468_440.out, NB441_468.out, NB468_441.out, NB447_468.out, NB468_447.out, (by repeat (first | (with_reducible first | exact HB.out | apply below_alloc | apply pw_below_drewN | apply below_drew1 | refine below_set ?_ GE440.out | refine below_set ?_ GE441.out | refine below_set ?_ GE447.out | refine below_set ?_ GE468.out) | exact HB.out))⟩)
                              · skip
                                rintro gb468 w30 ⟨hS_, h0_, h1_, h2_, h3_, h4_, h5_, h6_, h7_, h8_, h9_, h10_, h11_, h12_, h13_, h14_⟩
                                have n0_ : Aside0 (Kd.R k41 41 w30 w.heap.size (fun k_ => k_ ≠ gb441) (.slice Ao25 t444.length co25) t444) := ⟨h0_⟩
                                have n1_ : Aside0 (Kd.R (Kd.int .i64) 3 w30 w.heap.size (fun _ => True) v449 t448) := ⟨h1_⟩
                                have n2_ : Aside0 (w30.heap[gb440]? = some (.cells #[.int .i64 a0_0, .slice A0_1 l0_1.length c0_1] 24 (0, 0))) := ⟨h2_⟩
                                have n3_ : Aside0 (w30.heap[gb441]? = some (.cells #[.int .i64 a2_0, .int .i64 a2_1, .int .i64 a2_2] 41 (0, 0))) := ⟨h3_⟩
                                have n4_ : Aside0 (w30.heap[gb447]? = some (.cells #[.int .i64 t443, .slice Ao25 t444.length co25] 24 (0, 0))) := ⟨h4_⟩
                                have n5_ : Aside0 (w30.heap[gb468]? = some (.cells #[.int .i64 0, .slice none 0 0] 24 (0, 0))) := ⟨h5_⟩
                                have n6_ : Aside0 (w.heap.size ≤ gb468) := ⟨h6_⟩
                                have n7_ : Aside0 (w.heap.size ≤ gb468) := ⟨h7_⟩
                                have n8_ : Aside0 (gb440 ≠ gb468) := ⟨h8_⟩
                                have n9_ : Aside0 (gb468 ≠ gb440) := ⟨h9_⟩
                                have n10_ : Aside0 (gb441 ≠ gb468) := ⟨h10_⟩
                                have n11_ : Aside0 (gb468 ≠ gb441) := ⟨h11_⟩
                                have n12_ : Aside0 (gb447 ≠ gb468) := ⟨h12_⟩
                                have n13_ : Aside0 (gb468 ≠ gb447) := ⟨h13_⟩
                                have n14_ : Aside0 (Below w.heap.size w w30) := ⟨h14_⟩
                                clear HO446
                                clear HO450
                                clear BK440
                                clear BK441
                                clear BK447
                                clear HB
                                clear h0_ h1_ h2_ h3_ h4_ h5_ h6_ h7_ h8_ h9_ h10_ h11_ h12_ h13_ h14_
                                have HO446 := n0_
                                have HO450 := n1_
                                have BK440 := n2_
                                have BK441 := n3_
                                have BK447 := n4_
                                have BK468 := n5_
                                have GW468 := n6_
                                have GE468 := n7_
                                have NB440_468 := n8_
                                have NB468_440 := n9_
                                have NB441_468 := n10_
                                have NB468_441 := n11_
                                have NB447_468 := n12_
                                have NB468_447 := n13_
                                have HB := n14_
                                clear n0_ n1_ n2_ n3_ n4_ n5_ n6_ n7_ n8_ n9_ n10_ n11_ n12_ n13_ n14_
                                have hHeld : w30.cell? ⟨gb440, 0, none⟩ = some (.int .i64 a0_0) ∧ w30.cell? ⟨gb440, 1, none⟩ = some (.slice A0_1 l0_1.length c0_1) ∧ w30.cell? ⟨gb441, 0, none⟩ = some (.int .i64 a2_0) ∧ w30.cell? ⟨gb441, 1, none⟩ = some (.int .i64 a2_1) ∧ w30.cell? ⟨gb441, 2, none⟩ = some (.int .i64 a2_2) := hS_
                                refine norm_ (a' := ?_) ?_ ?_
                                rotate_left
                                · simp only [putAll, Act.put, List.setIfInBounds_toArray, List.set_cons_zero, List.set_cons_succ]
                                  rfl
                                refine two_ (i := 9) (j := 11) (Ni := some 31) (Nj := some 33) #[true, true, true, true, true, true, true, true, true, true, true, false, false, false, false, true, false] #[true, true, true, true, true, true, true, true, true, false, true, true, false, false, false, true, false] rfl rfl rfl rfl (two_of HT_.out (by kernel_rfl)) (by decide) (by decide) (fun K hK => ?_) (fun K hK => ?_)
                                · skip
                                  refine Kd.R_append_rows_step k41 (w0 := w) w.heap.size (by rfl) (.const (.slice none 0 0)) (.tmp 30) 22 41 (.agg #[(.int .i64 0), (.int .i64 0), (.int .i64 0)]) 24 rfl Try.underlying22 info41 rfl (by decide) (by omega) (.slice none 0 0) ([] : List (S41)) y451 _ _ _ (fun k_ => some k_ ≠ (.slice Ao25 t444.length co25 : Value).ownBlock ∧ k_ ≠ gb441) (fun _ => False) rfl rfl ?aO ?aR (fun _ _ h => h) (fun _ h => h.elim) ?aF ?aB ?aS ?aL ?_
                                  (case aR => repeat (first | exact (Kd.C_below HR454.out HB.out) | (with_reducible refine Kd.C_alloc ?_ _) | (with_reducible refine Kd.C_drewN ?_ _) | (with_reducible refine Kd.C_drew ?_)))
                                  (case aB => exact (by repeat (first | (with_reducible first | exact HB.out | apply below_alloc | apply pw_below_drewN | apply below_drew1 | refine below_set ?_ GE440.out | refine below_set ?_ GE441.out | refine below_set ?_ GE447.out | refine below_set ?_ GE468.out) | exact HB.out)))
                                  (case aF => exact (fun k_ hk => ⟨Kd.fresh' (Kd.R_lt (by (with_reducible repeat (first | apply Kd.R_alloc | apply Kd.R_drewN | apply Kd.R_drew)); exact HO446.out)) k_ hk, Kd.freshB (g := gb441) (o := .cells #[.int .i64 a2_0, .int .i64 a2_1, .int .i64 a2_2] 41 (0, 0)) (by (with_reducible repeat (first | refine blk_drewN ?_ _ | refine blk_drew ?_ | refine blk_alloc ?_ _)); exact BK441.out) k_ hk⟩))
                                  (case aO => exact ((Kd.R_nil _ _ _ _ (fun k_ => some k_ ≠ (.slice Ao25 t444.length co25 : Value).ownBlock ∧ k_ ≠ gb441))))
                                  (case aS => exact (below_size (by repeat (first | (with_reducible first | exact HB.out | apply below_alloc | apply pw_below_drewN | apply below_drew1 | refine below_set ?_ GE440.out | refine below_set ?_ GE441.out | refine below_set ?_ GE447.out | refine below_set ?_ GE468.out) | exact HB.out))))
                                  (case aL => have := LMc10.out; omega)
                                  intro v456 w31 ho hb hg hat
                                  rw [← Ny455.out] at ho
                                  have n0_ := Aside0.mk (blk_grown (g := gb440) (o := .cells #[.int .i64 a0_0, .slice A0_1 l0_1.length c0_1] 24 (0, 0)) (by (with_reducible repeat (first | refine blk_drewN ?_ _ | refine blk_drew ?_ | refine blk_alloc ?_ _)); exact BK440.out) hg (by simp [Value.ownBlock]))
                                  have n1_ := Aside0.mk (blk_grown (g := gb441) (o := .cells #[.int .i64 a2_0, .int .i64 a2_1, .int .i64 a2_2] 41 (0, 0)) (by (with_reducible repeat (first | refine blk_drewN ?_ _ | refine blk_drew ?_ | refine blk_alloc ?_ _)); exact BK441.out) hg (by simp [Value.ownBlock]))
                                  have n2_ := Aside0.mk (Kd.R_after (Kd.R_apart_nil (by (with_reducible repeat (first | apply Kd.R_alloc | apply Kd.R_drewN | apply Kd.R_drew)); exact HO446.out)) hg hat)
                                  have n3_ := Aside0.mk (blk_grown (g := gb447) (o := .cells #[.int .i64 t443, .slice Ao25 t444.length co25] 24 (0, 0)) (by (with_reducible repeat (first | refine blk_drewN ?_ _ | refine blk_drew ?_ | refine blk_alloc ?_ _)); exact BK447.out) hg (by simp [Value.ownBlock]))
                                  have n4_ := Aside0.mk (Kd.R_grown (by (with_reducible repeat (first | apply Kd.R_alloc | apply Kd.R_drewN | apply Kd.R_drew)); exact HO450.out) hg (fun _ _ => by simp [Value.ownBlock]))
                                  have n5_ := Aside0.mk (blk_grown (g := gb468) (o := .cells #[.int .i64 0, .slice none 0 0] 24 (0, 0)) (by (with_reducible repeat (first | refine blk_drewN ?_ _ | refine blk_drew ?_ | refine blk_alloc ?_ _)); exact BK468.out) hg (by simp [Value.ownBlock]))
                                  have n6_ := Aside0.mk (hb)
                                  have n7_ := Aside0.mk (ho)
                                  clear BK440
                                  clear BK441
                                  clear HO446
                                  clear BK447
                                  clear HO450
                                  clear BK468
                                  clear HB
                                  have BK440 := n0_
                                  have BK441 := n1_
                                  have HO446 := n2_
                                  have BK447 := n3_
                                  have HO450 := n4_
                                  have BK468 := n5_
                                  have HB := n6_
                                  have HO457 := n7_
                                  clear n0_ n1_ n2_ n3_ n4_ n5_ n6_ n7_
                                  clear ho hb hg hat
                                  refine hK.out _ _ ⟨(blk_cell BK440.out 0).trans rfl, (blk_cell BK440.out 1).trans rfl, (blk_cell BK441.out 0).trans rfl, (blk_cell BK441.out 1).trans rfl, (blk_cell BK441.out 2).trans rfl⟩ (fun hHeld => ?_)
                                  clear hK K
                                  refine norm_ (a' := ?_) ?_ ?_
                                  rotate_left
                                  · show Act.put _ (some 31) _ = _
                                    simp only [Act.put, List.setIfInBounds_toArray, List.set_cons_zero, List.set_cons_succ, i64_w, i32_w]
                                    rfl
                                  exact norm_ (by first | (simp only [putAll, Act.put, List.setIfInBounds_toArray, List.set_cons_zero, List.set_cons_succ]; done) | (simp only [putAll, Act.put, List.setIfInBounds_toArray, List.set_cons_zero, List.set_cons_succ]; rfl)) (hJ9_15 (v456, gb468) _ ⟨hHeld, (by (with_reducible repeat (first | apply Kd.R_alloc | apply Kd.R_drewN | apply Kd.R_drew)); exact Kd.R_mono HO446.out (fun _ hk => ⟨hk.2, hk.1⟩)), (by (with_reducible repeat (first | apply Kd.R_alloc | apply Kd.R_drewN | apply Kd.R_drew)); exact HO450.out), (by (with_reducible repeat (first | apply Kd.R_alloc | apply Kd.R_drewN | apply Kd.R_drew)); exact HO457.out), (by (with_reducible repeat (first | refine blk_drewN ?_ _ | refine blk_drew ?_ | refine blk_alloc ?_ _)); exact BK440.out), (by (with_reducible repeat (first | refine blk_drewN ?_ _ | refine blk_drew ?_ | refine blk_alloc ?_ _)); exact BK441.out), (by (with_reducible repeat (first | refine blk_drewN ?_ _ | refine blk_drew ?_ | refine blk_alloc ?_ _)); exact BK447.out), (by (with_reducible repeat (first | refine blk_drewN ?_ _ | refine blk_drew ?_ | refine blk_alloc ?_ _)); exact BK468.out), GW468.out, GE468.out, NB440_468.out, NB468_440.out, NB441_468.out, NB468_441.out, NB447_468.out, NB468_447.out, (by repeat (first | (with_reducible first | exact HB.out | apply below_alloc | apply pw_below_drewN | apply below_drew1 | refine below_set ?_ GE440.out | refine below_set ?_ GE441.out | refine below_set ?_ GE447.out | refine below_set ?_ GE468.out) | exact HB.out))⟩)
                                · skip
                                  refine Kd.R_lit_step k41 _ 41 ?hg (N := 33) ?hd (xs := ([(⟨a2_0, a2_1, a2_2⟩ : S41)] : List (S41))) (inner := [.int .i64 a2_0, .int .i64 a2_1, .int .i64 a2_2]) (ok := fun _ => True) (okp := fun _ => True) ?hr ?hp (fun _ hk => hk) trivial (Below.refl _ _) (Nat.le_refl _) (by simp) ?_; (case hd => rfl); (case hg => rfl); (case hr => first | (go_simp; done) | (go_simp; rfl)); (case hp => exact (Reps.c3 (show Kd.M k41 _ _ _ (⟨a2_0, a2_1, a2_2⟩ : S41) [.int .i64 a2_0, .int .i64 a2_1, .int .i64 a2_2] from (k41_mkM _ _ _ (⟨a2_0, a2_1, a2_2⟩ : S41) )) (Reps.none _ _)))
                                  intro v459 w31 ho32 hb hg_ hnew_
                                  clear hg_ hnew_
                                  (first | rw [← Ny458.out] at ho32 | (simp only [Int.reduceToNat] at ho32; rw [← Ny458.out] at ho32))
                                  have n0_ := Aside0.mk (Kd.R_elder' (by (with_reducible repeat (first | apply Kd.R_alloc | apply Kd.R_drewN | apply Kd.R_drew)); exact HO446.out) (Kd.R_base ho32) hb)
                                  have n1_ := Aside0.mk (Kd.R_below (by (with_reducible repeat (first | apply Kd.R_alloc | apply Kd.R_drewN | apply Kd.R_drew)); exact HO450.out) hb)
                                  have n2_ := Aside0.mk (Kd.R_lower (Kd.R_newB (Kd.R_new' ho32 (Kd.R_lt (by (with_reducible repeat (first | apply Kd.R_alloc | apply Kd.R_drewN | apply Kd.R_drew)); exact HO446.out))) (g := gb441) (o := .cells #[.int .i64 a2_0, .int .i64 a2_1, .int .i64 a2_2] 41 (0, 0)) (by (with_reducible repeat (first | refine blk_drewN ?_ _ | refine blk_drew ?_ | refine blk_alloc ?_ _)); exact BK441.out)) (below_size (by repeat (first | (with_reducible first | exact HB.out | apply below_alloc | apply pw_below_drewN | apply below_drew1 | refine below_set ?_ GE440.out | refine below_set ?_ GE441.out | refine below_set ?_ GE447.out | refine below_set ?_ GE468.out) | exact HB.out))))
                                  have n3_ := Aside0.mk (blk_below (g := gb440) (o := .cells #[.int .i64 a0_0, .slice A0_1 l0_1.length c0_1] 24 (0, 0)) (by (with_reducible repeat (first | refine blk_drewN ?_ _ | refine blk_drew ?_ | refine blk_alloc ?_ _)); exact BK440.out) hb)
                                  have n4_ := Aside0.mk (blk_below (g := gb441) (o := .cells #[.int .i64 a2_0, .int .i64 a2_1, .int .i64 a2_2] 41 (0, 0)) (by (with_reducible repeat (first | refine blk_drewN ?_ _ | refine blk_drew ?_ | refine blk_alloc ?_ _)); exact BK441.out) hb)
                                  have n5_ := Aside0.mk (blk_below (g := gb447) (o := .cells #[.int .i64 t443, .slice Ao25 t444.length co25] 24 (0, 0)) (by (with_reducible repeat (first | refine blk_drewN ?_ _ | refine blk_drew ?_ | refine blk_alloc ?_ _)); exact BK447.out) hb)
                                  have n6_ := Aside0.mk (blk_below (g := gb468) (o := .cells #[.int .i64 0, .slice none 0 0] 24 (0, 0)) (by (with_reducible repeat (first | refine blk_drewN ?_ _ | refine blk_drew ?_ | refine blk_alloc ?_ _)); exact BK468.out) hb)
                                  have n7_ := Aside0.mk (below_step (by repeat (first | (with_reducible first | exact HB.out | apply below_alloc | apply pw_below_drewN | apply below_drew1 | refine below_set ?_ GE440.out | refine below_set ?_ GE441.out | refine below_set ?_ GE447.out | refine below_set ?_ GE468.out) | exact HB.out)) hb)
                                  clear HO446
                                  clear HO450
                                  clear BK440
                                  clear BK441
                                  clear BK447
                                  clear BK468
                                  clear HB
                                  have HO446 := n0_
                                  have HO450 := n1_
                                  have HO460 := n2_
                                  have BK440 := n3_
                                  have BK441 := n4_
                                  have BK447 := n5_
                                  have BK468 := n6_
                                  have HB := n7_
                                  clear n0_ n1_ n2_ n3_ n4_ n5_ n6_ n7_
                                  clear hb ho32
                                  refine hK.out _ _ ⟨(blk_cell BK440.out 0).trans rfl, (blk_cell BK440.out 1).trans rfl, (blk_cell BK441.out 0).trans rfl, (blk_cell BK441.out 1).trans rfl, (blk_cell BK441.out 2).trans rfl⟩ (fun hHeld => ?_)
                                  clear hK K
                                  refine norm_ (a' := ?_) ?_ ?_
                                  rotate_left
                                  · show Act.put _ (some 33) _ = _
                                    simp only [Act.put, List.setIfInBounds_toArray, List.set_cons_zero, List.set_cons_succ, i64_w, i32_w]
                                    rfl
                                  exact norm_ (by first | (simp only [putAll, Act.put, List.setIfInBounds_toArray, List.set_cons_zero, List.set_cons_succ]; done) | (simp only [putAll, Act.put, List.setIfInBounds_toArray, List.set_cons_zero, List.set_cons_succ]; rfl)) (hJ11_15 (v459, gb468) _ ⟨hHeld, (by (with_reducible repeat (first | apply Kd.R_alloc | apply Kd.R_drewN | apply Kd.R_drew)); exact Kd.R_mono HO446.out (fun _ hk => ⟨hk.2, hk.1⟩)), (by (with_reducible repeat (first | apply Kd.R_alloc | apply Kd.R_drewN | apply Kd.R_drew)); exact HO450.out), (by (with_reducible repeat (first | apply Kd.R_alloc | apply Kd.R_drewN | apply Kd.R_drew)); exact Kd.R_mono HO460.out (fun _ hk => ⟨hk.1.2, hk.2⟩)), (by (with_reducible repeat (first | refine blk_drewN ?_ _ | refine blk_drew ?_ | refine blk_alloc ?_ _)); exact BK440.out), (by (with_reducible repeat (first | refine blk_drewN ?_ _ | refine blk_drew ?_ | refine blk_alloc ?_ _)); exact BK441.out), (by (with_reducible repeat (first | refine blk_drewN ?_ _ | refine blk_drew ?_ | refine blk_alloc ?_ _)); exact BK447.out), (by (with_reducible repeat (first | refine blk_drewN ?_ _ | refine blk_drew ?_ | refine blk_alloc ?_ _)); exact BK468.out), GW468.out, GE468.out, NB440_468.out, NB468_440.out, NB441_468.out, NB468_441.out, NB447_468.out, NB468_447.out, (by repeat (first | (with_reducible first | exact HB.out | apply below_alloc | apply pw_below_drewN | apply below_drew1 | refine below_set ?_ GE440.out | refine below_set ?_ GE441.out | refine below_set ?_ GE447.out | refine below_set ?_ GE468.out) | exact HB.out))⟩)
                            · skip
                              rintro v459 w31 ⟨hS_, h0_, h1_, h2_, h3_, h4_, h5_, h6_⟩
                              have n0_ : Aside0 (Kd.R k41 41 w31 w.heap.size (fun k_ => some k_ ≠ (v459 : Value).ownBlock ∧ k_ ≠ gb441) (.slice Ao25 t444.length co25) t444) := ⟨h0_⟩
                              have n1_ : Aside0 (Kd.R (Kd.int .i64) 3 w31 w.heap.size (fun _ => True) v449 t448) := ⟨h1_⟩
                              have n2_ : Aside0 (Kd.R k41 41 w31 w.heap.size (fun k_ => some k_ ≠ (.slice Ao25 t444.length co25 : Value).ownBlock ∧ k_ ≠ gb441) v459 y458) := ⟨h2_⟩
                              have n3_ : Aside0 (w31.heap[gb440]? = some (.cells #[.int .i64 a0_0, .slice A0_1 l0_1.length c0_1] 24 (0, 0))) := ⟨h3_⟩
                              have n4_ : Aside0 (w31.heap[gb441]? = some (.cells #[.int .i64 a2_0, .int .i64 a2_1, .int .i64 a2_2] 41 (0, 0))) := ⟨h4_⟩
                              have n5_ : Aside0 (w31.heap[gb447]? = some (.cells #[.int .i64 t443, .slice Ao25 t444.length co25] 24 (0, 0))) := ⟨h5_⟩
                              have n6_ : Aside0 (Below w.heap.size w w31) := ⟨h6_⟩
                              clear HO446
                              clear HO450
                              clear BK440
                              clear BK441
                              clear BK447
                              clear HB
                              clear h0_ h1_ h2_ h3_ h4_ h5_ h6_
                              have HO446 := n0_
                              have HO450 := n1_
                              have HO460 := n2_
                              have BK440 := n3_
                              have BK441 := n4_
                              have BK447 := n5_
                              have HB := n6_
                              clear n0_ n1_ n2_ n3_ n4_ n5_ n6_
                              have hHeld : w31.cell? ⟨gb440, 0, none⟩ = some (.int .i64 a0_0) ∧ w31.cell? ⟨gb440, 1, none⟩ = some (.slice A0_1 l0_1.length c0_1) ∧ w31.cell? ⟨gb441, 0, none⟩ = some (.int .i64 a2_0) ∧ w31.cell? ⟨gb441, 1, none⟩ = some (.int .i64 a2_1) ∧ w31.cell? ⟨gb441, 2, none⟩ = some (.int .i64 a2_2) := hS_
                              refine norm_ (a' := ?_) ?_ ?_
                              rotate_left
                              · simp only [putAll, Act.put, List.setIfInBounds_toArray, List.set_cons_zero, List.set_cons_succ]
                                rfl
                              refine two_ (i := 9) (j := 15) (Ni := some 31) (Nj := some 10) #[true, true, true, true, true, true, true, true, true, true, true, true, false, false, false, false, false] #[true, true, true, true, true, true, true, true, true, false, true, true, false, false, false, true, false] rfl rfl rfl rfl (two_of HT_.out (by kernel_rfl)) (by decide) (by decide) (fun K hK => ?_) (fun K hK => ?_)
                              · skip
                                refine Kd.R_append_rows_step k41 (w0 := w) w.heap.size (by rfl) (.const (.slice none 0 0)) (.tmp 30) 22 41 (.agg #[(.int .i64 0), (.int .i64 0), (.int .i64 0)]) 24 rfl Try.underlying22 info41 rfl (by decide) (by omega) (.slice none 0 0) ([] : List (S41)) y451 _ _ _ (fun k_ => some k_ ≠ (.slice Ao25 t444.length co25 : Value).ownBlock ∧ some k_ ≠ (v459 : Value).ownBlock ∧ k_ ≠ gb441) (fun _ => False) rfl rfl ?aO ?aR (fun _ _ h => h) (fun _ h => h.elim) ?aF ?aB ?aS ?aL ?_
                                (case aR => repeat (first | exact (Kd.C_below HR454.out HB.out) | (with_reducible refine Kd.C_alloc ?_ _) | (with_reducible refine Kd.C_drewN ?_ _) | (with_reducible refine Kd.C_drew ?_)))
                                (case aB => exact (by repeat (first | (with_reducible first | exact HB.out | apply below_alloc | apply pw_below_drewN | apply below_drew1 | refine below_set ?_ GE440.out | refine below_set ?_ GE441.out | refine below_set ?_ GE447.out) | exact HB.out)))
                                (case aF => exact (fun k_ hk => ⟨Kd.fresh' (Kd.R_lt (by (with_reducible repeat (first | apply Kd.R_alloc | apply Kd.R_drewN | apply Kd.R_drew)); exact HO446.out)) k_ hk, Kd.fresh' (Kd.R_lt (by (with_reducible repeat (first | apply Kd.R_alloc | apply Kd.R_drewN | apply Kd.R_drew)); exact HO460.out)) k_ hk, Kd.freshB (g := gb441) (o := .cells #[.int .i64 a2_0, .int .i64 a2_1, .int .i64 a2_2] 41 (0, 0)) (by (with_reducible repeat (first | refine blk_drewN ?_ _ | refine blk_drew ?_ | refine blk_alloc ?_ _)); exact BK441.out) k_ hk⟩))
                                (case aO => exact ((Kd.R_nil _ _ _ _ (fun k_ => some k_ ≠ (.slice Ao25 t444.length co25 : Value).ownBlock ∧ some k_ ≠ (v459 : Value).ownBlock ∧ k_ ≠ gb441))))
                                (case aS => exact (below_size (by repeat (first | (with_reducible first | exact HB.out | apply below_alloc | apply pw_below_drewN | apply below_drew1 | refine below_set ?_ GE440.out | refine below_set ?_ GE441.out | refine below_set ?_ GE447.out) | exact HB.out))))
                                (case aL => have := LMc10.out; omega)
                                intro v456 w32 ho hb hg hat
                                rw [← Ny455.out] at ho
                                have n0_ := Aside0.mk (blk_grown (g := gb440) (o := .cells #[.int .i64 a0_0, .slice A0_1 l0_1.length c0_1] 24 (0, 0)) (by (with_reducible repeat (first | refine blk_drewN ?_ _ | refine blk_drew ?_ | refine blk_alloc ?_ _)); exact BK440.out) hg (by simp [Value.ownBlock]))
                                have n1_ := Aside0.mk (blk_grown (g := gb441) (o := .cells #[.int .i64 a2_0, .int .i64 a2_1, .int .i64 a2_2] 41 (0, 0)) (by (with_reducible repeat (first | refine blk_drewN ?_ _ | refine blk_drew ?_ | refine blk_alloc ?_ _)); exact BK441.out) hg (by simp [Value.ownBlock]))
                                have n2_ := Aside0.mk (Kd.R_after (Kd.R_apart_nil (by (with_reducible repeat (first | apply Kd.R_alloc | apply Kd.R_drewN | apply Kd.R_drew)); exact HO446.out)) hg hat)
                                have n3_ := Aside0.mk (blk_grown (g := gb447) (o := .cells #[.int .i64 t443, .slice Ao25 t444.length co25] 24 (0, 0)) (by (with_reducible repeat (first | refine blk_drewN ?_ _ | refine blk_drew ?_ | refine blk_alloc ?_ _)); exact BK447.out) hg (by simp [Value.ownBlock]))
                                have n4_ := Aside0.mk (Kd.R_grown (by (with_reducible repeat (first | apply Kd.R_alloc | apply Kd.R_drewN | apply Kd.R_drew)); exact HO450.out) hg (fun _ _ => by simp [Value.ownBlock]))
                                have n5_ := Aside0.mk (Kd.R_after (Kd.R_apart_nil (by (with_reducible repeat (first | apply Kd.R_alloc | apply Kd.R_drewN | apply Kd.R_drew)); exact HO460.out)) hg hat)
                                have n6_ := Aside0.mk (hb)
                                have n7_ := Aside0.mk (ho)
                                clear BK440
                                clear BK441
                                clear HO446
                                clear BK447
                                clear HO450
                                clear HO460
                                clear HB
                                have BK440 := n0_
                                have BK441 := n1_
                                have HO446 := n2_
                                have BK447 := n3_
                                have HO450 := n4_
                                have HO460 := n5_
                                have HB := n6_
                                have HO457 := n7_
                                clear n0_ n1_ n2_ n3_ n4_ n5_ n6_ n7_
                                clear ho hb hg hat
                                refine hK.out _ _ ⟨(blk_cell BK440.out 0).trans rfl, (blk_cell BK440.out 1).trans rfl, (blk_cell BK441.out 0).trans rfl, (blk_cell BK441.out 1).trans rfl, (blk_cell BK441.out 2).trans rfl⟩ (fun hHeld => ?_)
                                clear hK K
                                refine norm_ (a' := ?_) ?_ ?_
                                rotate_left
                                · show Act.put _ (some 31) _ = _
                                  simp only [Act.put, List.setIfInBounds_toArray, List.set_cons_zero, List.set_cons_succ, i64_w, i32_w]
                                  rfl
                                exact norm_ (by first | (simp only [putAll, Act.put, List.setIfInBounds_toArray, List.set_cons_zero, List.set_cons_succ]; done) | (simp only [putAll, Act.put, List.setIfInBounds_toArray, List.set_cons_zero, List.set_cons_succ]; rfl)) (hJ9_11 (v456, v459) _ ⟨hHeld, (by (with_reducible repeat (first | apply Kd.R_alloc | apply Kd.R_drewN | apply Kd.R_drew)); exact Kd.R_mono HO446.out (fun _ hk => ⟨hk.2, ⟨hk.1.1, hk.1.2⟩⟩)), (by (with_reducible repeat (first | apply Kd.R_alloc | apply Kd.R_drewN | apply Kd.R_drew)); exact HO450.out), (by (with_reducible repeat (first | apply Kd.R_alloc | apply Kd.R_drewN | apply Kd.R_drew)); exact HO457.out), (by (with_reducible repeat (first | apply Kd.R_alloc | apply Kd.R_drewN | apply Kd.R_drew)); exact Kd.R_mono HO460.out (fun _ hk => ⟨hk.1.1, ⟨hk.2, hk.1.2⟩⟩)), (by (with_reducible repeat (first | refine blk_drewN ?_ _ | refine blk_drew ?_ | refine blk_alloc ?_ _)); exact BK440.out), (by (with_reducible repeat (first | refine blk_drewN ?_ _ | refine blk_drew ?_ | refine blk_alloc ?_ _)); exact BK441.out), (by (with_reducible repeat (first | refine blk_drewN ?_ _ | refine blk_drew ?_ | refine blk_alloc ?_ _)); exact BK447.out), (by repeat (first | (with_reducible first | exact HB.out | apply below_alloc | apply pw_below_drewN | apply below_drew1 | refine below_set ?_ GE440.out | refine below_set ?_ GE441.out | refine below_set ?_ GE447.out) | exact HB.out))⟩)
                              · skip
                                refine box_step ?hg (N := 10) ?hd (cs := #[.int .i64 0, .slice none 0 0]) (t := 24) ?hr ?_; (case hd => rfl); (case hg => rfl); (case hr => first | (go_simp; done) | (go_simp; rfl))
                                intro gb468 hg w32 hbox hb
                                have n0_ := Aside0.mk (Kd.R_below (by (with_reducible repeat (first | apply Kd.R_alloc | apply Kd.R_drewN | apply Kd.R_drew)); exact HO446.out) hb)
                                have n1_ := Aside0.mk (Kd.R_below (by (with_reducible repeat (first | apply Kd.R_alloc | apply Kd.R_drewN | apply Kd.R_drew)); exact HO450.out) hb)
                                have n2_ := Aside0.mk (Kd.R_below (by (with_reducible repeat (first | apply Kd.R_alloc | apply Kd.R_drewN | apply Kd.R_drew)); exact HO460.out) hb)
                                have n3_ := Aside0.mk (blk_below (g := gb440) (o := .cells #[.int .i64 a0_0, .slice A0_1 l0_1.length c0_1] 24 (0, 0)) (by (with_reducible repeat (first | refine blk_drewN ?_ _ | refine blk_drew ?_ | refine blk_alloc ?_ _)); exact BK440.out) hb)
                                have n4_ := Aside0.mk (blk_below (g := gb441) (o := .cells #[.int .i64 a2_0, .int .i64 a2_1, .int .i64 a2_2] 41 (0, 0)) (by (with_reducible repeat (first | refine blk_drewN ?_ _ | refine blk_drew ?_ | refine blk_alloc ?_ _)); exact BK441.out) hb)
                                have n5_ := Aside0.mk (blk_below (g := gb447) (o := .cells #[.int .i64 t443, .slice Ao25 t444.length co25] 24 (0, 0)) (by (with_reducible repeat (first | refine blk_drewN ?_ _ | refine blk_drew ?_ | refine blk_alloc ?_ _)); exact BK447.out) hb)
                                have n6_ := Aside0.mk (below_step (by repeat (first | (with_reducible first | exact HB.out | apply below_alloc | apply pw_below_drewN | apply below_drew1 | refine below_set ?_ GE440.out | refine below_set ?_ GE441.out | refine below_set ?_ GE447.out) | exact HB.out)) hb)
                                have n7_ := Aside0.mk (hbox)
                                have n8_ := Aside0.mk ((by rw [hg]; exact (below_size (by repeat (first | (with_reducible first | exact HB.out | apply below_alloc | apply pw_below_drewN | apply below_drew1 | refine below_set ?_ GE440.out | refine below_set ?_ GE441.out | refine below_set ?_ GE447.out) | exact HB.out))) : w.heap.size ≤ gb468))
                                have n9_ := Aside0.mk ((by rw [hg]; exact (below_size (by repeat (first | (with_reducible first | exact HB.out | apply below_alloc | apply pw_below_drewN | apply below_drew1 | refine below_set ?_ GE440.out | refine below_set ?_ GE441.out | refine below_set ?_ GE447.out) | exact HB.out))) : w.heap.size ≤ gb468))
                                have n10_ := Aside0.mk ((by rw [hg]; exact Nat.ne_of_lt (blk_lt (g := gb440) (o := .cells #[.int .i64 a0_0, .slice A0_1 l0_1.length c0_1] 24 (0, 0)) (by (with_reducible repeat (first | refine blk_drewN ?_ _ | refine blk_drew ?_ | refine blk_alloc ?_ _)); exact BK440.out)) : gb440 ≠ gb468))
                                have n11_ := Aside0.mk ((by rw [hg]; exact Nat.ne_of_gt (blk_lt (g := gb440) (o := .cells #[.int .i64 a0_0, .slice A0_1 l0_1.length c0_1] 24 (0, 0)) (by (with_reducible repeat (first | refine blk_drewN ?_ _ | refine blk_drew ?_ | refine blk_alloc ?_ _)); exact BK440.out)) : gb468 ≠ gb440))
                                have n12_ := Aside0.mk ((by rw [hg]; exact Nat.ne_of_lt (blk_lt (g := gb441) (o := .cells #[.int .i64 a2_0, .int .i64 a2_1, .int .i64 a2_2] 41 (0, 0)) (by (with_reducible repeat (first | refine blk_drewN ?_ _ | refine blk_drew ?_ | refine blk_alloc ?_ _)); exact BK441.out)) : gb441 ≠ gb468))
                                have n13_ := Aside0.mk ((by rw [hg]; exact Nat.ne_of_gt (blk_lt (g := gb441) (o := .cells #[.int .i64 a2_0, .int .i64 a2_1, .int .i64 a2_2] 41 (0, 0)) (by (with_reducible repeat (first | refine blk_drewN ?_ _ | refine blk_drew ?_ | refine blk_alloc ?_ _)); exact BK441.out)) : gb468 ≠ gb441))
                                have n14_ := Aside0.mk ((by rw [hg]; exact Nat.ne_of_lt (blk_lt (g := gb447) (o := .cells #[.int .i64 t443, .slice Ao25 t444.length co25] 24 (0, 0)) (by (with_reducible repeat (first | refine blk_drewN ?_ _ | refine blk_drew ?_ | refine blk_alloc ?_ _)); exact BK447.out)) : gb447 ≠ gb468))
                                have n15_ := Aside0.mk ((by rw [hg]; exact Nat.ne_of_gt (blk_lt (g := gb447) (o := .cells #[.int .i64 t443, .slice Ao25 t444.length co25] 24 (0, 0)) (by (with_reducible repeat (first | refine blk_drewN ?_ _ | refine blk_drew ?_ | refine blk_alloc ?_ _)); exact BK447.out)) : gb468 ≠ gb447))
                                clear HO446
                                clear HO450
                                clear HO460
                                clear BK440
                                clear BK441
                                clear BK447
                                clear HB
                                have HO446 := n0_
                                have HO450 := n1_
                                have HO460 := n2_
                                have BK440 := n3_
                                have BK441 := n4_
                                have BK447 := n5_
                                have HB := n6_
                                have BK468 := n7_
                                have GW468 := n8_
                                have GE468 := n9_
                                have NB440_468 := n10_
                                have NB468_440 := n11_
                                have NB441_468 := n12_
                                have NB468_441 := n13_
                                have NB447_468 := n14_
                                have NB468_447 := n15_
                                clear n0_ n1_ n2_ n3_ n4_ n5_ n6_ n7_ n8_ n9_ n10_ n11_ n12_ n13_ n14_ n15_
                                clear hb hbox hg
                                refine hK.out _ _ ⟨(blk_cell BK440.out 0).trans rfl, (blk_cell BK440.out 1).trans rfl, (blk_cell BK441.out 0).trans rfl, (blk_cell BK441.out 1).trans rfl, (blk_cell BK441.out 2).trans rfl⟩ (fun hHeld => ?_)
                                clear hK K
                                refine norm_ (a' := ?_) ?_ ?_
                                rotate_left
                                · show Act.put _ (some 10) _ = _
                                  simp only [Act.put, List.setIfInBounds_toArray, List.set_cons_zero, List.set_cons_succ, i64_w, i32_w]
                                  rfl
                                exact norm_ (by first | (simp only [putAll, Act.put, List.setIfInBounds_toArray, List.set_cons_zero, List.set_cons_succ]; done) | (simp only [putAll, Act.put, List.setIfInBounds_toArray, List.set_cons_zero, List.set_cons_succ]; rfl)) (hJ11_15 (v459, gb468) _ ⟨hHeld, (by (with_reducible repeat (first | apply Kd.R_alloc | apply Kd.R_drewN | apply Kd.R_drew)); exact HO446.out), (by (with_reducible repeat (first | apply Kd.R_alloc | apply Kd.R_drewN | apply Kd.R_drew)); exact HO450.out), (by (with_reducible repeat (first | apply Kd.R_alloc | apply Kd.R_drewN | apply Kd.R_drew)); exact HO460.out), (by (with_reducible repeat (first | refine blk_drewN ?_ _ | refine blk_drew ?_ | refine blk_alloc ?_ _)); exact BK440.out), (by (with_reducible repeat (first | refine blk_drewN ?_ _ | refine blk_drew ?_ | refine blk_alloc ?_ _)); exact BK441.out), (by (with_reducible repeat (first | refine blk_drewN ?_ _ | refine blk_drew ?_ | refine blk_alloc ?_ _)); exact BK447.out), (by (with_reducible repeat (first | refine blk_drewN ?_ _ | refine blk_drew ?_ | refine blk_alloc ?_ _)); exact BK468.out), GW468.out, GE468.out, NB440_468.out, NB468_440.out, NB441_468.out, NB468_441.out, NB447_468.out, NB468_447.out, (by repeat (first | (with_reducible first | exact HB.out | apply below_alloc | apply pw_below_drewN | apply below_drew1 | refine below_set ?_ GE440.out | refine below_set ?_ GE441.out | refine below_set ?_ GE447.out | refine below_set ?_ GE468.out) | exact HB.out))⟩)
                          · skip
                            rintro v456 w30 ⟨hS_, h0_, h1_, h2_, h3_, h4_, h5_, h6_⟩
                            have n0_ : Aside0 (Kd.R k41 41 w30 w.heap.size (fun k_ => some k_ ≠ (v456 : Value).ownBlock ∧ k_ ≠ gb441) (.slice Ao25 t444.length co25) t444) := ⟨h0_⟩
                            have n1_ : Aside0 (Kd.R (Kd.int .i64) 3 w30 w.heap.size (fun _ => True) v449 t448) := ⟨h1_⟩
                            have n2_ : Aside0 (Kd.R k41 41 w30 w.heap.size (fun k_ => some k_ ≠ (.slice Ao25 t444.length co25 : Value).ownBlock ∧ k_ ≠ gb441) v456 y455) := ⟨h2_⟩
                            have n3_ : Aside0 (w30.heap[gb440]? = some (.cells #[.int .i64 a0_0, .slice A0_1 l0_1.length c0_1] 24 (0, 0))) := ⟨h3_⟩
                            have n4_ : Aside0 (w30.heap[gb441]? = some (.cells #[.int .i64 a2_0, .int .i64 a2_1, .int .i64 a2_2] 41 (0, 0))) := ⟨h4_⟩
                            have n5_ : Aside0 (w30.heap[gb447]? = some (.cells #[.int .i64 t443, .slice Ao25 t444.length co25] 24 (0, 0))) := ⟨h5_⟩
                            have n6_ : Aside0 (Below w.heap.size w w30) := ⟨h6_⟩
                            clear HO446
                            clear HO450
                            clear BK440
                            clear BK441
                            clear BK447
                            clear HB
                            clear h0_ h1_ h2_ h3_ h4_ h5_ h6_
                            have HO446 := n0_
                            have HO450 := n1_
                            have HO457 := n2_
                            have BK440 := n3_
                            have BK441 := n4_
                            have BK447 := n5_
                            have HB := n6_
                            clear n0_ n1_ n2_ n3_ n4_ n5_ n6_
                            have hHeld : w30.cell? ⟨gb440, 0, none⟩ = some (.int .i64 a0_0) ∧ w30.cell? ⟨gb440, 1, none⟩ = some (.slice A0_1 l0_1.length c0_1) ∧ w30.cell? ⟨gb441, 0, none⟩ = some (.int .i64 a2_0) ∧ w30.cell? ⟨gb441, 1, none⟩ = some (.int .i64 a2_1) ∧ w30.cell? ⟨gb441, 2, none⟩ = some (.int .i64 a2_2) := hS_
                            refine norm_ (a' := ?_) ?_ ?_
                            rotate_left
                            · simp only [putAll, Act.put, List.setIfInBounds_toArray, List.set_cons_zero, List.set_cons_succ]
                              rfl
                            refine two_ (i := 11) (j := 15) (Ni := some 33) (Nj := some 10) #[true, true, true, true, true, true, true, true, true, true, true, true, false, false, false, false, false] #[true, true, true, true, true, true, true, true, true, true, true, false, false, false, false, true, false] rfl rfl rfl rfl (two_of HT_.out (by kernel_rfl)) (by decide) (by decide) (fun K hK => ?_) (fun K hK => ?_)
                            · skip
                              refine Kd.R_lit_step k41 _ 41 ?hg (N := 33) ?hd (xs := ([(⟨a2_0, a2_1, a2_2⟩ : S41)] : List (S41))) (inner := [.int .i64 a2_0, .int .i64 a2_1, .int .i64 a2_2]) (ok := fun _ => True) (okp := fun _ => True) ?hr ?hp (fun _ hk => hk) trivial (Below.refl _ _) (Nat.le_refl _) (by simp) ?_; (case hd => rfl); (case hg => rfl); (case hr => first | (go_simp; done) | (go_simp; rfl)); (case hp => exact (Reps.c3 (show Kd.M k41 _ _ _ (⟨a2_0, a2_1, a2_2⟩ : S41) [.int .i64 a2_0, .int .i64 a2_1, .int .i64 a2_2] from (k41_mkM _ _ _ (⟨a2_0, a2_1, a2_2⟩ : S41) )) (Reps.none _ _)))
                              intro v459 w31 ho32 hb hg_ hnew_
                              clear hg_ hnew_
                              (first | rw [← Ny458.out] at ho32 | (simp only [Int.reduceToNat] at ho32; rw [← Ny458.out] at ho32))
                              have n0_ := Aside0.mk (Kd.R_elder' (by (with_reducible repeat (first | apply Kd.R_alloc | apply Kd.R_drewN | apply Kd.R_drew)); exact HO446.out) (Kd.R_base ho32) hb)
                              have n1_ := Aside0.mk (Kd.R_below (by (with_reducible repeat (first | apply Kd.R_alloc | apply Kd.R_drewN | apply Kd.R_drew)); exact HO450.out) hb)
                              have n2_ := Aside0.mk (Kd.R_elder' (by (with_reducible repeat (first | apply Kd.R_alloc | apply Kd.R_drewN | apply Kd.R_drew)); exact HO457.out) (Kd.R_base ho32) hb)
                              have n3_ := Aside0.mk (Kd.R_lower (Kd.R_newB (Kd.R_new' (Kd.R_new' ho32 (Kd.R_lt (by (with_reducible repeat (first | apply Kd.R_alloc | apply Kd.R_drewN | apply Kd.R_drew)); exact HO446.out))) (Kd.R_lt (by (with_reducible repeat (first | apply Kd.R_alloc | apply Kd.R_drewN | apply Kd.R_drew)); exact HO457.out))) (g := gb441) (o := .cells #[.int .i64 a2_0, .int .i64 a2_1, .int .i64 a2_2] 41 (0, 0)) (by (with_reducible repeat (first | refine blk_drewN ?_ _ | refine blk_drew ?_ | refine blk_alloc ?_ _)); exact BK441.out)) (below_size (by repeat (first | (with_reducible first | exact HB.out | apply below_alloc | apply pw_below_drewN | apply below_drew1 | refine below_set ?_ GE440.out | refine below_set ?_ GE441.out | refine below_set ?_ GE447.out) | exact HB.out))))
                              have n4_ := Aside0.mk (blk_below (g := gb440) (o := .cells #[.int .i64 a0_0, .slice A0_1 l0_1.length c0_1] 24 (0, 0)) (by (with_reducible repeat (first | refine blk_drewN ?_ _ | refine blk_drew ?_ | refine blk_alloc ?_ _)); exact BK440.out) hb)
                              have n5_ := Aside0.mk (blk_below (g := gb441) (o := .cells #[.int .i64 a2_0, .int .i64 a2_1, .int .i64 a2_2] 41 (0, 0)) (by (with_reducible repeat (first | refine blk_drewN ?_ _ | refine blk_drew ?_ | refine blk_alloc ?_ _)); exact BK441.out) hb)
                              have n6_ := Aside0.mk (blk_below (g := gb447) (o := .cells #[.int .i64 t443, .slice Ao25 t444.length co25] 24 (0, 0)) (by (with_reducible repeat (first | refine blk_drewN ?_ _ | refine blk_drew ?_ | refine blk_alloc ?_ _)); exact BK447.out) hb)
                              have n7_ := Aside0.mk (below_step (by repeat (first | (with_reducible first | exact HB.out | apply below_alloc | apply pw_below_drewN | apply below_drew1 | refine below_set ?_ GE440.out | refine below_set ?_ GE441.out | refine below_set ?_ GE447.out) | exact HB.out)) hb)
                              clear HO446
                              clear HO450
                              clear HO457
                              clear BK440
                              clear BK441
                              clear BK447
                              clear HB
                              have HO446 := n0_
                              have HO450 := n1_
                              have HO457 := n2_
                              have HO460 := n3_
                              have BK440 := n4_
                              have BK441 := n5_
                              have BK447 := n6_
                              have HB := n7_
                              clear n0_ n1_ n2_ n3_ n4_ n5_ n6_ n7_
                              clear hb ho32
                              refine hK.out _ _ ⟨(blk_cell BK440.out 0).trans rfl, (blk_cell BK440.out 1).trans rfl, (blk_cell BK441.out 0).trans rfl, (blk_cell BK441.out 1).trans rfl, (blk_cell BK441.out 2).trans rfl⟩ (fun hHeld => ?_)
                              clear hK K
                              refine norm_ (a' := ?_) ?_ ?_
                              rotate_left
                              · show Act.put _ (some 33) _ = _
                                simp only [Act.put, List.setIfInBounds_toArray, List.set_cons_zero, List.set_cons_succ, i64_w, i32_w]
                                rfl
                              exact norm_ (by first | (simp only [putAll, Act.put, List.setIfInBounds_toArray, List.set_cons_zero, List.set_cons_succ]; done) | (simp only [putAll, Act.put, List.setIfInBounds_toArray, List.set_cons_zero, List.set_cons_succ]; rfl)) (hJ9_11 (v456, v459) _ ⟨hHeld, (by (with_reducible repeat (first | apply Kd.R_alloc | apply Kd.R_drewN | apply Kd.R_drew)); exact Kd.R_mono HO446.out (fun _ hk => ⟨hk.1.1, ⟨hk.2, hk.1.2⟩⟩)), (by (with_reducible repeat (first | apply Kd.R_alloc | apply Kd.R_drewN | apply Kd.R_drew)); exact HO450.out), (by (with_reducible repeat (first | apply Kd.R_alloc | apply Kd.R_drewN | apply Kd.R_drew)); exact Kd.R_mono HO457.out (fun _ hk => ⟨hk.1.1, ⟨hk.2, hk.1.2⟩⟩)), (by (with_reducible repeat (first | apply Kd.R_alloc | apply Kd.R_drewN | apply Kd.R_drew)); exact Kd.R_mono HO460.out (fun _ hk => ⟨hk.1.1.2, ⟨hk.1.2, hk.2⟩⟩)), (by (with_reducible repeat (first | refine blk_drewN ?_ _ | refine blk_drew ?_ | refine blk_alloc ?_ _)); exact BK440.out), (by (with_reducible repeat (first | refine blk_drewN ?_ _ | refine blk_drew ?_ | refine blk_alloc ?_ _)); exact BK441.out), (by (with_reducible repeat (first | refine blk_drewN ?_ _ | refine blk_drew ?_ | refine blk_alloc ?_ _)); exact BK447.out), (by repeat (first | (with_reducible first | exact HB.out | apply below_alloc | apply pw_below_drewN | apply below_drew1 | refine below_set ?_ GE440.out | refine below_set ?_ GE441.out | refine below_set ?_ GE447.out) | exact HB.out))⟩)
                            · skip
                              refine box_step ?hg (N := 10) ?hd (cs := #[.int .i64 0, .slice none 0 0]) (t := 24) ?hr ?_; (case hd => rfl); (case hg => rfl); (case hr => first | (go_simp; done) | (go_simp; rfl))
                              intro gb468 hg w31 hbox hb
                              have n0_ := Aside0.mk (Kd.R_below (by (with_reducible repeat (first | apply Kd.R_alloc | apply Kd.R_drewN | apply Kd.R_drew)); exact HO446.out) hb)
                              have n1_ := Aside0.mk (Kd.R_below (by (with_reducible repeat (first | apply Kd.R_alloc | apply Kd.R_drewN | apply Kd.R_drew)); exact HO450.out) hb)
                              have n2_ := Aside0.mk (Kd.R_below (by (with_reducible repeat (first | apply Kd.R_alloc | apply Kd.R_drewN | apply Kd.R_drew)); exact HO457.out) hb)
                              have n3_ := Aside0.mk (blk_below (g := gb440) (o := .cells #[.int .i64 a0_0, .slice A0_1 l0_1.length c0_1] 24 (0, 0)) (by (with_reducible repeat (first | refine blk_drewN ?_ _ | refine blk_drew ?_ | refine blk_alloc ?_ _)); exact BK440.out) hb)
                              have n4_ := Aside0.mk (blk_below (g := gb441) (o := .cells #[.int .i64 a2_0, .int .i64 a2_1, .int .i64 a2_2] 41 (0, 0)) (by (with_reducible repeat (first | refine blk_drewN ?_ _ | refine blk_drew ?_ | refine blk_alloc ?_ _)); exact BK441.out) hb)
                              have n5_ := Aside0.mk (blk_below (g := gb447) (o := .cells #[.int .i64 t443, .slice Ao25 t444.length co25] 24 (0, 0)) (by (with_reducible repeat (first | refine blk_drewN ?_ _ | refine blk_drew ?_ | refine blk_alloc ?_ _)); exact BK447.out) hb)
                              have n6_ := Aside0.mk (below_step (by repeat (first | (with_reducible first | exact HB.out | apply below_alloc | apply pw_below_drewN | apply below_drew1 | refine below_set ?_ GE440.out | refine below_set ?_ GE441.out | refine below_set ?_ GE447.out) | exact HB.out)) hb)
                              have n7_ := Aside0.mk (hbox)
                              have n8_ := Aside0.mk ((by rw [hg]; exact (below_size (by repeat (first | (with_reducible first | exact HB.out | apply below_alloc | apply pw_below_drewN | apply below_drew1 | refine below_set ?_ GE440.out | refine below_set ?_ GE441.out | refine below_set ?_ GE447.out) | exact HB.out))) : w.heap.size ≤ gb468))
                              have n9_ := Aside0.mk ((by rw [hg]; exact (below_size (by repeat (first | (with_reducible first | exact HB.out | apply below_alloc | apply pw_below_drewN | apply below_drew1 | refine below_set ?_ GE440.out | refine below_set ?_ GE441.out | refine below_set ?_ GE447.out) | exact HB.out))) : w.heap.size ≤ gb468))
                              have n10_ := Aside0.mk ((by rw [hg]; exact Nat.ne_of_lt (blk_lt (g := gb440) (o := .cells #[.int .i64 a0_0, .slice A0_1 l0_1.length c0_1] 24 (0, 0)) (by (with_reducible repeat (first | refine blk_drewN ?_ _ | refine blk_drew ?_ | refine blk_alloc ?_ _)); exact BK440.out)) : gb440 ≠ gb468))
                              have n11_ := Aside0.mk ((by rw [hg]; exact Nat.ne_of_gt (blk_lt (g := gb440) (o := .cells #[.int .i64 a0_0, .slice A0_1 l0_1.length c0_1] 24 (0, 0)) (by (with_reducible repeat (first | refine blk_drewN ?_ _ | refine blk_drew ?_ | refine blk_alloc ?_ _)); exact BK440.out)) : gb468 ≠ gb440))
                              have n12_ := Aside0.mk ((by rw [hg]; exact Nat.ne_of_lt (blk_lt (g := gb441) (o := .cells #[.int .i64 a2_0, .int .i64 a2_1, .int .i64 a2_2] 41 (0, 0)) (by (with_reducible repeat (first | refine blk_drewN ?_ _ | refine blk_drew ?_ | refine blk_alloc ?_ _)); exact BK441.out)) : gb441 ≠ gb468))
                              have n13_ := Aside0.mk ((by rw [hg]; exact Nat.ne_of_gt (blk_lt (g := gb441) (o := .cells #[.int .i64 a2_0, .int .i64 a2_1, .int .i64 a2_2] 41 (0, 0)) (by (with_reducible repeat (first | refine blk_drewN ?_ _ | refine blk_drew ?_ | refine blk_alloc ?_ _)); exact BK441.out)) : gb468 ≠ gb441))
                              have n14_ := Aside0.mk ((by rw [hg]; exact Nat.ne_of_lt (blk_lt (g := gb447) (o := .cells #[.int .i64 t443, .slice Ao25 t444.length co25] 24 (0, 0)) (by (with_reducible repeat (first | refine blk_drewN ?_ _ | refine blk_drew ?_ | refine blk_alloc ?_ _)); exact BK447.out)) : gb447 ≠ gb468))
                              have n15_ := Aside0.mk ((by rw [hg]; exact Nat.ne_of_gt (blk_lt (g := gb447) (o := .cells #[.int .i64 t443, .slice Ao25 t444.length co25] 24 (0, 0)) (by (with_reducible repeat (first | refine blk_drewN ?_ _ | refine blk_drew ?_ | refine blk_alloc ?_ _)); exact BK447.out)) : gb468 ≠ gb447))
                              clear HO446
                              clear HO450
                              clear HO457
                              clear BK440
                              clear BK441
                              clear BK447
                              clear HB
                              have HO446 := n0_
                              have HO450 := n1_
                              have HO457 := n2_
                              have BK440 := n3_
                              have BK441 := n4_
                              have BK447 := n5_
                              have HB := n6_
                              have BK468 := n7_
                              have GW468 := n8_
                              have GE468 := n9_
                              have NB440_468 := n10_
                              have NB468_440 := n11_
                              have NB441_468 := n12_
                              have NB468_441 := n13_
                              have NB447_468 := n14_
                              have NB468_447 := n15_
                              clear n0_ n1_ n2_ n3_ n4_ n5_ n6_ n7_ n8_ n9_ n10_ n11_ n12_ n13_ n14_ n15_
                              clear hb hbox hg
                              refine hK.out _ _ ⟨(blk_cell BK440.out 0).trans rfl, (blk_cell BK440.out 1).trans rfl, (blk_cell BK441.out 0).trans rfl, (blk_cell BK441.out 1).trans rfl, (blk_cell BK441.out 2).trans rfl⟩ (fun hHeld => ?_)
                              clear hK K
                              refine norm_ (a' := ?_) ?_ ?_
                              rotate_left
                              · show Act.put _ (some 10) _ = _
                                simp only [Act.put, List.setIfInBounds_toArray, List.set_cons_zero, List.set_cons_succ, i64_w, i32_w]
                                rfl
                              exact norm_ (by first | (simp only [putAll, Act.put, List.setIfInBounds_toArray, List.set_cons_zero, List.set_cons_succ]; done) | (simp only [putAll, Act.put, List.setIfInBounds_toArray, List.set_cons_zero, List.set_cons_succ]; rfl)) (hJ9_15 (v456, gb468) _ ⟨hHeld, (by (with_reducible repeat (first | apply Kd.R_alloc | apply Kd.R_drewN | apply Kd.R_drew)); exact HO446.out), (by (with_reducible repeat (first | apply Kd.R_alloc | apply Kd.R_drewN | apply Kd.R_drew)); exact HO450.out), (by (with_reducible repeat (first | apply Kd.R_alloc | apply Kd.R_drewN | apply Kd.R_drew)); exact HO457.out), (by (with_reducible repeat (first | refine blk_drewN ?_ _ | refine blk_drew ?_ | refine blk_alloc ?_ _)); exact BK440.out), (by (with_reducible repeat (first | refine blk_drewN ?_ _ | refine blk_drew ?_ | refine blk_alloc ?_ _)); exact BK441.out), (by (with_reducible repeat (first | refine blk_drewN ?_ _ | refine blk_drew ?_ | refine blk_alloc ?_ _)); exact BK447.out), (by (with_reducible repeat (first | refine blk_drewN ?_ _ | refine blk_drew ?_ | refine blk_alloc ?_ _)); exact BK468.out), GW468.out, GE468.out, NB440_468.out, NB468_440.out, NB441_468.out, NB468_441.out, NB447_468.out, NB468_447.out, (by repeat (first | (with_reducible first | exact HB.out | apply below_alloc | apply pw_below_drewN | apply below_drew1 | refine below_set ?_ GE440.out | refine below_set ?_ GE441.out | refine below_set ?_ GE447.out | refine below_set ?_ GE468.out) | exact HB.out))⟩)
                        · skip
                          rintro ⟨v459, gb468⟩ w32 ⟨hS_, h0_, h1_, h2_, h3_, h4_, h5_, h6_, h7_, h8_, h9_, h10_, h11_, h12_, h13_, h14_, h15_⟩
                          have n0_ : Aside0 (Kd.R k41 41 w32 w.heap.size (fun k_ => some k_ ≠ (v459 : Value).ownBlock ∧ k_ ≠ gb441) (.slice Ao25 t444.length co25) t444) := ⟨h0_⟩
                          have n1_ : Aside0 (Kd.R (Kd.int .i64) 3 w32 w.heap.size (fun _ => True) v449 t448) := ⟨h1_⟩
                          have n2_ : Aside0 (Kd.R k41 41 w32 w.heap.size (fun k_ => some k_ ≠ (.slice Ao25 t444.length co25 : Value).ownBlock ∧ k_ ≠ gb441) v459 y458) := ⟨h2_⟩
                          have n3_ : Aside0 (w32.heap[gb440]? = some (.cells #[.int .i64 a0_0, .slice A0_1 l0_1.length c0_1] 24 (0, 0))) := ⟨h3_⟩
                          have n4_ : Aside0 (w32.heap[gb441]? = some (.cells #[.int .i64 a2_0, .int .i64 a2_1, .int .i64 a2_2] 41 (0, 0))) := ⟨h4_⟩
                          have n5_ : Aside0 (w32.heap[gb447]? = some (.cells #[.int .i64 t443, .slice Ao25 t444.length co25] 24 (0, 0))) := ⟨h5_⟩
                          have n6_ : Aside0 (w32.heap[gb468]? = some (.cells #[.int .i64 0, .slice none 0 0] 24 (0, 0))) := ⟨h6_⟩
                          have n7_ : Aside0 (w.heap.size ≤ gb468) := ⟨h7_⟩
                          have n8_ : Aside0 (w.heap.size ≤ gb468) := ⟨h8_⟩
                          have n9_ : Aside0 (gb440 ≠ gb468) := ⟨h9_⟩
                          have n10_ : Aside0 (gb468 ≠ gb440) := ⟨h10_⟩
                          have n11_ : Aside0 (gb441 ≠ gb468) := ⟨h11_⟩
                          have n12_ : Aside0 (gb468 ≠ gb441) := ⟨h12_⟩
                          have n13_ : Aside0 (gb447 ≠ gb468) := ⟨h13_⟩
                          have n14_ : Aside0 (gb468 ≠ gb447) := ⟨h14_⟩
                          have n15_ : Aside0 (Below w.heap.size w w32) := ⟨h15_⟩
                          clear HO446
                          clear HO450
                          clear BK440
                          clear BK441
                          clear BK447
                          clear HB
                          clear h0_ h1_ h2_ h3_ h4_ h5_ h6_ h7_ h8_ h9_ h10_ h11_ h12_ h13_ h14_ h15_
                          have HO446 := n0_
                          have HO450 := n1_
                          have HO460 := n2_
                          have BK440 := n3_
                          have BK441 := n4_
                          have BK447 := n5_
                          have BK468 := n6_
                          have GW468 := n7_
                          have GE468 := n8_
                          have NB440_468 := n9_
                          have NB468_440 := n10_
                          have NB441_468 := n11_
                          have NB468_441 := n12_
                          have NB447_468 := n13_
                          have NB468_447 := n14_
                          have HB := n15_
                          clear n0_ n1_ n2_ n3_ n4_ n5_ n6_ n7_ n8_ n9_ n10_ n11_ n12_ n13_ n14_ n15_
                          have hHeld : w32.cell? ⟨gb440, 0, none⟩ = some (.int .i64 a0_0) ∧ w32.cell? ⟨gb440, 1, none⟩ = some (.slice A0_1 l0_1.length c0_1) ∧ w32.cell? ⟨gb441, 0, none⟩ = some (.int .i64 a2_0) ∧ w32.cell? ⟨gb441, 1, none⟩ = some (.int .i64 a2_1) ∧ w32.cell? ⟨gb441, 2, none⟩ = some (.int .i64 a2_2) := hS_
                          refine norm_ (a' := ?_) ?_ ?_
                          rotate_left
                          · simp only [putAll, Act.put, List.setIfInBounds_toArray, List.set_cons_zero, List.set_cons_succ]
                            rfl
                          refine one_ (i := 9) (N := some 31) #[true, true, true, true, true, true, true, true, true, true, true, true, false, false, false, true, false] rfl rfl (one_of HT_.out (by kernel_rfl)) (by decide) (fun K hK => ?_)
                          refine Kd.R_append_rows_step k41 (w0 := w) w.heap.size (by rfl) (.const (.slice none 0 0)) (.tmp 30) 22 41 (.agg #[(.int .i64 0), (.int .i64 0), (.int .i64 0)]) 24 rfl Try.underlying22 info41 rfl (by decide) (by omega) (.slice none 0 0) ([] : List (S41)) y451 _ _ _ (fun k_ => some k_ ≠ (.slice Ao25 t444.length co25 : Value).ownBlock ∧ some k_ ≠ (v459 : Value).ownBlock ∧ k_ ≠ gb441) (fun _ => False) rfl rfl ?aO ?aR (fun _ _ h => h) (fun _ h => h.elim) ?aF ?aB ?aS ?aL ?_
                          (case aR => repeat (first | exact (Kd.C_below HR454.out HB.out) | (with_reducible refine Kd.C_alloc ?_ _) | (with_reducible refine Kd.C_drewN ?_ _) | (with_reducible refine Kd.C_drew ?_)))
                          (case aB => exact (by repeat (first | (with_reducible first | exact HB.out | apply below_alloc | apply pw_below_drewN | apply below_drew1 | refine below_set ?_ GE440.out | refine below_set ?_ GE441.out | refine below_set ?_ GE447.out | refine below_set ?_ GE468.out) | exact HB.out)))
                          (case aF => exact (fun k_ hk => ⟨Kd.fresh' (Kd.R_lt (by (with_reducible repeat (first | apply Kd.R_alloc | apply Kd.R_drewN | apply Kd.R_drew)); exact HO446.out)) k_ hk, Kd.fresh' (Kd.R_lt (by (with_reducible repeat (first | apply Kd.R_alloc | apply Kd.R_drewN | apply Kd.R_drew)); exact HO460.out)) k_ hk, Kd.freshB (g := gb441) (o := .cells #[.int .i64 a2_0, .int .i64 a2_1, .int .i64 a2_2] 41 (0, 0)) (by (with_reducible repeat (first | refine blk_drewN ?_ _ | refine blk_drew ?_ | refine blk_alloc ?_ _)); exact BK441.out) k_ hk⟩))
                          (case aO => exact ((Kd.R_nil _ _ _ _ (fun k_ => some k_ ≠ (.slice Ao25 t444.length co25 : Value).ownBlock ∧ some k_ ≠ (v459 : Value).ownBlock ∧ k_ ≠ gb441))))
                          (case aS => exact (below_size (by repeat (first | (with_reducible first | exact HB.out | apply below_alloc | apply pw_below_drewN | apply below_drew1 | refine below_set ?_ GE440.out | refine below_set ?_ GE441.out | refine below_set ?_ GE447.out | refine below_set ?_ GE468.out) | exact HB.out))))
                          (case aL => have := LMc10.out; omega)
                          intro v456 w33 ho hb hg hat
                          rw [← Ny455.out] at ho
                          have n0_ := Aside0.mk (blk_grown (g := gb440) (o := .cells #[.int .i64 a0_0, .slice A0_1 l0_1.length c0_1] 24 (0, 0)) (by (with_reducible repeat (first | refine blk_drewN ?_ _ | refine blk_drew ?_ | refine blk_alloc ?_ _)); exact BK440.out) hg (by simp [Value.ownBlock]))
                          have n1_ := Aside0.mk (blk_grown (g := gb441) (o := .cells #[.int .i64 a2_0, .int .i64 a2_1, .int .i64 a2_2] 41 (0, 0)) (by (with_reducible repeat (first | refine blk_drewN ?_ _ | refine blk_drew ?_ | refine blk_alloc ?_ _)); exact BK441.out) hg (by simp [Value.ownBlock]))
                          have n2_ := Aside0.mk (Kd.R_after (Kd.R_apart_nil (by (with_reducible repeat (first | apply Kd.R_alloc | apply Kd.R_drewN | apply Kd.R_drew)); exact HO446.out)) hg hat)
                          have n3_ := Aside0.mk (blk_grown (g := gb447) (o := .cells #[.int .i64 t443, .slice Ao25 t444.length co25] 24 (0, 0)) (by (with_reducible repeat (first | refine blk_drewN ?_ _ | refine blk_drew ?_ | refine blk_alloc ?_ _)); exact BK447.out) hg (by simp [Value.ownBlock]))
                          have n4_ := Aside0.mk (Kd.R_grown (by (with_reducible repeat (first | apply Kd.R_alloc | apply Kd.R_drewN | apply Kd.R_drew)); exact HO450.out) hg (fun _ _ => by simp [Value.ownBlock]))
                          have n5_ := Aside0.mk (Kd.R_after (Kd.R_apart_nil (by (with_reducible repeat (first | apply Kd.R_alloc | apply Kd.R_drewN | apply Kd.R_drew)); exact HO460.out)) hg hat)
                          have n6_ := Aside0.mk (blk_grown (g := gb468) (o := .cells #[.int .i64 0, .slice none 0 0] 24 (0, 0)) (by (with_reducible repeat (first | refine blk_drewN ?_ _ | refine blk_drew ?_ | refine blk_alloc ?_ _)); exact BK468.out) hg (by simp [Value.ownBlock]))
                          have n7_ := Aside0.mk (hb)
                          have n8_ := Aside0.mk (ho)
                          clear BK440
                          clear BK441
                          clear HO446
                          clear BK447
                          clear HO450
                          clear HO460
                          clear BK468
                          clear HB
                          have BK440 := n0_
                          have BK441 := n1_
                          have HO446 := n2_
                          have BK447 := n3_
                          have HO450 := n4_
                          have HO460 := n5_
                          have BK468 := n6_
                          have HB := n7_
                          have HO457 := n8_
                          clear n0_ n1_ n2_ n3_ n4_ n5_ n6_ n7_ n8_
                          clear ho hb hg hat
                          refine hK.out _ _ ⟨(blk_cell BK440.out 0).trans rfl, (blk_cell BK440.out 1).trans rfl, (blk_cell BK441.out 0).trans rfl, (blk_cell BK441.out 1).trans rfl, (blk_cell BK441.out 2).trans rfl⟩ (fun hHeld => ?_)
                          clear hK K
                          refine norm_ (a' := ?_) ?_ ?_
                          rotate_left
                          · show Act.put _ (some 31) _ = _
                            simp only [Act.put, List.setIfInBounds_toArray, List.set_cons_zero, List.set_cons_succ, i64_w, i32_w]
                            rfl
                          exact norm_ (by first | (simp only [putAll, Act.put, List.setIfInBounds_toArray, List.set_cons_zero, List.set_cons_succ]; done) | (simp only [putAll, Act.put, List.setIfInBounds_toArray, List.set_cons_zero, List.set_cons_succ]; rfl)) (hJ9_11_15 (v456, v459, gb468) _ ⟨hHeld, (by (with_reducible repeat (first | apply Kd.R_alloc | apply Kd.R_drewN | apply Kd.R_drew)); exact Kd.R_mono HO446.out (fun _ hk => ⟨hk.2, ⟨hk.1.1, hk.1.2⟩⟩)), (by (with_reducible repeat (first | apply Kd.R_alloc | apply Kd.R_drewN | apply Kd.R_drew)); exact HO450.out), (by (with_reducible repeat (first | apply Kd.R_alloc | apply Kd.R_drewN | apply Kd.R_drew)); exact HO457.out), (by (with_reducible repeat (first | apply Kd.R_alloc | apply Kd.R_drewN | apply Kd.R_drew)); exact Kd.R_mono HO460.out (fun _ hk => ⟨hk.1.1, ⟨hk.2, hk.1.2⟩⟩)), (by (with_reducible repeat (first | refine blk_drewN ?_ _ | refine blk_drew ?_ | refine blk_alloc ?_ _)); exact BK440.out), (by (with_reducible repeat (first | refine blk_drewN ?_ _ | refine blk_drew ?_ | refine blk_alloc ?_ _)); exact BK441.out), (by (with_reducible repeat (first | refine blk_drewN ?_ _ | refine blk_drew ?_ | refine blk_alloc ?_ _)); exact BK447.out), (by (with_reducible repeat (first | refine blk_drewN ?_ _ | refine blk_drew ?_ | refine blk_alloc ?_ _)); exact BK468.out), GW468.out, GE468.out, NB440_468.out, NB468_440.out, NB441_468.out, NB468_441.out, NB447_468.out, NB468_447.out, (by repeat (first | (with_reducible first | exact HB.out | apply below_alloc | apply pw_below_drewN | apply below_drew1 | refine below_set ?_ GE440.out | refine below_set ?_ GE441.out | refine below_set ?_ GE447.out | refine below_set ?_ GE468.out) | exact HB.out))⟩)
                      · skip
                        rintro ⟨v456, gb468⟩ w31 ⟨hS_, h0_, h1_, h2_, h3_, h4_, h5_, h6_, h7_, h8_, h9_, h10_, h11_, h12_, h13_, h14_, h15_⟩
                        have n0_ : Aside0 (Kd.R k41 41 w31 w.heap.size (fun k_ => some k_ ≠ (v456 : Value).ownBlock ∧ k_ ≠ gb441) (.slice Ao25 t444.length co25) t444) := ⟨h0_⟩
                        have n1_ : Aside0 (Kd.R (Kd.int .i64) 3 w31 w.heap.size (fun _ => True) v449 t448) := ⟨h1_⟩
                        have n2_ : Aside0 (Kd.R k41 41 w31 w.heap.size (fun k_ => some k_ ≠ (.slice Ao25 t444.length co25 : Value).ownBlock ∧ k_ ≠ gb441) v456 y455) := ⟨h2_⟩
                        have n3_ : Aside0 (w31.heap[gb440]? = some (.cells #[.int .i64 a0_0, .slice A0_1 l0_1.length c0_1] 24 (0, 0))) := ⟨h3_⟩
                        have n4_ : Aside0 (w31.heap[gb441]? = some (.cells #[.int .i64 a2_0, .int .i64 a2_1, .int .i64 a2_2] 41 (0, 0))) := ⟨h4_⟩
                        have n5_ : Aside0 (w31.heap[gb447]? = some (.cells #[.int .i64 t443, .slice Ao25 t444.length co25] 24 (0, 0))) := ⟨h5_⟩
                        have n6_ : Aside0 (w31.heap[gb468]? = some (.cells #[.int .i64 0, .slice none 0 0] 24 (0, 0))) := ⟨h6_⟩
                        have n7_ : Aside0 (w.heap.size ≤ gb468) := ⟨h7_⟩
                        have n8_ : Aside0 (w.heap.size ≤ gb468) := ⟨h8_⟩
                        have n9_ : Aside0 (gb440 ≠ gb468) := ⟨h9_⟩
                        have n10_ : Aside0 (gb468 ≠ gb440) := ⟨h10_⟩
                        have n11_ : Aside0 (gb441 ≠ gb468) := ⟨h11_⟩
                        have n12_ : Aside0 (gb468 ≠ gb441) := ⟨h12_⟩
                        have n13_ : Aside0 (gb447 ≠ gb468) := ⟨h13_⟩
                        have n14_ : Aside0 (gb468 ≠ gb447) := ⟨h14_⟩
                        have n15_ : Aside0 (Below w.heap.size w w31) := ⟨h15_⟩
                        clear HO446
                        clear HO450
                        clear BK440
                        clear BK441
                        clear BK447
                        clear HB
                        clear h0_ h1_ h2_ h3_ h4_ h5_ h6_ h7_ h8_ h9_ h10_ h11_ h12_ h13_ h14_ h15_
                        have HO446 := n0_
                        have HO450 := n1_
                        have HO457 := n2_
                        have BK440 := n3_
                        have BK441 := n4_
                        have BK447 := n5_
                        have BK468 := n6_
                        have GW468 := n7_
                        have GE468 := n8_
                        have NB440_468 := n9_
                        have NB468_440 := n10_
                        have NB441_468 := n11_
                        have NB468_441 := n12_
                        have NB447_468 := n13_
                        have NB468_447 := n14_
                        have HB := n15_
                        clear n0_ n1_ n2_ n3_ n4_ n5_ n6_ n7_ n8_ n9_ n10_ n11_ n12_ n13_ n14_ n15_
                        have hHeld : w31.cell? ⟨gb440, 0, none⟩ = some (.int .i64 a0_0) ∧ w31.cell? ⟨gb440, 1, none⟩ = some (.slice A0_1 l0_1.length c0_1) ∧ w31.cell? ⟨gb441, 0, none⟩ = some (.int .i64 a2_0) ∧ w31.cell? ⟨gb441, 1, none⟩ = some (.int .i64 a2_1) ∧ w31.cell? ⟨gb441, 2, none⟩ = some (.int .i64 a2_2) := hS_
                        refine norm_ (a' := ?_) ?_ ?_
                        rotate_left
                        · simp only [putAll, Act.put, List.setIfInBounds_toArray, List.set_cons_zero, List.set_cons_succ]
                          rfl
                        refine one_ (i := 11) (N := some 33) #[true, true, true, true, true, true, true, true, true, true, true, true, false, false, false, true, false] rfl rfl (one_of HT_.out (by kernel_rfl)) (by decide) (fun K hK => ?_)
                        refine Kd.R_lit_step k41 _ 41 ?hg (N := 33) ?hd (xs := ([(⟨a2_0, a2_1, a2_2⟩ : S41)] : List (S41))) (inner := [.int .i64 a2_0, .int .i64 a2_1, .int .i64 a2_2]) (ok := fun _ => True) (okp := fun _ => True) ?hr ?hp (fun _ hk => hk) trivial (Below.refl _ _) (Nat.le_refl _) (by simp) ?_; (case hd => rfl); (case hg => rfl); (case hr => first | (go_simp; done) | (go_simp; rfl)); (case hp => exact (Reps.c3 (show Kd.M k41 _ _ _ (⟨a2_0, a2_1, a2_2⟩ : S41) [.int .i64 a2_0, .int .i64 a2_1, .int .i64 a2_2] from (k41_mkM _ _ _ (⟨a2_0, a2_1, a2_2⟩ : S41) )) (Reps.none _ _)))
                        intro v459 w32 ho33 hb hg_ hnew_
                        clear hg_ hnew_
                        (first | rw [← Ny458.out] at ho33 | (simp only [Int.reduceToNat] at ho33; rw [← Ny458.out] at ho33))
                        have n0_ := Aside0.mk (Kd.R_elder' (by (with_reducible repeat (first | apply Kd.R_alloc | apply Kd.R_drewN | apply Kd.R_drew)); exact HO446.out) (Kd.R_base ho33) hb)
                        have n1_ := Aside0.mk (Kd.R_below (by (with_reducible repeat (first | apply Kd.R_alloc | apply Kd.R_drewN | apply Kd.R_drew)); exact HO450.out) hb)
                        have n2_ := Aside0.mk (Kd.R_elder' (by (with_reducible repeat (first | apply Kd.R_alloc | apply Kd.R_drewN | apply Kd.R_drew)); exact HO457.out) (Kd.R_base ho33) hb)
                        have n3_ := Aside0.mk (Kd.R_lower (Kd.R_newB (Kd.R_new' (Kd.R_new' ho33 (Kd.R_lt (by (with_reducible repeat (first | apply Kd.R_alloc | apply Kd.R_drewN | apply Kd.R_drew)); exact HO446.out))) (Kd.R_lt (by (with_reducible repeat (first | apply Kd.R_alloc | apply Kd.R_drewN | apply Kd.R_drew)); exact HO457.out))) (g := gb441) (o := .cells #[.int .i64 a2_0, .int .i64 a2_1, .int .i64 a2_2] 41 (0, 0)) (by (with_reducible repeat (first | refine blk_drewN ?_ _ | refine blk_drew ?_ | refine blk_alloc ?_ _)); exact BK441.out)) (below_size (by repeat (first | (with_reducible first | exact HB.out | apply below_alloc | apply pw_below_drewN | apply below_drew1 | refine below_set ?_ GE440.out | refine below_set ?_ GE441.out | refine below_set ?_ GE447.out | refine below_set ?_ GE468.out) | exact HB.out))))
                        have n4_ := Aside0.mk (blk_below (g := gb440) (o := .cells #[.int .i64 a0_0, .slice A0_1 l0_1.length c0_1] 24 (0, 0)) (by (with_reducible repeat (first | refine blk_drewN ?_ _ | refine blk_drew ?_ | refine blk_alloc ?_ _)); exact BK440.out) hb)
                        have n5_ := Aside0.mk (blk_below (g := gb441) (o := .cells #[.int .i64 a2_0, .int .i64 a2_1, .int .i64 a2_2] 41 (0, 0)) (by (with_reducible repeat (first | refine blk_drewN ?_ _ | refine blk_drew ?_ | refine blk_alloc ?_ _)); exact BK441.out) hb)
                        have n6_ := Aside0.mk (blk_below (g := gb447) (o := .cells #[.int .i64 t443, .slice Ao25 t444.length co25] 24 (0, 0)) (by (with_reducible repeat (first | refine blk_drewN ?_ _ | refine blk_drew ?_ | refine blk_alloc ?_ _)); exact BK447.out) hb)
                        have n7_ := Aside0.mk (blk_below (g := gb468) (o := .cells #[.int .i64 0, .slice none 0 0] 24 (0, 0)) (by (with_reducible repeat (first | refine blk_drewN ?_ _ | refine blk_drew ?_ | refine blk_alloc ?_ _)); exact BK468.out) hb)
                        have n8_ := Aside0.mk (below_step (by repeat (first | (with_reducible first | exact HB.out | apply below_alloc | apply pw_below_drewN | apply below_drew1 | refine below_set ?_ GE440.out | refine below_set ?_ GE441.out | refine below_set ?_ GE447.out | refine below_set ?_ GE468.out) | exact HB.out)) hb)
                        clear HO446
                        clear HO450
                        clear HO457
                        clear BK440
                        clear BK441
                        clear BK447
                        clear BK468
                        clear HB
                        have HO446 := n0_
                        have HO450 := n1_
                        have HO457 := n2_
                        have HO460 := n3_
                        have BK440 := n4_
                        have BK441 := n5_
                        have BK447 := n6_
                        have BK468 := n7_
                        have HB := n8_
                        clear n0_ n1_ n2_ n3_ n4_ n5_ n6_ n7_ n8_
                        clear hb ho33
                        refine hK.out _ _ ⟨(blk_cell BK440.out 0).trans rfl, (blk_cell BK440.out 1).trans rfl, (blk_cell BK441.out 0).trans rfl, (blk_cell BK441.out 1).trans rfl, (blk_cell BK441.out 2).trans rfl⟩ (fun hHeld => ?_)
                        clear hK K
                        refine norm_ (a' := ?_) ?_ ?_
                        rotate_left
                        · show Act.put _ (some 33) _ = _
                          simp only [Act.put, List.setIfInBounds_toArray, List.set_cons_zero, List.set_cons_succ, i64_w, i32_w]
                          rfl
                        exact norm_ (by first | (simp only [putAll, Act.put, List.setIfInBounds_toArray, List.set_cons_zero, List.set_cons_succ]; done) | (simp only [putAll, Act.put, List.setIfInBounds_toArray, List.set_cons_zero, List.set_cons_succ]; rfl)) (hJ9_11_15 (v456, v459, gb468) _ ⟨hHeld, (by (with_reducible repeat (first | apply Kd.R_alloc | apply Kd.R_drewN | apply Kd.R_drew)); exact Kd.R_mono HO446.out (fun _ hk => ⟨hk.1.1, ⟨hk.2, hk.1.2⟩⟩)), (by (with_reducible repeat (first | apply Kd.R_alloc | apply Kd.R_drewN | apply Kd.R_drew)); exact HO450.out), (by (with_reducible repeat (first | apply Kd.R_alloc | apply Kd.R_drewN | apply Kd.R_drew)); exact Kd.R_mono HO457.out (fun _ hk => ⟨hk.1.1, ⟨hk.2, hk.1.2⟩⟩)), (by (with_reducible repeat (first | apply Kd.R_alloc | apply Kd.R_drewN | apply Kd.R_drew)); exact Kd.R_mono HO460.out (fun _ hk => ⟨hk.1.1.2, ⟨hk.1.2, hk.2⟩⟩)), (by (with_reducible repeat (first | refine blk_drewN ?_ _ | refine blk_drew ?_ | refine blk_alloc ?_ _)); exact BK440.out), (by (with_reducible repeat (first | refine blk_drewN ?_ _ | refine blk_drew ?_ | refine blk_alloc ?_ _)); exact BK441.out), (by (with_reducible repeat (first | refine blk_drewN ?_ _ | refine blk_drew ?_ | refine blk_alloc ?_ _)); exact BK447.out), (by (with_reducible repeat (first | refine blk_drewN ?_ _ | refine blk_drew ?_ | refine blk_alloc ?_ _)); exact BK468.out), GW468.out, GE468.out, NB440_468.out, NB468_440.out, NB441_468.out, NB468_441.out, NB447_468.out, NB468_447.out, (by repeat (first | (with_reducible first | exact HB.out | apply below_alloc | apply pw_below_drewN | apply below_drew1 | refine below_set ?_ GE440.out | refine below_set ?_ GE441.out | refine below_set ?_ GE447.out | refine below_set ?_ GE468.out) | exact HB.out))⟩)
                    · skip
                      rintro ⟨v456, v459⟩ w32 ⟨hS_, h0_, h1_, h2_, h3_, h4_, h5_, h6_, h7_⟩
                      have n0_ : Aside0 (Kd.R k41 41 w32 w.heap.size (fun k_ => some k_ ≠ (v456 : Value).ownBlock ∧ some k_ ≠ (v459 : Value).ownBlock ∧ k_ ≠ gb441) (.slice Ao25 t444.length co25) t444) := ⟨h0_⟩
                      have n1_ : Aside0 (Kd.R (Kd.int .i64) 3 w32 w.heap.size (fun _ => True) v449 t448) := ⟨h1_⟩
                      have n2_ : Aside0 (Kd.R k41 41 w32 w.heap.size (fun k_ => some k_ ≠ (.slice Ao25 t444.length co25 : Value).ownBlock ∧ some k_ ≠ (v459 : Value).ownBlock ∧ k_ ≠ gb441) v456 y455) := ⟨h2_⟩
                      have n3_ : Aside0 (Kd.R k41 41 w32 w.heap.size (fun k_ => some k_ ≠ (.slice Ao25 t444.length co25 : Value).ownBlock ∧ some k_ ≠ (v456 : Value).ownBlock ∧ k_ ≠ gb441) v459 y458) := ⟨h3_⟩
                      have n4_ : Aside0 (w32.heap[gb440]? = some (.cells #[.int .i64 a0_0, .slice A0_1 l0_1.length c0_1] 24 (0, 0))) := ⟨h4_⟩
                      have n5_ : Aside0 (w32.heap[gb441]? = some (.cells #[.int .i64 a2_0, .int .i64 a2_1, .int .i64 a2_2] 41 (0, 0))) := ⟨h5_⟩
                      have n6_ : Aside0 (w32.heap[gb447]? = some (.cells #[.int .i64 t443, .slice Ao25 t444.length co25] 24 (0, 0))) := ⟨h6_⟩
                      have n7_ : Aside0 (Below w.heap.size w w32) := ⟨h7_⟩
                      clear HO446
                      clear HO450
                      clear BK440
                      clear BK441
                      clear BK447
                      clear HB
                      clear h0_ h1_ h2_ h3_ h4_ h5_ h6_ h7_
                      have HO446 := n0_
                      have HO450 := n1_
                      have HO457 := n2_
                      have HO460 := n3_
                      have BK440 := n4_
                      have BK441 := n5_
                      have BK447 := n6_
                      have HB := n7_
                      clear n0_ n1_ n2_ n3_ n4_ n5_ n6_ n7_
                      have hHeld : w32.cell? ⟨gb440, 0, none⟩ = some (.int .i64 a0_0) ∧ w32.cell? ⟨gb440, 1, none⟩ = some (.slice A0_1 l0_1.length c0_1) ∧ w32.cell? ⟨gb441, 0, none⟩ = some (.int .i64 a2_0) ∧ w32.cell? ⟨gb441, 1, none⟩ = some (.int .i64 a2_1) ∧ w32.cell? ⟨gb441, 2, none⟩ = some (.int .i64 a2_2) := hS_
                      obtain ⟨Ao34, co34, eo34⟩ := Kd.R_slice HO460.out
                      (first | subst eo34 | (injection eo34 with f1_ f2_ f3_; have f4_ := f1_.symm; have f5_ := f3_.symm; clear f1_ f2_ f3_; subst f4_; subst f5_))
                      refine norm_ (a' := ?_) ?_ ?_
                      rotate_left
                      · simp only [putAll, Act.put, List.setIfInBounds_toArray, List.set_cons_zero, List.set_cons_succ]
                        rfl
                      refine two_ (i := 12) (j := 15) (Ni := some 34) (Nj := some 10) #[true, true, true, true, true, true, true, true, true, true, true, true, true, false, false, false, false] #[true, true, true, true, true, true, true, true, true, true, true, true, false, false, false, true, false] rfl rfl rfl rfl (two_of HT_.out (by kernel_rfl)) (by decide) (by decide) (fun K hK => ?_) (fun K hK => ?_)
                      · skip
                        refine Kd.R_append_rows_step k41 (w0 := w) w.heap.size (by rfl) (.tmp 31) (.tmp 33) 22 41 (.agg #[(.int .i64 0), (.int .i64 0), (.int .i64 0)]) 24 rfl Try.underlying22 info41 rfl (by decide) (by omega) v456 y455 y458 _ _ _ (fun k_ => some k_ ≠ (.slice Ao25 t444.length co25 : Value).ownBlock ∧ some k_ ≠ (.slice Ao34 y458.length co34 : Value).ownBlock ∧ k_ ≠ gb441) (fun _ => False) rfl rfl ?aO ?aR (fun _ _ h => h) (fun _ h => h.elim) ?aF ?aB ?aS ?aL ?_
                        (case aR => repeat (first | exact (Kd.R_reads' HO460.out).2.2 | (with_reducible refine Kd.C_alloc ?_ _) | (with_reducible refine Kd.C_drewN ?_ _) | (with_reducible refine Kd.C_drew ?_)))
                        (case aB => exact (by repeat (first | (with_reducible first | exact HB.out | apply below_alloc | apply pw_below_drewN | apply below_drew1 | refine below_set ?_ GE440.out | refine below_set ?_ GE441.out | refine below_set ?_ GE447.out) | exact HB.out)))
                        (case aF => exact (fun k_ hk => ⟨Kd.fresh' (Kd.R_lt (by (with_reducible repeat (first | apply Kd.R_alloc | apply Kd.R_drewN | apply Kd.R_drew)); exact HO446.out)) k_ hk, Kd.fresh' (Kd.R_lt (by (with_reducible repeat (first | apply Kd.R_alloc | apply Kd.R_drewN | apply Kd.R_drew)); exact HO460.out)) k_ hk, Kd.freshB (g := gb441) (o := .cells #[.int .i64 a2_0, .int .i64 a2_1, .int .i64 a2_2] 41 (0, 0)) (by (with_reducible repeat (first | refine blk_drewN ?_ _ | refine blk_drew ?_ | refine blk_alloc ?_ _)); exact BK441.out) k_ hk⟩))
                        (case aO => exact (by (with_reducible repeat (first | apply Kd.R_alloc | apply Kd.R_drewN | apply Kd.R_drew)); exact HO457.out))
                        (case aS => exact (below_size (by repeat (first | (with_reducible first | exact HB.out | apply below_alloc | apply pw_below_drewN | apply below_drew1 | refine below_set ?_ GE440.out | refine below_set ?_ GE441.out | refine below_set ?_ GE447.out) | exact HB.out))))
                        (case aL => have := LMc11.out; omega)
                        intro v462 w33 ho hb hg hat
                        rw [← Ny461.out] at ho
                        have n0_ := Aside0.mk (blk_grown (g := gb440) (o := .cells #[.int .i64 a0_0, .slice A0_1 l0_1.length c0_1] 24 (0, 0)) (by (with_reducible repeat (first | refine blk_drewN ?_ _ | refine blk_drew ?_ | refine blk_alloc ?_ _)); exact BK440.out) hg (Kd.R_ne HO457.out BK440.out (by decide)))
                        have n1_ := Aside0.mk (blk_grown (g := gb441) (o := .cells #[.int .i64 a2_0, .int .i64 a2_1, .int .i64 a2_2] 41 (0, 0)) (by (with_reducible repeat (first | refine blk_drewN ?_ _ | refine blk_drew ?_ | refine blk_alloc ?_ _)); exact BK441.out) hg (Kd.R_away HO457.out (fun _ hk => hk.2.2)))
                        have n2_ := Aside0.mk (Kd.R_after (ok := (fun k_ => some k_ ≠ (.slice Ao34 y458.length co34 : Value).ownBlock ∧ k_ ≠ gb441)) (by (with_reducible repeat (first | apply Kd.R_alloc | apply Kd.R_drewN | apply Kd.R_drew)); exact Kd.R_mono HO446.out (fun _ hk => ⟨⟨hk.2.1, hk.2.2⟩, hk.1⟩)) hg hat)
                        have n3_ := Aside0.mk (blk_grown (g := gb447) (o := .cells #[.int .i64 t443, .slice Ao25 t444.length co25] 24 (0, 0)) (by (with_reducible repeat (first | refine blk_drewN ?_ _ | refine blk_drew ?_ | refine blk_alloc ?_ _)); exact BK447.out) hg (Kd.R_ne HO457.out BK447.out (by decide)))
                        have n4_ := Aside0.mk (Kd.R_over' (by (with_reducible repeat (first | apply Kd.R_alloc | apply Kd.R_drewN | apply Kd.R_drew)); exact HO450.out) (Kd.R_typed (by (with_reducible repeat (first | apply Kd.R_alloc | apply Kd.R_drewN | apply Kd.R_drew)); exact HO457.out)) (by decide) hg)
                        have n5_ := Aside0.mk (Kd.R_after (ok := (fun k_ => some k_ ≠ (.slice Ao25 t444.length co25 : Value).ownBlock ∧ k_ ≠ gb441)) (by (with_reducible repeat (first | apply Kd.R_alloc | apply Kd.R_drewN | apply Kd.R_drew)); exact Kd.R_mono HO460.out (fun _ hk => ⟨⟨hk.1, hk.2.2⟩, hk.2.1⟩)) hg hat)
                        have n6_ := Aside0.mk (hb)
                        have n7_ := Aside0.mk (ho)
                        clear BK440
                        clear BK441
                        clear HO446
                        clear BK447
                        clear HO450
                        clear HO460
                        clear HB
                        clear HO457
                        have BK440 := n0_
                        have BK441 := n1_
                        have HO446 := n2_
                        have BK447 := n3_
                        have HO450 := n4_
                        have HO460 := n5_
                        have HB := n6_
                        have HO463 := n7_
                        clear n0_ n1_ n2_ n3_ n4_ n5_ n6_ n7_
                        clear ho hb hg hat
                        obtain ⟨Ao35, co35, eo35⟩ := Kd.R_slice HO463.out
                        (first | subst eo35 | (injection eo35 with f1_ f2_ f3_; have f4_ := f1_.symm; have f5_ := f3_.symm; clear f1_ f2_ f3_; subst f4_; subst f5_))
                        refine hK.out _ _ ⟨(blk_cell BK440.out 0).trans rfl, (blk_cell BK440.out 1).trans rfl, (blk_cell BK441.out 0).trans rfl, (blk_cell BK441.out 1).trans rfl, (blk_cell BK441.out 2).trans rfl⟩ (fun hHeld => ?_)
                        clear hK K
                        refine norm_ (a' := ?_) ?_ ?_
                        rotate_left
                        · show Act.put _ (some 34) _ = _
                          simp only [Act.put, List.setIfInBounds_toArray, List.set_cons_zero, List.set_cons_succ, i64_w, i32_w]
                          rfl
                        refine pure_ (i := 13) (N := some 35) (v := ?_) (a' := ?_) #[true, true, true, true, true, true, true, true, true, true, true, true, true, true, false, false, false] rfl rfl (any_of HT_.out (by kernel_rfl)) (fun _ _ _ h => h) (Or.inl ⟨by rfl, ?_⟩) ?_ ?_
                        rotate_left
                        · intro w'
                          go_simp
                          with_reducible rfl
                        rotate_left
                        · simp only [Act.put, List.setIfInBounds_toArray, List.set_cons_zero, List.set_cons_succ, i64_w, i32_w]
                          rfl
                        exact norm_ (by first | (simp only [putAll, Act.put, List.setIfInBounds_toArray, List.set_cons_zero, List.set_cons_succ]; done) | (simp only [putAll, Act.put, List.setIfInBounds_toArray, List.set_cons_zero, List.set_cons_succ]; rfl)) (hJ9_11_12 (v456, .slice Ao34 y458.length co34, .slice Ao35 y461.length co35) _ ⟨hHeld, (by (with_reducible repeat (first | apply Kd.R_alloc | apply Kd.R_drewN | apply Kd.R_drew)); exact Kd.R_mono HO446.out (fun _ hk => ⟨hk.1.1, ⟨hk.2, hk.1.2⟩⟩)), (by (with_reducible repeat (first | apply Kd.R_alloc | apply Kd.R_drewN | apply Kd.R_drew)); exact HO450.out), (by (with_reducible repeat (first | apply Kd.R_alloc | apply Kd.R_drewN | apply Kd.R_drew)); exact Kd.R_mono HO460.out (fun _ hk => ⟨hk.1.1, ⟨hk.2, hk.1.2⟩⟩)), (by (with_reducible repeat (first | apply Kd.R_alloc | apply Kd.R_drewN | apply Kd.R_drew)); exact HO463.out), (by (with_reducible repeat (first | refine blk_drewN ?_ _ | refine blk_drew ?_ | refine blk_alloc ?_ _)); exact BK440.out), (by (with_reducible repeat (first | refine blk_drewN ?_ _ | refine blk_drew ?_ | refine blk_alloc ?_ _)); exact BK441.out), (by (with_reducible repeat (first | refine blk_drewN ?_ _ | refine blk_drew ?_ | refine blk_alloc ?_ _)); exact BK447.out), (by repeat (first | (with_reducible first | exact HB.out | apply below_alloc | apply pw_below_drewN | apply below_drew1 | refine below_set ?_ GE440.out | refine below_set ?_ GE441.out | refine below_set ?_ GE447.out) | exact HB.out))⟩)
                      · skip
                        refine box_step ?hg (N := 10) ?hd (cs := #[.int .i64 0, .slice none 0 0]) (t := 24) ?hr ?_; (case hd => rfl); (case hg => rfl); (case hr => first | (go_simp; done) | (go_simp; rfl))
                        intro gb468 hg w33 hbox hb
                        have n0_ := Aside0.mk (Kd.R_below (by (with_reducible repeat (first | apply Kd.R_alloc | apply Kd.R_drewN | apply Kd.R_drew)); exact HO446.out) hb)
                        have n1_ := Aside0.mk (Kd.R_below (by (with_reducible repeat (first | apply Kd.R_alloc | apply Kd.R_drewN | apply Kd.R_drew)); exact HO450.out) hb)
                        have n2_ := Aside0.mk (Kd.R_below (by (with_reducible repeat (first | apply Kd.R_alloc | apply Kd.R_drewN | apply Kd.R_drew)); exact HO457.out) hb)
                        have n3_ := Aside0.mk (Kd.R_below (by (with_reducible repeat (first | apply Kd.R_alloc | apply Kd.R_drewN | apply Kd.R_drew)); exact HO460.out) hb)
                        have n4_ := Aside0.mk (blk_below (g := gb440) (o := .cells #[.int .i64 a0_0, .slice A0_1 l0_1.length c0_1] 24 (0, 0)) (by (with_reducible repeat (first | refine blk_drewN ?_ _ | refine blk_drew ?_ | refine blk_alloc ?_ _)); exact BK440.out) hb)
                        have n5_ := Aside0.mk (blk_below (g := gb441) (o := .cells #[.int .i64 a2_0, .int .i64 a2_1, .int .i64 a2_2] 41 (0, 0)) (by (with_reducible repeat (first | refine blk_drewN ?_ _ | refine blk_drew ?_ | refine blk_alloc ?_ _)); exact BK441.out) hb)
                        have n6_ := Aside0.mk (blk_below (g := gb447) (o := .cells #[.int .i64 t443, .slice Ao25 t444.length co25] 24 (0, 0)) (by (with_reducible repeat (first | refine blk_drewN ?_ _ | refine blk_drew ?_ | refine blk_alloc ?_ _)); exact BK447.out) hb)
                        have n7_ := Aside0.mk (below_step (by repeat (first | (with_reducible first | exact HB.out | apply below_alloc | apply pw_below_drewN | apply below_drew1 | refine below_set ?_ GE440.out | refine below_set ?_ GE441.out | refine below_set ?_ GE447.out) | exact HB.out)) hb)
                        have n8_ := Aside0.mk (hbox)
                        have n9_ := Aside0.mk ((by rw [hg]; exact (below_size (by repeat (first | (with_reducible first | exact HB.out | apply below_alloc | apply pw_below_drewN | apply below_drew1 | refine below_set ?_ GE440.out | refine below_set ?_ GE441.out | refine below_set ?_ GE447.out) | exact HB.out))) : w.heap.size ≤ gb468))
                        have n10_ := Aside0.mk ((by rw [hg]; exact (below_size (by repeat (first | (with_reducible first | exact HB.out | apply below_alloc | apply pw_below_drewN | apply below_drew1 | refine below_set ?_ GE440.out | refine below_set ?_ GE441.out | refine below_set ?_ GE447.out) | exact HB.out))) : w.heap.size ≤ gb468))
                        have n11_ := Aside0.mk ((by rw [hg]; exact Nat.ne_of_lt (blk_lt (g := gb440) (o := .cells #[.int .i64 a0_0, .slice A0_1 l0_1.length c0_1] 24 (0, 0)) (by (with_reducible repeat (first | refine blk_drewN ?_ _ | refine blk_drew ?_ | refine blk_alloc ?_ _)); exact BK440.out)) : gb440 ≠ gb468))
                        have n12_ := Aside0.mk ((by rw [hg]; exact Nat.ne_of_gt (blk_lt (g := gb440) (o := .cells #[.int .i64 a0_0, .slice A0_1 l0_1.length c0_1] 24 (0, 0)) (by (with_reducible repeat (first | refine blk_drewN ?_ _ | refine blk_drew ?_ | refine blk_alloc ?_ _)); exact BK440.out)) : gb468 ≠ gb440))
                        have n13_ := Aside0.mk ((by rw [hg]; exact Nat.ne_of_lt (blk_lt (g := gb441) (o := .cells #[.int .i64 a2_0, .int .i64 a2_1, .int .i64 a2_2] 41 (0, 0)) (by (with_reducible repeat (first | refine blk_drewN ?_ _ | refine blk_drew ?_ | refine blk_alloc ?_ _)); exact BK441.out)) : gb441 ≠ gb468))
                        have n14_ := Aside0.mk ((by rw [hg]; exact Nat.ne_of_gt (blk_lt (g := gb441) (o := .cells #[.int .i64 a2_0, .int .i64 a2_1, .int .i64 a2_2] 41 (0, 0)) (by (with_reducible repeat (first | refine blk_drewN ?_ _ | refine blk_drew ?_ | refine blk_alloc ?_ _)); exact BK441.out)) : gb468 ≠ gb441))
                        have n15_ := Aside0.mk ((by rw [hg]; exact Nat.ne_of_lt (blk_lt (g := gb447) (o := .cells #[.int .i64 t443, .slice Ao25 t444.length co25] 24 (0, 0)) (by (with_reducible repeat (first | refine blk_drewN ?_ _ | refine blk_drew ?_ | refine blk_alloc ?_ _)); exact BK447.out)) : gb447 ≠ gb468))
                        have n16_ := Aside0.mk ((by rw [hg]; exact Nat.ne_of_gt (blk_lt (g := gb447) (o := .cells #[.int .i64 t443, .slice Ao25 t444.length co25] 24 (0, 0)) (by (with_reducible repeat (first | refine blk_drewN ?_ _ | refine blk_drew ?_ | refine blk_alloc ?_ _)); exact BK447.out)) : gb468 ≠ gb447))
                        clear HO446
                        clear HO450
                        clear HO457
                        clear HO460
                        clear BK440
                        clear BK441
                        clear BK447
                        clear HB
                        have HO446 := n0_
                        have HO450 := n1_
                        have HO457 := n2_
                        have HO460 := n3_
                        have BK440 := n4_
                        have BK441 := n5_
                        have BK447 := n6_
                        have HB := n7_
                        have BK468 := n8_
                        have GW468 := n9_
                        have GE468 := n10_
                        have NB440_468 := n11_
                        have NB468_440 := n12_
                        have NB441_468 := n13_
                        have NB468_441 := n14_
                        have NB447_468 := n15_
                        have NB468_447 := n16_
                        clear n0_ n1_ n2_ n3_ n4_ n5_ n6_ n7_ n8_ n9_ n10_ n11_ n12_ n13_ n14_ n15_ n16_
                        clear hb hbox hg
                        refine hK.out _ _ ⟨(blk_cell BK440.out 0).trans rfl, (blk_cell BK440.out 1).trans rfl, (blk_cell BK441.out 0).trans rfl, (blk_cell BK441.out 1).trans rfl, (blk_cell BK441.out 2).trans rfl⟩ (fun hHeld => ?_)
                        clear hK K
                        refine norm_ (a' := ?_) ?_ ?_
                        rotate_left
                        · show Act.put _ (some 10) _ = _
                          simp only [Act.put, List.setIfInBounds_toArray, List.set_cons_zero, List.set_cons_succ, i64_w, i32_w]
                          rfl
                        exact norm_ (by first | (simp only [putAll, Act.put, List.setIfInBounds_toArray, List.set_cons_zero, List.set_cons_succ]; done) | (simp only [putAll, Act.put, List.setIfInBounds_toArray, List.set_cons_zero, List.set_cons_succ]; rfl)) (hJ9_11_15 (v456, (.slice Ao34 y458.length co34), gb468) _ ⟨hHeld, (by (with_reducible repeat (first | apply Kd.R_alloc | apply Kd.R_drewN | apply Kd.R_drew)); exact HO446.out), (by (with_reducible repeat (first | apply Kd.R_alloc | apply Kd.R_drewN | apply Kd.R_drew)); exact HO450.out), (by (with_reducible repeat (first | apply Kd.R_alloc | apply Kd.R_drewN | apply Kd.R_drew)); exact HO457.out), (by (with_reducible repeat (first | apply Kd.R_alloc | apply Kd.R_drewN | apply Kd.R_drew)); exact HO460.out), (by (with_reducible repeat (first | refine blk_drewN ?_ _ | refine blk_drew ?_ | refine blk_alloc ?_ _)); exact BK440.out), (by (with_reducible repeat (first | refine blk_drewN ?_ _ | refine blk_drew ?_ | refine blk_alloc ?_ _)); exact BK441.out), (by (with_reducible repeat (first | refine blk_drewN ?_ _ | refine blk_drew ?_ | refine blk_alloc ?_ _)); exact BK447.out), (by (with_reducible repeat (first | refine blk_drewN ?_ _ | refine blk_drew ?_ | refine blk_alloc ?_ _)); exact BK468.out), GW468.out, GE468.out, NB440_468.out, NB468_440.out, NB441_468.out, NB468_441.out, NB447_468.out, NB468_447.out, (by repeat (first | (with_reducible first | exact HB.out | apply below_alloc | apply pw_below_drewN | apply below_drew1 | refine below_set ?_ GE440.out | refine below_set ?_ GE441.out | refine below_set ?_ GE447.out | refine below_set ?_ GE468.out) | exact HB.out))⟩)
                  · skip
                    rintro ⟨v456, v459, gb468⟩ w33 ⟨hS_, h0_, h1_, h2_, h3_, h4_, h5_, h6_, h7_, h8_, h9_, h10_, h11_, h12_, h13_, h14_, h15_, h16_⟩
                    have n0_ : Aside0 (Kd.R k41 41 w33 w.heap.size (fun k_ => some k_ ≠ (v456 : Value).ownBlock ∧ some k_ ≠ (v459 : Value).ownBlock ∧ k_ ≠ gb441) (.slice Ao25 t444.length co25) t444) := ⟨h0_⟩
                    have n1_ : Aside0 (Kd.R (Kd.int .i64) 3 w33 w.heap.size (fun _ => True) v449 t448) := ⟨h1_⟩
                    have n2_ : Aside0 (Kd.R k41 41 w33 w.heap.size (fun k_ => some k_ ≠ (.slice Ao25 t444.length co25 : Value).ownBlock ∧ some k_ ≠ (v459 : Value).ownBlock ∧ k_ ≠ gb441) v456 y455) := ⟨h2_⟩
                    have n3_ : Aside0 (Kd.R k41 41 w33 w.heap.size (fun k_ => some k_ ≠ (.slice Ao25 t444.length co25 : Value).ownBlock ∧ some k_ ≠ (v456 : Value).ownBlock ∧ k_ ≠ gb441) v459 y458) := ⟨h3_⟩
                    have n4_ : Aside0 (w33.heap[gb440]? = some (.cells #[.int .i64 a0_0, .slice A0_1 l0_1.length c0_1] 24 (0, 0))) := ⟨h4_⟩
                    have n5_ : Aside0 (w33.heap[gb441]? = some (.cells #[.int .i64 a2_0, .int .i64 a2_1, .int .i64 a2_2] 41 (0, 0))) := ⟨h5_⟩
                    have n6_ : Aside0 (w33.heap[gb447]? = some (.cells #[.int .i64 t443, .slice Ao25 t444.length co25] 24 (0, 0))) := ⟨h6_⟩
                    have n7_ : Aside0 (w33.heap[gb468]? = some (.cells #[.int .i64 0, .slice none 0 0] 24 (0, 0))) := ⟨h7_⟩
                    have n8_ : Aside0 (w.heap.size ≤ gb468) := ⟨h8_⟩
                    have n9_ : Aside0 (w.heap.size ≤ gb468) := ⟨h9_⟩
                    have n10_ : Aside0 (gb440 ≠ gb468) := ⟨h10_⟩
                    have n11_ : Aside0 (gb468 ≠ gb440) := ⟨h11_⟩
                    have n12_ : Aside0 (gb441 ≠ gb468) := ⟨h12_⟩
                    have n13_ : Aside0 (gb468 ≠ gb441) := ⟨h13_⟩
                    have n14_ : Aside0 (gb447 ≠ gb468) := ⟨h14_⟩
                    have n15_ : Aside0 (gb468 ≠ gb447) := ⟨h15_⟩
                    have n16_ : Aside0 (Below w.heap.size w w33) := ⟨h16_⟩
                    clear HO446
                    clear HO450
                    clear BK440
                    clear BK441
                    clear BK447
                    clear HB
                    clear h0_ h1_ h2_ h3_ h4_ h5_ h6_ h7_ h8_ h9_ h10_ h11_ h12_ h13_ h14_ h15_ h16_
                    have HO446 := n0_
                    have HO450 := n1_
                    have HO457 := n2_
                    have HO460 := n3_
                    have BK440 := n4_
                    have BK441 := n5_
                    have BK447 := n6_
                    have BK468 := n7_
                    have GW468 := n8_
                    have GE468 := n9_
                    have NB440_468 := n10_
                    have NB468_440 := n11_
                    have NB441_468 := n12_
                    have NB468_441 := n13_
                    have NB447_468 := n14_
                    have NB468_447 := n15_
                    have HB := n16_
                    clear n0_ n1_ n2_ n3_ n4_ n5_ n6_ n7_ n8_ n9_ n10_ n11_ n12_ n13_ n14_ n15_ n16_
                    have hHeld : w33.cell? ⟨gb440, 0, none⟩ = some (.int .i64 a0_0) ∧ w33.cell? ⟨gb440, 1, none⟩ = some (.slice A0_1 l0_1.length c0_1) ∧ w33.cell? ⟨gb441, 0, none⟩ = some (.int .i64 a2_0) ∧ w33.cell? ⟨gb441, 1, none⟩ = some (.int .i64 a2_1) ∧ w33.cell? ⟨gb441, 2, none⟩ = some (.int .i64 a2_2) := hS_
                    obtain ⟨Ao35, co35, eo35⟩ := Kd.R_slice HO460.out
                    (first | subst eo35 | (injection eo35 with f1_ f2_ f3_; have f4_ := f1_.symm; have f5_ := f3_.symm; clear f1_ f2_ f3_; subst f4_; subst f5_))
                    refine norm_ (a' := ?_) ?_ ?_
                    rotate_left
                    · simp only [putAll, Act.put, List.setIfInBounds_toArray, List.set_cons_zero, List.set_cons_succ]
                      rfl
                    refine one_ (i := 12) (N := some 34) #[true, true, true, true, true, true, true, true, true, true, true, true, true, false, false, true, false] rfl rfl (one_of HT_.out (by kernel_rfl)) (by decide) (fun K hK => ?_)
                    refine Kd.R_append_rows_step k41 (w0 := w) w.heap.size (by rfl) (.tmp 31) (.tmp 33) 22 41 (.agg #[(.int .i64 0), (.int .i64 0), (.int .i64 0)]) 24 rfl Try.underlying22 info41 rfl (by decide) (by omega) v456 y455 y458 _ _ _ (fun k_ => some k_ ≠ (.slice Ao25 t444.length co25 : Value).ownBlock ∧ some k_ ≠ (.slice Ao35 y458.length co35 : Value).ownBlock ∧ k_ ≠ gb441) (fun _ => False) rfl rfl ?aO ?aR (fun _ _ h => h) (fun _ h => h.elim) ?aF ?aB ?aS ?aL ?_
                    (case aR => repeat (first | exact (Kd.R_reads' HO460.out).2.2 | (with_reducible refine Kd.C_alloc ?_ _) | (with_reducible refine Kd.C_drewN ?_ _) | (with_reducible refine Kd.C_drew ?_)))
                    (case aB => exact (by repeat (first | (with_reducible first | exact HB.out | apply below_alloc | apply pw_below_drewN | apply below_drew1 | refine below_set ?_ GE440.out | refine below_set ?_ GE441.out | refine below_set ?_ GE447.out | refine below_set ?_ GE468.out) | exact HB.out)))
                    (case aF => exact (fun k_ hk => ⟨Kd.fresh' (Kd.R_lt (by (with_reducible repeat (first | apply Kd.R_alloc | apply Kd.R_drewN | apply Kd.R_drew)); exact HO446.out)) k_ hk, Kd.fresh' (Kd.R_lt (by (with_reducible repeat (first | apply Kd.R_alloc | apply Kd.R_drewN | apply Kd.R_drew)); exact HO460.out)) k_ hk, Kd.freshB (g := gb441) (o := .cells #[.int .i64 a2_0, .int .i64 a2_1, .int .i64 a2_2] 41 (0, 0)) (by (with_reducible repeat (first | refine blk_drewN ?_ _ | refine blk_drew ?_ | refine blk_alloc ?_ _)); exact BK441.out) k_ hk⟩))
                    (case aO => exact (by (with_reducible repeat (first | apply Kd.R_alloc | apply Kd.R_drewN | apply Kd.R_drew)); exact HO457.out))
                    (case aS => exact (below_size (by repeat (first | (with_reducible first | exact HB.out | apply below_alloc | apply pw_below_drewN | apply below_drew1 | refine below_set ?_ GE440.out | refine below_set ?_ GE441.out | refine below_set ?_ GE447.out | refine below_set ?_ GE468.out) | exact HB.out))))
                    (case aL => have := LMc11.out; omega)
                    intro v462 w34 ho hb hg hat
                    rw [← Ny461.out] at ho
                    have n0_ := Aside0.mk (blk_grown (g := gb440) (o := .cells #[.int .i64 a0_0, .slice A0_1 l0_1.length c0_1] 24 (0, 0)) (by (with_reducible repeat (first | refine blk_drewN ?_ _ | refine blk_drew ?_ | refine blk_alloc ?_ _)); exact BK440.out) hg (Kd.R_ne HO457.out BK440.out (by decide)))
                    have n1_ := Aside0.mk (blk_grown (g := gb441) (o := .cells #[.int .i64 a2_0, .int .i64 a2_1, .int .i64 a2_2] 41 (0, 0)) (by (with_reducible repeat (first | refine blk_drewN ?_ _ | refine blk_drew ?_ | refine blk_alloc ?_ _)); exact BK441.out) hg (Kd.R_away HO457.out (fun _ hk => hk.2.2)))
                    have n2_ := Aside0.mk (Kd.R_after (ok := (fun k_ => some k_ ≠ (.slice Ao35 y458.length co35 : Value).ownBlock ∧ k_ ≠ gb441)) (by (with_reducible repeat (first | apply Kd.R_alloc | apply Kd.R_drewN | apply Kd.R_drew)); exact Kd.R_mono HO446.out (fun _ hk => ⟨⟨hk.2.1, hk.2.2⟩, hk.1⟩)) hg hat)
                    have n3_ := Aside0.mk (blk_grown (g := gb447) (o := .cells #[.int .i64 t443, .slice Ao25 t444.length co25] 24 (0, 0)) (by (with_reducible repeat (first | refine blk_drewN ?_ _ | refine blk_drew ?_ | refine blk_alloc ?_ _)); exact BK447.out) hg (Kd.R_ne HO457.out BK447.out (by decide)))
                    have n4_ := Aside0.mk (Kd.R_over' (by (with_reducible repeat (first | apply Kd.R_alloc | apply Kd.R_drewN | apply Kd.R_drew)); exact HO450.out) (Kd.R_typed (by (with_reducible repeat (first | apply Kd.R_alloc | apply Kd.R_drewN | apply Kd.R_drew)); exact HO457.out)) (by decide) hg)
                    have n5_ := Aside0.mk (Kd.R_after (ok := (fun k_ => some k_ ≠ (.slice Ao25 t444.length co25 : Value).ownBlock ∧ k_ ≠ gb441)) (by (with_reducible repeat (first | apply Kd.R_alloc | apply Kd.R_drewN | apply Kd.R_drew)); exact Kd.R_mono HO460.out (fun _ hk => ⟨⟨hk.1, hk.2.2⟩, hk.2.1⟩)) hg hat)
                    have n6_ := Aside0.mk (blk_grown (g := gb468) (o := .cells #[.int .i64 0, .slice none 0 0] 24 (0, 0)) (by (with_reducible repeat (first | refine blk_drewN ?_ _ | refine blk_drew ?_ | refine blk_alloc ?_ _)); exact BK468.out) hg (Kd.R_ne HO457.out BK468.out (by decide)))
                    have n7_ := Aside0.mk (hb)
                    have n8_ := Aside0.mk (ho)
                    clear BK440
                    clear BK441
                    clear HO446
                    clear BK447
                    clear HO450
                    clear HO460
                    clear BK468
                    clear HB
                    clear HO457
                    have BK440 := n0_
                    have BK441 := n1_
                    have HO446 := n2_
                    have BK447 := n3_
                    have HO450 := n4_
                    have HO460 := n5_
                    have BK468 := n6_
                    have HB := n7_
                    have HO463 := n8_
                    clear n0_ n1_ n2_ n3_ n4_ n5_ n6_ n7_ n8_
                    clear ho hb hg hat
                    obtain ⟨Ao36, co36, eo36⟩ := Kd.R_slice HO463.out
                    (first | subst eo36 | (injection eo36 with f1_ f2_ f3_; have f4_ := f1_.symm; have f5_ := f3_.symm; clear f1_ f2_ f3_; subst f4_; subst f5_))
                    refine hK.out _ _ ⟨(blk_cell BK440.out 0).trans rfl, (blk_cell BK440.out 1).trans rfl, (blk_cell BK441.out 0).trans rfl, (blk_cell BK441.out 1).trans rfl, (blk_cell BK441.out 2).trans rfl⟩ (fun hHeld => ?_)
                    clear hK K
                    refine norm_ (a' := ?_) ?_ ?_
                    rotate_left
                    · show Act.put _ (some 34) _ = _
                      simp only [Act.put, List.setIfInBounds_toArray, List.set_cons_zero, List.set_cons_succ, i64_w, i32_w]
                      rfl
                    refine pure_ (i := 13) (N := some 35) (v := ?_) (a' := ?_) #[true, true, true, true, true, true, true, true, true, true, true, true, true, true, false, true, false] rfl rfl (any_of HT_.out (by kernel_rfl)) (fun _ _ _ h => h) (Or.inl ⟨by rfl, ?_⟩) ?_ ?_
                    rotate_left
                    · intro w'
                      go_simp
                      with_reducible rfl
                    rotate_left
                    · simp only [Act.put, List.setIfInBounds_toArray, List.set_cons_zero, List.set_cons_succ, i64_w, i32_w]
                      rfl
                    exact norm_ (by first | (simp only [putAll, Act.put, List.setIfInBounds_toArray, List.set_cons_zero, List.set_cons_succ]; done) | (simp only [putAll, Act.put, List.setIfInBounds_toArray, List.set_cons_zero, List.set_cons_succ]; rfl)) (hJ9_11_12_15 (v456, .slice Ao35 y458.length co35, .slice Ao36 y461.length co36, gb468) _ ⟨hHeld, (by (with_reducible repeat (first | apply Kd.R_alloc | apply Kd.R_drewN | apply Kd.R_drew)); exact Kd.R_mono HO446.out (fun _ hk => ⟨hk.1.1, ⟨hk.2, hk.1.2⟩⟩)), (by (with_reducible repeat (first | apply Kd.R_alloc | apply Kd.R_drewN | apply Kd.R_drew)); exact HO450.out), (by (with_reducible repeat (first | apply Kd.R_alloc | apply Kd.R_drewN | apply Kd.R_drew)); exact Kd.R_mono HO460.out (fun _ hk => ⟨hk.1.1, ⟨hk.2, hk.1.2⟩⟩)), (by (with_reducible repeat (first | apply Kd.R_alloc | apply Kd.R_drewN | apply Kd.R_drew)); exact HO463.out), (by (with_reducible repeat (first | refine blk_drewN ?_ _ | refine blk_drew ?_ | refine blk_alloc ?_ _)); exact BK440.out), (by (with_reducible repeat (first | refine blk_drewN ?_ _ | refine blk_drew ?_ | refine blk_alloc ?_ _)); exact BK441.out), (by (with_reducible repeat (first | refine blk_drewN ?_ _ | refine blk_drew ?_ | refine blk_alloc ?_ _)); exact BK447.out), (by (with_reducible repeat (first | refine blk_drewN ?_ _ | refine blk_drew ?_ | refine blk_alloc ?_ _)); exact BK468.out), GW468.out, GE468.out, NB440_468.out, NB468_440.out, NB441_468.out, NB468_441.out, NB447_468.out, NB468_447.out, (by repeat (first | (with_reducible first | exact HB.out | apply below_alloc | apply pw_below_drewN | apply below_drew1 | refine below_set ?_ GE440.out | refine below_set ?_ GE441.out | refine below_set ?_ GE447.out | refine below_set ?_ GE468.out) | exact HB.out))⟩)
                · skip
                  rintro ⟨v456, v459, v462⟩ w35 ⟨hS_, h0_, h1_, h2_, h3_, h4_, h5_, h6_, h7_⟩
                  have n0_ : Aside0 (Kd.R k41 41 w35 w.heap.size (fun k_ => some k_ ≠ (v459 : Value).ownBlock ∧ some k_ ≠ (v462 : Value).ownBlock ∧ k_ ≠ gb441) (.slice Ao25 t444.length co25) t444) := ⟨h0_⟩
                  have n1_ : Aside0 (Kd.R (Kd.int .i64) 3 w35 w.heap.size (fun _ => True) v449 t448) := ⟨h1_⟩
                  have n2_ : Aside0 (Kd.R k41 41 w35 w.heap.size (fun k_ => some k_ ≠ (.slice Ao25 t444.length co25 : Value).ownBlock ∧ some k_ ≠ (v462 : Value).ownBlock ∧ k_ ≠ gb441) v459 y458) := ⟨h2_⟩
                  have n3_ : Aside0 (Kd.R k41 41 w35 w.heap.size (fun k_ => some k_ ≠ (.slice Ao25 t444.length co25 : Value).ownBlock ∧ some k_ ≠ (v459 : Value).ownBlock ∧ k_ ≠ gb441) v462 y461) := ⟨h3_⟩
                  have n4_ : Aside0 (w35.heap[gb440]? = some (.cells #[.int .i64 a0_0, .slice A0_1 l0_1.length c0_1] 24 (0, 0))) := ⟨h4_⟩
                  have n5_ : Aside0 (w35.heap[gb441]? = some (.cells #[.int .i64 a2_0, .int .i64 a2_1, .int .i64 a2_2] 41 (0, 0))) := ⟨h5_⟩
                  have n6_ : Aside0 (w35.heap[gb447]? = some (.cells #[.int .i64 t443, .slice Ao25 t444.length co25] 24 (0, 0))) := ⟨h6_⟩
                  have n7_ : Aside0 (Below w.heap.size w w35) := ⟨h7_⟩
                  clear HO446
                  clear HO450
                  clear BK440
                  clear BK441
                  clear BK447
                  clear HB
                  clear h0_ h1_ h2_ h3_ h4_ h5_ h6_ h7_
                  have HO446 := n0_
                  have HO450 := n1_
                  have HO460 := n2_
                  have HO463 := n3_
                  have BK440 := n4_
                  have BK441 := n5_
                  have BK447 := n6_
                  have HB := n7_
                  clear n0_ n1_ n2_ n3_ n4_ n5_ n6_ n7_
                  have hHeld : w35.cell? ⟨gb440, 0, none⟩ = some (.int .i64 a0_0) ∧ w35.cell? ⟨gb440, 1, none⟩ = some (.slice A0_1 l0_1.length c0_1) ∧ w35.cell? ⟨gb441, 0, none⟩ = some (.int .i64 a2_0) ∧ w35.cell? ⟨gb441, 1, none⟩ = some (.int .i64 a2_1) ∧ w35.cell? ⟨gb441, 2, none⟩ = some (.int .i64 a2_2) := hS_
                  obtain ⟨Ao36, co36, eo36⟩ := Kd.R_slice HO463.out
                  (first | subst eo36 | (injection eo36 with f1_ f2_ f3_; have f4_ := f1_.symm; have f5_ := f3_.symm; clear f1_ f2_ f3_; subst f4_; subst f5_))
                  refine norm_ (a' := ?_) ?_ ?_
                  rotate_left
                  · simp only [putAll, Act.put, List.setIfInBounds_toArray, List.set_cons_zero, List.set_cons_succ]
                    rfl
                  refine two_ (i := 14) (j := 15) (Ni := some 36) (Nj := some 10) #[true, true, true, true, true, true, true, true, true, true, true, true, true, true, true, false, false] #[true, true, true, true, true, true, true, true, true, true, true, true, true, true, false, true, false] rfl rfl rfl rfl (two_of HT_.out (by kernel_rfl)) (by decide) (by decide) (fun K hK => ?_) (fun K hK => ?_)
                  · skip
                    refine goes_ Try.func30 (by kernel_rfl) rfl #[.agg #[.int .i64 a0_0, .slice Ao36 y461.length co36]] (by rfl) rfl rfl (by (try simp only [List.map_toArray, List.map_cons, List.map_nil]); first | done | rfl | (simp only [List.length_drop, List.length_take]; rfl)) ?_
                    with_reducible refine (billetlaw05_Fit.calls k a0_0 _ _ y461 t464 t465 _ ?side1 ?side2 A12.out).mono ?_
                    (case side1 => repeat (first | exact (Kd.R_reads' HO463.out).2.2 | (with_reducible refine Kd.C_alloc ?_ _) | (with_reducible refine Kd.C_drewN ?_ _) | (with_reducible refine Kd.C_drew ?_)))
                    (case side2 => exact (Kd.R_reads' HO463.out).2.1)
                    rintro e w37 ⟨v466, rfl, ho0, hb⟩
                    refine ⟨_, rfl, ?_⟩
                    have n0_ := Aside0.mk (Kd.R_elder' (by (with_reducible repeat (first | apply Kd.R_alloc | apply Kd.R_drewN | apply Kd.R_drew)); exact HO446.out) (Kd.R_base ho0) hb)
                    have n1_ := Aside0.mk (Kd.R_below (by (with_reducible repeat (first | apply Kd.R_alloc | apply Kd.R_drewN | apply Kd.R_drew)); exact HO450.out) hb)
                    have n2_ := Aside0.mk (Kd.R_elder' (by (with_reducible repeat (first | apply Kd.R_alloc | apply Kd.R_drewN | apply Kd.R_drew)); exact HO460.out) (Kd.R_base ho0) hb)
                    have n3_ := Aside0.mk (Kd.R_elder' (by (with_reducible repeat (first | apply Kd.R_alloc | apply Kd.R_drewN | apply Kd.R_drew)); exact HO463.out) (Kd.R_base ho0) hb)
                    have n4_ := Aside0.mk (Kd.R_lower (Kd.R_newB (Kd.R_new' (Kd.R_new' (Kd.R_new' ho0 (Kd.R_lt (by (with_reducible repeat (first | apply Kd.R_alloc | apply Kd.R_drewN | apply Kd.R_drew)); exact HO446.out))) (Kd.R_lt (by (with_reducible repeat (first | apply Kd.R_alloc | apply Kd.R_drewN | apply Kd.R_drew)); exact HO460.out))) (Kd.R_lt (by (with_reducible repeat (first | apply Kd.R_alloc | apply Kd.R_drewN | apply Kd.R_drew)); exact HO463.out))) (g := gb441) (o := .cells #[.int .i64 a2_0, .int .i64 a2_1, .int .i64 a2_2] 41 (0, 0)) (by (with_reducible repeat (first | refine blk_drewN ?_ _ | refine blk_drew ?_ | refine blk_alloc ?_ _)); exact BK441.out)) (below_size (by repeat (first | (with_reducible first | exact HB.out | apply below_alloc | apply pw_below_drewN | apply below_drew1 | refine below_set ?_ GE440.out | refine below_set ?_ GE441.out | refine below_set ?_ GE447.out) | exact HB.out))))
                    have n5_ := Aside0.mk (blk_below (g := gb440) (o := .cells #[.int .i64 a0_0, .slice A0_1 l0_1.length c0_1] 24 (0, 0)) (by (with_reducible repeat (first | refine blk_drewN ?_ _ | refine blk_drew ?_ | refine blk_alloc ?_ _)); exact BK440.out) hb)
                    have n6_ := Aside0.mk (blk_below (g := gb441) (o := .cells #[.int .i64 a2_0, .int .i64 a2_1, .int .i64 a2_2] 41 (0, 0)) (by (with_reducible repeat (first | refine blk_drewN ?_ _ | refine blk_drew ?_ | refine blk_alloc ?_ _)); exact BK441.out) hb)
                    have n7_ := Aside0.mk (blk_below (g := gb447) (o := .cells #[.int .i64 t443, .slice Ao25 t444.length co25] 24 (0, 0)) (by (with_reducible repeat (first | refine blk_drewN ?_ _ | refine blk_drew ?_ | refine blk_alloc ?_ _)); exact BK447.out) hb)
                    have n8_ := Aside0.mk (below_step (by repeat (first | (with_reducible first | exact HB.out | apply below_alloc | apply pw_below_drewN | apply below_drew1 | refine below_set ?_ GE440.out | refine below_set ?_ GE441.out | refine below_set ?_ GE447.out) | exact HB.out)) hb)
                    clear HO446
                    clear HO450
                    clear HO460
                    clear HO463
                    clear BK440
                    clear BK441
                    clear BK447
                    clear HB
                    have HO446 := n0_
                    have HO450 := n1_
                    have HO460 := n2_
                    have HO463 := n3_
                    have HO467 := n4_
                    have BK440 := n5_
                    have BK441 := n6_
                    have BK447 := n7_
                    have HB := n8_
                    clear n0_ n1_ n2_ n3_ n4_ n5_ n6_ n7_ n8_
                    (try clear hb)
                    (try clear hb2)
                    (try clear hk)
                    (try clear hi)
                    (try clear ho0)
                    refine hK.out _ _ ⟨(blk_cell BK440.out 0).trans rfl, (blk_cell BK440.out 1).trans rfl, (blk_cell BK441.out 0).trans rfl, (blk_cell BK441.out 1).trans rfl, (blk_cell BK441.out 2).trans rfl⟩ (fun hHeld => ?_)
                    clear hK K
                    refine norm_ (a' := ?_) ?_ ?_
                    rotate_left
                    · show Act.put _ (some 36) _ = _
                      simp only [Act.put, List.setIfInBounds_toArray, List.set_cons_zero, List.set_cons_succ, i64_w, i32_w]
                      rfl
                    exact norm_ (by first | (simp only [putAll, Act.put, List.setIfInBounds_toArray, List.set_cons_zero, List.set_cons_succ]; done) | (simp only [putAll, Act.put, List.setIfInBounds_toArray, List.set_cons_zero, List.set_cons_succ]; rfl)) (hJ9_11_12_14 (v456, v459, .slice Ao36 y461.length co36, v466) _ ⟨hHeld, (by (with_reducible repeat (first | apply Kd.R_alloc | apply Kd.R_drewN | apply Kd.R_drew)); exact Kd.R_mono HO446.out (fun _ hk => ⟨hk.1.1, ⟨hk.1.2.1, ⟨hk.2, hk.1.2.2⟩⟩⟩)), (by (with_reducible repeat (first | apply Kd.R_alloc | apply Kd.R_drewN | apply Kd.R_drew)); exact HO450.out), (by (with_reducible repeat (first | apply Kd.R_alloc | apply Kd.R_drewN | apply Kd.R_drew)); exact Kd.R_mono HO460.out (fun _ hk => ⟨hk.1.1, ⟨hk.1.2.1, ⟨hk.2, hk.1.2.2⟩⟩⟩)), (by (with_reducible repeat (first | apply Kd.R_alloc | apply Kd.R_drewN | apply Kd.R_drew)); exact Kd.R_mono HO463.out (fun _ hk => ⟨hk.1.1, ⟨hk.1.2.1, ⟨hk.2, hk.1.2.2⟩⟩⟩)), (by (with_reducible repeat (first | apply Kd.R_alloc | apply Kd.R_drewN | apply Kd.R_drew)); exact Kd.R_mono HO467.out (fun _ hk => ⟨hk.1.1.1.2, ⟨hk.1.1.2, ⟨hk.1.2, hk.2⟩⟩⟩)), (by (with_reducible repeat (first | refine blk_drewN ?_ _ | refine blk_drew ?_ | refine blk_alloc ?_ _)); exact BK440.out), (by (with_reducible repeat (first | refine blk_drewN ?_ _ | refine blk_drew ?_ | refine blk_alloc ?_ _)); exact BK441.out), (by (with_reducible repeat (first | refine blk_drewN ?_ _ | refine blk_drew ?_ | refine blk_alloc ?_ _)); exact BK447.out), (by repeat (first | (with_reducible first | exact HB.out | apply below_alloc | apply pw_below_drewN | apply below_drew1 | refine below_set ?_ GE440.out | refine below_set ?_ GE441.out | refine below_set ?_ GE447.out) | exact HB.out))⟩)
                  · skip
                    refine box_step ?hg (N := 10) ?hd (cs := #[.int .i64 0, .slice none 0 0]) (t := 24) ?hr ?_; (case hd => rfl); (case hg => rfl); (case hr => first | (go_simp; done) | (go_simp; rfl))
                    intro gb468 hg w37 hbox hb
                    have n0_ := Aside0.mk (Kd.R_below (by (with_reducible repeat (first | apply Kd.R_alloc | apply Kd.R_drewN | apply Kd.R_drew)); exact HO446.out) hb)
                    have n1_ := Aside0.mk (Kd.R_below (by (with_reducible repeat (first | apply Kd.R_alloc | apply Kd.R_drewN | apply Kd.R_drew)); exact HO450.out) hb)
                    have n2_ := Aside0.mk (Kd.R_below (by (with_reducible repeat (first | apply Kd.R_alloc | apply Kd.R_drewN | apply Kd.R_drew)); exact HO460.out) hb)
                    have n3_ := Aside0.mk (Kd.R_below (by (with_reducible repeat (first | apply Kd.R_alloc | apply Kd.R_drewN | apply Kd.R_drew)); exact HO463.out) hb)
                    have n4_ := Aside0.mk (blk_below (g := gb440) (o := .cells #[.int .i64 a0_0, .slice A0_1 l0_1.length c0_1] 24 (0, 0)) (by (with_reducible repeat (first | refine blk_drewN ?_ _ | refine blk_drew ?_ | refine blk_alloc ?_ _)); exact BK440.out) hb)
                    have n5_ := Aside0.mk (blk_below (g := gb441) (o := .cells #[.int .i64 a2_0, .int .i64 a2_1, .int .i64 a2_2] 41 (0, 0)) (by (with_reducible repeat (first | refine blk_drewN ?_ _ | refine blk_drew ?_ | refine blk_alloc ?_ _)); exact BK441.out) hb)
                    have n6_ := Aside0.mk (blk_below (g := gb447) (o := .cells #[.int .i64 t443, .slice Ao25 t444.length co25] 24 (0, 0)) (by (with_reducible repeat (first | refine blk_drewN ?_ _ | refine blk_drew ?_ | refine blk_alloc ?_ _)); exact BK447.out) hb)
                    have n7_ := Aside0.mk (below_step (by repeat (first | (with_reducible first | exact HB.out | apply below_alloc | apply pw_below_drewN | apply below_drew1 | refine below_set ?_ GE440.out | refine below_set ?_ GE441.out | refine below_set ?_ GE447.out) | exact HB.out)) hb)
                    have n8_ := Aside0.mk (hbox)
                    have n9_ := Aside0.mk ((by rw [hg]; exact (below_size (by repeat (first | (with_reducible first | exact HB.out | apply below_alloc | apply pw_below_drewN | apply below_drew1 | refine below_set ?_ GE440.out | refine below_set ?_ GE441.out | refine below_set ?_ GE447.out) | exact HB.out))) : w.heap.size ≤ gb468))
                    have n10_ := Aside0.mk ((by rw [hg]; exact (below_size (by repeat (first | (with_reducible first | exact HB.out | apply below_alloc | apply pw_below_drewN | apply below_drew1 | refine below_set ?_ GE440.out | refine below_set ?_ GE441.out | refine below_set ?_ GE447.out) | exact HB.out))) : w.heap.size ≤ gb468))
                    have n11_ := Aside0.mk ((by rw [hg]; exact Nat.ne_of_lt (blk_lt (g := gb440) (o := .cells #[.int .i64 a0_0, .slice A0_1 l0_1.length c0_1] 24 (0, 0)) (by (with_reducible repeat (first | refine blk_drewN ?_ _ | refine blk_drew ?_ | refine blk_alloc ?_ _)); exact BK440.out)) : gb440 ≠ gb468))
                    have n12_ := Aside0.mk ((by rw [hg]; exact Nat.ne_of_gt (blk_lt (g := gb440) (o := .cells #[.int .i64 a0_0, .slice A0_1 l0_1.length c0_1] 24 (0, 0)) (by (with_reducible repeat (first | refine blk_drewN ?_ _ | refine blk_drew ?_ | refine blk_alloc ?_ _)); exact BK440.out)) : gb468 ≠ gb440))
                    have n13_ := Aside0.mk ((by rw [hg]; exact Nat.ne_of_lt (blk_lt (g := gb441) (o := .cells #[.int .i64 a2_0, .int .i64 a2_1, .int .i64 a2_2] 41 (0, 0)) (by (with_reducible repeat (first | refine blk_drewN ?_ _ | refine blk_drew ?_ | refine blk_alloc ?_ _)); exact BK441.out)) : gb441 ≠ gb468))
                    have n14_ := Aside0.mk ((by rw [hg]; exact Nat.ne_of_gt (blk_lt (g := gb441) (o := .cells #[.int .i64 a2_0, .int .i64 a2_1, .int .i64 a2_2] 41 (0, 0)) (by (with_reducible repeat (first | refine blk_drewN ?_ _ | refine blk_drew ?_ | refine blk_alloc ?_ _)); exact BK441.out)) : gb468 ≠ gb441))
                    have n15_ := Aside0.mk ((by rw [hg]; exact Nat.ne_of_lt (blk_lt (g := gb447) (o := .cells #[.int .i64 t443, .slice Ao25 t444.length co25] 24 (0, 0)) (by (with_reducible repeat (first | refine blk_drewN ?_ _ | refine blk_drew ?_ | refine blk_alloc ?_ _)); exact BK447.out)) : gb447 ≠ gb468))
                    have n16_ := Aside0.mk ((by rw [hg]; exact Nat.ne_of_gt (blk_lt (g := gb447) (o := .cells #[.int .i64 t443, .slice Ao25 t444.length co25] 24 (0, 0)) (by (with_reducible repeat (first | refine blk_drewN ?_ _ | refine blk_drew ?_ | refine blk_alloc ?_ _)); exact BK447.out)) : gb468 ≠ gb447))
                    clear HO446
                    clear HO450
                    clear HO460
                    clear HO463
                    clear BK440
                    clear BK441
                    clear BK447
                    clear HB
                    have HO446 := n0_
                    have HO450 := n1_
                    have HO460 := n2_
                    have HO463 := n3_
                    have BK440 := n4_
                    have BK441 := n5_
                    have BK447 := n6_
                    have HB := n7_
                    have BK468 := n8_
                    have GW468 := n9_
                    have GE468 := n10_
                    have NB440_468 := n11_
                    have NB468_440 := n12_
                    have NB441_468 := n13_
                    have NB468_441 := n14_
                    have NB447_468 := n15_
                    have NB468_447 := n16_
                    clear n0_ n1_ n2_ n3_ n4_ n5_ n6_ n7_ n8_ n9_ n10_ n11_ n12_ n13_ n14_ n15_ n16_
                    clear hb hbox hg
                    refine hK.out _ _ ⟨(blk_cell BK440.out 0).trans rfl, (blk_cell BK440.out 1).trans rfl, (blk_cell BK441.out 0).trans rfl, (blk_cell BK441.out 1).trans rfl, (blk_cell BK441.out 2).trans rfl⟩ (fun hHeld => ?_)
                    clear hK K
                    refine norm_ (a' := ?_) ?_ ?_
                    rotate_left
                    · show Act.put _ (some 10) _ = _
                      simp only [Act.put, List.setIfInBounds_toArray, List.set_cons_zero, List.set_cons_succ, i64_w, i32_w]
                      rfl
                    exact norm_ (by first | (simp only [putAll, Act.put, List.setIfInBounds_toArray, List.set_cons_zero, List.set_cons_succ]; done) | (simp only [putAll, Act.put, List.setIfInBounds_toArray, List.set_cons_zero, List.set_cons_succ]; rfl)) (hJ9_11_12_15 (v456, v459, .slice Ao36 y461.length co36, gb468) _ ⟨hHeld, (by (with_reducible repeat (first | apply Kd.R_alloc | apply Kd.R_drewN | apply Kd.R_drew)); exact HO446.out), (by (with_reducible repeat (first | apply Kd.R_alloc | apply Kd.R_drewN | apply Kd.R_drew)); exact HO450.out), (by (with_reducible repeat (first | apply Kd.R_alloc | apply Kd.R_drewN | apply Kd.R_drew)); exact HO460.out), (by (with_reducible repeat (first | apply Kd.R_alloc | apply Kd.R_drewN | apply Kd.R_drew)); exact HO463.out), (by (with_reducible repeat (first | refine blk_drewN ?_ _ | refine blk_drew ?_ | refine blk_alloc ?_ _)); exact BK440.out), (by (with_reducible repeat (first | refine blk_drewN ?_ _ | refine blk_drew ?_ | refine blk_alloc ?_ _)); exact BK441.out), (by (with_reducible repeat (first | refine blk_drewN ?_ _ | refine blk_drew ?_ | refine blk_alloc ?_ _)); exact BK447.out), (by (with_reducible repeat (first | refine blk_drewN ?_ _ | refine blk_drew ?_ | refine blk_alloc ?_ _)); exact BK468.out), GW468.out, GE468.out, NB440_468.out, NB468_440.out, NB441_468.out, NB468_441.out, NB447_468.out, NB468_447.out, (by repeat (first | (with_reducible first | exact HB.out | apply below_alloc | apply pw_below_drewN | apply below_drew1 | refine below_set ?_ GE440.out | refine below_set ?_ GE441.out | refine below_set ?_ GE447.out | refine below_set ?_ GE468.out) | exact HB.out))⟩)
              · skip
                rintro ⟨v456, v459, v462, gb468⟩ w36 ⟨hS_, h0_, h1_, h2_, h3_, h4_, h5_, h6_, h7_, h8_, h9_, h10_, h11_, h12_, h13_, h14_, h15_, h16_⟩
                have n0_ : Aside0 (Kd.R k41 41 w36 w.heap.size (fun k_ => some k_ ≠ (v459 : Value).ownBlock ∧ some k_ ≠ (v462 : Value).ownBlock ∧ k_ ≠ gb441) (.slice Ao25 t444.length co25) t444) := ⟨h0_⟩
                have n1_ : Aside0 (Kd.R (Kd.int .i64) 3 w36 w.heap.size (fun _ => True) v449 t448) := ⟨h1_⟩
                have n2_ : Aside0 (Kd.R k41 41 w36 w.heap.size (fun k_ => some k_ ≠ (.slice Ao25 t444.length co25 : Value).ownBlock ∧ some k_ ≠ (v462 : Value).ownBlock ∧ k_ ≠ gb441) v459 y458) := ⟨h2_⟩
                have n3_ : Aside0 (Kd.R k41 41 w36 w.heap.size (fun k_ => some k_ ≠ (.slice Ao25 t444.length co25 : Value).ownBlock ∧ some k_ ≠ (v459 : Value).ownBlock ∧ k_ ≠ gb441) v462 y461) := ⟨h3_⟩
                have n4_ : Aside0 (w36.heap[gb440]? = some (.cells #[.int .i64 a0_0, .slice A0_1 l0_1.length c0_1] 24 (0, 0))) := ⟨h4_⟩
                have n5_ : Aside0 (w36.heap[gb441]? = some (.cells #[.int .i64 a2_0, .int .i64 a2_1, .int .i64 a2_2] 41 (0, 0))) := ⟨h5_⟩
                have n6_ : Aside0 (w36.heap[gb447]? = some (.cells #[.int .i64 t443, .slice Ao25 t444.length co25] 24 (0, 0))) := ⟨h6_⟩
                have n7_ : Aside0 (w36.heap[gb468]? = some (.cells #[.int .i64 0, .slice none 0 0] 24 (0, 0))) := ⟨h7_⟩
                have n8_ : Aside0 (w.heap.size ≤ gb468) := ⟨h8_⟩
                have n9_ : Aside0 (w.heap.size ≤ gb468) := ⟨h9_⟩
                have n10_ : Aside0 (gb440 ≠ gb468) := ⟨h10_⟩
                have n11_ : Aside0 (gb468 ≠ gb440) := ⟨h11_⟩
                have n12_ : Aside0 (gb441 ≠ gb468) := ⟨h12_⟩
                have n13_ : Aside0 (gb468 ≠ gb441) := ⟨h13_⟩
                have n14_ : Aside0 (gb447 ≠ gb468) := ⟨h14_⟩
                have n15_ : Aside0 (gb468 ≠ gb447) := ⟨h15_⟩
                have n16_ : Aside0 (Below w.heap.size w w36) := ⟨h16_⟩
                clear HO446
                clear HO450
                clear BK440
                clear BK441
                clear BK447
                clear HB
                clear h0_ h1_ h2_ h3_ h4_ h5_ h6_ h7_ h8_ h9_ h10_ h11_ h12_ h13_ h14_ h15_ h16_
                have HO446 := n0_
                have HO450 := n1_
                have HO460 := n2_
                have HO463 := n3_
                have BK440 := n4_
                have BK441 := n5_
                have BK447 := n6_
                have BK468 := n7_
                have GW468 := n8_
                have GE468 := n9_
                have NB440_468 := n10_
                have NB468_440 := n11_
                have NB441_468 := n12_
                have NB468_441 := n13_
                have NB447_468 := n14_
                have NB468_447 := n15_
                have HB := n16_
                clear n0_ n1_ n2_ n3_ n4_ n5_ n6_ n7_ n8_ n9_ n10_ n11_ n12_ n13_ n14_ n15_ n16_
                have hHeld : w36.cell? ⟨gb440, 0, none⟩ = some (.int .i64 a0_0) ∧ w36.cell? ⟨gb440, 1, none⟩ = some (.slice A0_1 l0_1.length c0_1) ∧ w36.cell? ⟨gb441, 0, none⟩ = some (.int .i64 a2_0) ∧ w36.cell? ⟨gb441, 1, none⟩ = some (.int .i64 a2_1) ∧ w36.cell? ⟨gb441, 2, none⟩ = some (.int .i64 a2_2) := hS_
                obtain ⟨Ao37, co37, eo37⟩ := Kd.R_slice HO463.out
                (first | subst eo37 | (injection eo37 with f1_ f2_ f3_; have f4_ := f1_.symm; have f5_ := f3_.symm; clear f1_ f2_ f3_; subst f4_; subst f5_))
                refine norm_ (a' := ?_) ?_ ?_
                rotate_left
                · simp only [putAll, Act.put, List.setIfInBounds_toArray, List.set_cons_zero, List.set_cons_succ]
                  rfl
                refine one_ (i := 14) (N := some 36) #[true, true, true, true, true, true, true, true, true, true, true, true, true, true, true, true, false] rfl rfl (one_of HT_.out (by kernel_rfl)) (by decide) (fun K hK => ?_)
                refine goes_ Try.func30 (by kernel_rfl) rfl #[.agg #[.int .i64 a0_0, .slice Ao37 y461.length co37]] (by rfl) rfl rfl (by (try simp only [List.map_toArray, List.map_cons, List.map_nil]); first | done | rfl | (simp only [List.length_drop, List.length_take]; rfl)) ?_
                with_reducible refine (billetlaw05_Fit.calls k a0_0 _ _ y461 t464 t465 _ ?side1 ?side2 A12.out).mono ?_
                (case side1 => repeat (first | exact (Kd.R_reads' HO463.out).2.2 | (with_reducible refine Kd.C_alloc ?_ _) | (with_reducible refine Kd.C_drewN ?_ _) | (with_reducible refine Kd.C_drew ?_)))
                (case side2 => exact (Kd.R_reads' HO463.out).2.1)
                rintro e w38 ⟨v466, rfl, ho0, hb⟩
                refine ⟨_, rfl, ?_⟩
                have n0_ := Aside0.mk (Kd.R_elder' (by (with_reducible repeat (first | apply Kd.R_alloc | apply Kd.R_drewN | apply Kd.R_drew)); exact HO446.out) (Kd.R_base ho0) hb)
                have n1_ := Aside0.mk (Kd.R_below (by (with_reducible repeat (first | apply Kd.R_alloc | apply Kd.R_drewN | apply Kd.R_drew)); exact HO450.out) hb)
                have n2_ := Aside0.mk (Kd.R_elder' (by (with_reducible repeat (first | apply Kd.R_alloc | apply Kd.R_drewN | apply Kd.R_drew)); exact HO460.out) (Kd.R_base ho0) hb)
                have n3_ := Aside0.mk (Kd.R_elder' (by (with_reducible repeat (first | apply Kd.R_alloc | apply Kd.R_drewN | apply Kd.R_drew)); exact HO463.out) (Kd.R_base ho0) hb)
                have n4_ := Aside0.mk (Kd.R_lower (Kd.R_newB (Kd.R_new' (Kd.R_new' (Kd.R_new' ho0 (Kd.R_lt (by (with_reducible repeat (first | apply Kd.R_alloc | apply Kd.R_drewN | apply Kd.R_drew)); exact HO446.out))) (Kd.R_lt (by (with_reducible repeat (first | apply Kd.R_alloc | apply Kd.R_drewN | apply Kd.R_drew)); exact HO460.out))) (Kd.R_lt (by (with_reducible repeat (first | apply Kd.R_alloc | apply Kd.R_drewN | apply Kd.R_drew)); exact HO463.out))) (g := gb441) (o := .cells #[.int .i64 a2_0, .int .i64 a2_1, .int .i64 a2_2] 41 (0, 0)) (by (with_reducible repeat (first | refine blk_drewN ?_ _ | refine blk_drew ?_ | refine blk_alloc ?_ _)); exact BK441.out)) (below_size (by repeat (first | (with_reducible first | exact HB.out | apply below_alloc | apply pw_below_drewN | apply below_drew1 | refine below_set ?_ GE440.out | refine below_set ?_ GE441.out | refine below_set ?_ GE447.out | refine below_set ?_ GE468.out) | exact HB.out))))
                have n5_ := Aside0.mk (blk_below (g := gb440) (o := .cells #[.int .i64 a0_0, .slice A0_1 l0_1.length c0_1] 24 (0, 0)) (by (with_reducible repeat (first | refine blk_drewN ?_ _ | refine blk_drew ?_ | refine blk_alloc ?_ _)); exact BK440.out) hb)
                have n6_ := Aside0.mk (blk_below (g := gb441) (o := .cells #[.int .i64 a2_0, .int .i64 a2_1, .int .i64 a2_2] 41 (0, 0)) (by (with_reducible repeat (first | refine blk_drewN ?_ _ | refine blk_drew ?_ | refine blk_alloc ?_ _)); exact BK441.out) hb)
                have n7_ := Aside0.mk (blk_below (g := gb447) (o := .cells #[.int .i64 t443, .slice Ao25 t444.length co25] 24 (0, 0)) (by (with_reducible repeat (first | refine blk_drewN ?_ _ | refine blk_drew ?_ | refine blk_alloc ?_ _)); exact BK447.out) hb)
                have n8_ := Aside0.mk (blk_below (g := gb468) (o := .cells #[.int .i64 0, .slice none 0 0] 24 (0, 0)) (by (with_reducible repeat (first | refine blk_drewN ?_ _ | refine blk_drew ?_ | refine blk_alloc ?_ _)); exact BK468.out) hb)
                have n9_ := Aside0.mk (below_step (by repeat (first | (with_reducible first | exact HB.out | apply below_alloc | apply pw_below_drewN | apply below_drew1 | refine below_set ?_ GE440.out | refine below_set ?_ GE441.out | refine below_set ?_ GE447.out | refine below_set ?_ GE468.out) | exact HB.out)) hb)
                clear HO446
                clear HO450
                clear HO460
                clear HO463
                clear BK440
                clear BK441
                clear BK447
                clear BK468
                clear HB
                have HO446 := n0_
                have HO450 := n1_
                have HO460 := n2_
                have HO463 := n3_
                have HO467 := n4_
                have BK440 := n5_
                have BK441 := n6_
                have BK447 := n7_
                have BK468 := n8_
                have HB := n9_
                clear n0_ n1_ n2_ n3_ n4_ n5_ n6_ n7_ n8_ n9_
                (try clear hb)
                (try clear hb2)
                (try clear hk)
                (try clear hi)
                (try clear ho0)
                refine hK.out _ _ ⟨(blk_cell BK440.out 0).trans rfl, (blk_cell BK440.out 1).trans rfl, (blk_cell BK441.out 0).trans rfl, (blk_cell BK441.out 1).trans rfl, (blk_cell BK441.out 2).trans rfl⟩ (fun hHeld => ?_)
                clear hK K
                refine norm_ (a' := ?_) ?_ ?_
                rotate_left
                · show Act.put _ (some 36) _ = _
                  simp only [Act.put, List.setIfInBounds_toArray, List.set_cons_zero, List.set_cons_succ, i64_w, i32_w]
                  rfl
                exact norm_ (by first | (simp only [putAll, Act.put, List.setIfInBounds_toArray, List.set_cons_zero, List.set_cons_succ]; done) | (simp only [putAll, Act.put, List.setIfInBounds_toArray, List.set_cons_zero, List.set_cons_succ]; rfl)) (hJ9_11_12_14_15 (v456, v459, .slice Ao37 y461.length co37, v466, gb468) _ ⟨hHeld, (by (with_reducible repeat (first | apply Kd.R_alloc | apply Kd.R_drewN | apply Kd.R_drew)); exact Kd.R_mono HO446.out (fun _ hk => ⟨hk.1.1, ⟨hk.1.2.1, ⟨hk.2, hk.1.2.2⟩⟩⟩)), (by (with_reducible repeat (first | apply Kd.R_alloc | apply Kd.R_drewN | apply Kd.R_drew)); exact HO450.out), (by (with_reducible repeat (first | apply Kd.R_alloc | apply Kd.R_drewN | apply Kd.R_drew)); exact Kd.R_mono HO460.out (fun _ hk => ⟨hk.1.1, ⟨hk.1.2.1, ⟨hk.2, hk.1.2.2⟩⟩⟩)), (by (with_reducible repeat (first | apply Kd.R_alloc | apply Kd.R_drewN | apply Kd.R_drew)); exact Kd.R_mono HO463.out (fun _ hk => ⟨hk.1.1, ⟨hk.1.2.1, ⟨hk.2, hk.1.2.2⟩⟩⟩)), (by (with_reducible repeat (first | apply Kd.R_alloc | apply Kd.R_drewN | apply Kd.R_drew)); exact Kd.R_mono HO467.out (fun _ hk => ⟨hk.1.1.1.2, ⟨hk.1.1.2, ⟨hk.1.2, hk.2⟩⟩⟩)), (by (with_reducible repeat (first | refine blk_drewN ?_ _ | refine blk_drew ?_ | refine blk_alloc ?_ _)); exact BK440.out), (by (with_reducible repeat (first | refine blk_drewN ?_ _ | refine blk_drew ?_ | refine blk_alloc ?_ _)); exact BK441.out), (by (with_reducible repeat (first | refine blk_drewN ?_ _ | refine blk_drew ?_ | refine blk_alloc ?_ _)); exact BK447.out), (by (with_reducible repeat (first | refine blk_drewN ?_ _ | refine blk_drew ?_ | refine blk_alloc ?_ _)); exact BK468.out), GW468.out, GE468.out, NB440_468.out, NB468_440.out, NB441_468.out, NB468_441.out, NB447_468.out, NB468_447.out, (by repeat (first | (with_reducible first | exact HB.out | apply below_alloc | apply pw_below_drewN | apply below_drew1 | refine below_set ?_ GE440.out | refine below_set ?_ GE441.out | refine below_set ?_ GE447.out | refine below_set ?_ GE468.out) | exact HB.out))⟩)
            · skip
              rintro ⟨v456, v459, v462, v466⟩ w36 ⟨hS_, h0_, h1_, h2_, h3_, h4_, h5_, h6_, h7_, h8_⟩
              have n0_ : Aside0 (Kd.R k41 41 w36 w.heap.size (fun k_ => some k_ ≠ (v459 : Value).ownBlock ∧ some k_ ≠ (v462 : Value).ownBlock ∧ some k_ ≠ (v466 : Value).ownBlock ∧ k_ ≠ gb441) (.slice Ao25 t444.length co25) t444) := ⟨h0_⟩
              have n1_ : Aside0 (Kd.R (Kd.int .i64) 3 w36 w.heap.size (fun _ => True) v449 t448) := ⟨h1_⟩
              have n2_ : Aside0 (Kd.R k41 41 w36 w.heap.size (fun k_ => some k_ ≠ (.slice Ao25 t444.length co25 : Value).ownBlock ∧ some k_ ≠ (v462 : Value).ownBlock ∧ some k_ ≠ (v466 : Value).ownBlock ∧ k_ ≠ gb441) v459 y458) := ⟨h2_⟩
              have n3_ : Aside0 (Kd.R k41 41 w36 w.heap.size (fun k_ => some k_ ≠ (.slice Ao25 t444.length co25 : Value).ownBlock ∧ some k_ ≠ (v459 : Value).ownBlock ∧ some k_ ≠ (v466 : Value).ownBlock ∧ k_ ≠ gb441) v462 y461) := ⟨h3_⟩
              have n4_ : Aside0 (Kd.R k41 41 w36 w.heap.size (fun k_ => some k_ ≠ (.slice Ao25 t444.length co25 : Value).ownBlock ∧ some k_ ≠ (v459 : Value).ownBlock ∧ some k_ ≠ (v462 : Value).ownBlock ∧ k_ ≠ gb441) v466 t465) := ⟨h4_⟩
              have n5_ : Aside0 (w36.heap[gb440]? = some (.cells #[.int .i64 a0_0, .slice A0_1 l0_1.length c0_1] 24 (0, 0))) := ⟨h5_⟩
              have n6_ : Aside0 (w36.heap[gb441]? = some (.cells #[.int .i64 a2_0, .int .i64 a2_1, .int .i64 a2_2] 41 (0, 0))) := ⟨h6_⟩
              have n7_ : Aside0 (w36.heap[gb447]? = some (.cells #[.int .i64 t443, .slice Ao25 t444.length co25] 24 (0, 0))) := ⟨h7_⟩
              have n8_ : Aside0 (Below w.heap.size w w36) := ⟨h8_⟩
              clear HO446
              clear HO450
              clear BK440
              clear BK441
              clear BK447
              clear HB
              clear h0_ h1_ h2_ h3_ h4_ h5_ h6_ h7_ h8_
              have HO446 := n0_
              have HO450 := n1_
              have HO460 := n2_
              have HO463 := n3_
              have HO467 := n4_
              have BK440 := n5_
              have BK441 := n6_
              have BK447 := n7_
              have HB := n8_
              clear n0_ n1_ n2_ n3_ n4_ n5_ n6_ n7_ n8_
              have hHeld : w36.cell? ⟨gb440, 0, none⟩ = some (.int .i64 a0_0) ∧ w36.cell? ⟨gb440, 1, none⟩ = some (.slice A0_1 l0_1.length c0_1) ∧ w36.cell? ⟨gb441, 0, none⟩ = some (.int .i64 a2_0) ∧ w36.cell? ⟨gb441, 1, none⟩ = some (.int .i64 a2_1) ∧ w36.cell? ⟨gb441, 2, none⟩ = some (.int .i64 a2_2) := hS_
              obtain ⟨Ao37, co37, eo37⟩ := Kd.R_slice HO463.out
              (first | subst eo37 | (injection eo37 with f1_ f2_ f3_; have f4_ := f1_.symm; have f5_ := f3_.symm; clear f1_ f2_ f3_; subst f4_; subst f5_))
              refine norm_ (a' := ?_) ?_ ?_
              rotate_left
              · simp only [putAll, Act.put, List.setIfInBounds_toArray, List.set_cons_zero, List.set_cons_succ]
                rfl
              refine one_ (i := 15) (N := some 10) #[true, true, true, true, true, true, true, true, true, true, true, true, true, true, true, true, false] rfl rfl (one_of HT_.out (by kernel_rfl)) (by decide) (fun K hK => ?_)
              refine box_step ?hg (N := 10) ?hd (cs := #[.int .i64 0, .slice none 0 0]) (t := 24) ?hr ?_; (case hd => rfl); (case hg => rfl); (case hr => first | (go_simp; done) | (go_simp; rfl))
              intro gb468 hg w38 hbox hb
              have n0_ := Aside0.mk (Kd.R_below (by (with_reducible repeat (first | apply Kd.R_alloc | apply Kd.R_drewN | apply Kd.R_drew)); exact HO446.out) hb)
              have n1_ := Aside0.mk (Kd.R_below (by (with_reducible repeat (first | apply Kd.R_alloc | apply Kd.R_drewN | apply Kd.R_drew)); exact HO450.out) hb)
              have n2_ := Aside0.mk (Kd.R_below (by (with_reducible repeat (first | apply Kd.R_alloc | apply Kd.R_drewN | apply Kd.R_drew)); exact HO460.out) hb)
              have n3_ := Aside0.mk (Kd.R_below (by (with_reducible repeat (first | apply Kd.R_alloc | apply Kd.R_drewN | apply Kd.R_drew)); exact HO463.out) hb)
              have n4_ := Aside0.mk (Kd.R_below (by (with_reducible repeat (first | apply Kd.R_alloc | apply Kd.R_drewN | apply Kd.R_drew)); exact HO467.out) hb)
              have n5_ := Aside0.mk (blk_below (g := gb440) (o := .cells #[.int .i64 a0_0, .slice A0_1 l0_1.length c0_1] 24 (0, 0)) (by (with_reducible repeat (first | refine blk_drewN ?_ _ | refine blk_drew ?_ | refine blk_alloc ?_ _)); exact BK440.out) hb)
              have n6_ := Aside0.mk (blk_below (g := gb441) (o := .cells #[.int .i64 a2_0, .int .i64 a2_1, .int .i64 a2_2] 41 (0, 0)) (by (with_reducible repeat (first | refine blk_drewN ?_ _ | refine blk_drew ?_ | refine blk_alloc ?_ _)); exact BK441.out) hb)
              have n7_ := Aside0.mk (blk_below (g := gb447) (o := .cells #[.int .i64 t443, .slice Ao25 t444.length co25] 24 (0, 0)) (by (with_reducible repeat (first | refine blk_drewN ?_ _ | refine blk_drew ?_ | refine blk_alloc ?_ _)); exact BK447.out) hb)
              have n8_ := Aside0.mk (below_step (by repeat (first | (with_reducible first | exact HB.out | apply below_alloc | apply pw_below_drewN | apply below_drew1 | refine below_set ?_ GE440.out | refine below_set ?_ GE441.out | refine below_set ?_ GE447.out) | exact HB.out)) hb)
              have n9_ := Aside0.mk (hbox)
              have n10_ := Aside0.mk ((by rw [hg]; exact (below_size (by repeat (first | (with_reducible first | exact HB.out | apply below_alloc | apply pw_below_drewN | apply below_drew1 | refine below_set ?_ GE440.out | refine below_set ?_ GE441.out | refine below_set ?_ GE447.out) | exact HB.out))) : w.heap.size ≤ gb468))
              have n11_ := Aside0.mk ((by rw [hg]; exact (below_size (by repeat (first | (with_reducible first | exact HB.out | apply below_alloc | apply pw_below_drewN | apply below_drew1 | refine below_set ?_ GE440.out | refine below_set ?_ GE441.out | refine below_set ?_ GE447.out) | exact HB.out))) : w.heap.size ≤ gb468))
              have n12_ := Aside0.mk ((by rw [hg]; exact Nat.ne_of_lt (blk_lt (g := gb440) (o := .cells #[.int .i64 a0_0, .slice A0_1 l0_1.length c0_1] 24 (0, 0)) (by (with_reducible repeat (first | refine blk_drewN ?_ _ | refine blk_drew ?_ | refine blk_alloc ?_ _)); exact BK440.out)) : gb440 ≠ gb468))
              have n13_ := Aside0.mk ((by rw [hg]; exact Nat.ne_of_gt (blk_lt (g := gb440) (o := .cells #[.int .i64 a0_0, .slice A0_1 l0_1.length c0_1] 24 (0, 0)) (by (with_reducible repeat (first | refine blk_drewN ?_ _ | refine blk_drew ?_ | refine blk_alloc ?_ _)); exact BK440.out)) : gb468 ≠ gb440))
              have n14_ := Aside0.mk ((by rw [hg]; exact Nat.ne_of_lt (blk_lt (g := gb441) (o := .cells #[.int .i64 a2_0, .int .i64 a2_1, .int .i64 a2_2] 41 (0, 0)) (by (with_reducible repeat (first | refine blk_drewN ?_ _ | refine blk_drew ?_ | refine blk_alloc ?_ _)); exact BK441.out)) : gb441 ≠ gb468))
              have n15_ := Aside0.mk ((by rw [hg]; exact Nat.ne_of_gt (blk_lt (g := gb441) (o := .cells #[.int .i64 a2_0, .int .i64 a2_1, .int .i64 a2_2] 41 (0, 0)) (by (with_reducible repeat (first | refine blk_drewN ?_ _ | refine blk_drew ?_ | refine blk_alloc ?_ _)); exact BK441.out)) : gb468 ≠ gb441))
              have n16_ := Aside0.mk ((by rw [hg]; exact Nat.ne_of_lt (blk_lt (g := gb447) (o := .cells #[.int .i64 t443, .slice Ao25 t444.length co25] 24 (0, 0)) (by (with_reducible repeat (first | refine blk_drewN ?_ _ | refine blk_drew ?_ | refine blk_alloc ?_ _)); exact BK447.out)) : gb447 ≠ gb468))
              have n17_ := Aside0.mk ((by rw [hg]; exact Nat.ne_of_gt (blk_lt (g := gb447) (o := .cells #[.int .i64 t443, .slice Ao25 t444.length co25] 24 (0, 0)) (by (with_reducible repeat (first | refine blk_drewN ?_ _ | refine blk_drew ?_ | refine blk_alloc ?_ _)); exact BK447.out)) : gb468 ≠ gb447))
              clear HO446
              clear HO450
              clear HO460
              clear HO463
              clear HO467
              clear BK440
              clear BK441
              clear BK447
              clear HB
              have HO446 := n0_
              have HO450 := n1_
              have HO460 := n2_
              have HO463 := n3_
              have HO467 := n4_
              have BK440 := n5_
              have BK441 := n6_
              have BK447 := n7_
              have HB := n8_
              have BK468 := n9_
              have GW468 := n10_
              have GE468 := n11_
              have NB440_468 := n12_
              have NB468_440 := n13_
              have NB441_468 := n14_
              have NB468_441 := n15_
              have NB447_468 := n16_
              have NB468_447 := n17_
              clear n0_ n1_ n2_ n3_ n4_ n5_ n6_ n7_ n8_ n9_ n10_ n11_ n12_ n13_ n14_ n15_ n16_ n17_
              clear hb hbox hg
              refine hK.out _ _ ⟨(blk_cell BK440.out 0).trans rfl, (blk_cell BK440.out 1).trans rfl, (blk_cell BK441.out 0).trans rfl, (blk_cell BK441.out 1).trans rfl, (blk_cell BK441.out 2).trans rfl⟩ (fun hHeld => ?_)
              clear hK K
              refine norm_ (a' := ?_) ?_ ?_
              rotate_left
              · show Act.put _ (some 10) _ = _
                simp only [Act.put, List.setIfInBounds_toArray, List.set_cons_zero, List.set_cons_succ, i64_w, i32_w]
                rfl
              exact norm_ (by first | (simp only [putAll, Act.put, List.setIfInBounds_toArray, List.set_cons_zero, List.set_cons_succ]; done) | (simp only [putAll, Act.put, List.setIfInBounds_toArray, List.set_cons_zero, List.set_cons_succ]; rfl)) (hJ9_11_12_14_15 (v456, v459, .slice Ao37 y461.length co37, v466, gb468) _ ⟨hHeld, (by (with_reducible repeat (first | apply Kd.R_alloc | apply Kd.R_drewN | apply Kd.R_drew)); exact HO446.out), (by (with_reducible repeat (first | apply Kd.R_alloc | apply Kd.R_drewN | apply Kd.R_drew)); exact HO450.out), (by (with_reducible repeat (first | apply Kd.R_alloc | apply Kd.R_drewN | apply Kd.R_drew)); exact HO460.out), (by (with_reducible repeat (first | apply Kd.R_alloc | apply Kd.R_drewN | apply Kd.R_drew)); exact HO463.out), (by (with_reducible repeat (first | apply Kd.R_alloc | apply Kd.R_drewN | apply Kd.R_drew)); exact HO467.out), (by (with_reducible repeat (first | refine blk_drewN ?_ _ | refine blk_drew ?_ | refine blk_alloc ?_ _)); exact BK440.out), (by (with_reducible repeat (first | refine blk_drewN ?_ _ | refine blk_drew ?_ | refine blk_alloc ?_ _)); exact BK441.out), (by (with_reducible repeat (first | refine blk_drewN ?_ _ | refine blk_drew ?_ | refine blk_alloc ?_ _)); exact BK447.out), (by (with_reducible repeat (first | refine blk_drewN ?_ _ | refine blk_drew ?_ | refine blk_alloc ?_ _)); exact BK468.out), GW468.out, GE468.out, NB440_468.out, NB468_440.out, NB441_468.out, NB468_441.out, NB447_468.out, NB468_447.out, (by repeat (first | (with_reducible first | exact HB.out | apply below_alloc | apply pw_below_drewN | apply below_drew1 | refine below_set ?_ GE440.out | refine below_set ?_ GE441.out | refine below_set ?_ GE447.out | refine below_set ?_ GE468.out) | exact HB.out))⟩)
          rintro ⟨v456, v459, v462, v466, gb468⟩ w37 ⟨hS_, h0_, h1_, h2_, h3_, h4_, h5_, h6_, h7_, h8_, h9_, h10_, h11_, h12_, h13_, h14_, h15_, h16_, h17_⟩
          have n0_ : Aside0 (Kd.R k41 41 w37 w.heap.size (fun k_ => some k_ ≠ (v459 : Value).ownBlock ∧ some k_ ≠ (v462 : Value).ownBlock ∧ some k_ ≠ (v466 : Value).ownBlock ∧ k_ ≠ gb441) (.slice Ao25 t444.length co25) t444) := ⟨h0_⟩
          have n1_ : Aside0 (Kd.R (Kd.int .i64) 3 w37 w.heap.size (fun _ => True) v449 t448) := ⟨h1_⟩
          have n2_ : Aside0 (Kd.R k41 41 w37 w.heap.size (fun k_ => some k_ ≠ (.slice Ao25 t444.length co25 : Value).ownBlock ∧ some k_ ≠ (v462 : Value).ownBlock ∧ some k_ ≠ (v466 : Value).ownBlock ∧ k_ ≠ gb441) v459 y458) := ⟨h2_⟩
          have n3_ : Aside0 (Kd.R k41 41 w37 w.heap.size (fun k_ => some k_ ≠ (.slice Ao25 t444.length co25 : Value).ownBlock ∧ some k_ ≠ (v459 : Value).ownBlock ∧ some k_ ≠ (v466 : Value).ownBlock ∧ k_ ≠ gb441) v462 y461) := ⟨h3_⟩
          have n4_ : Aside0 (Kd.R k41 41 w37 w.heap.size (fun k_ => some k_ ≠ (.slice Ao25 t444.length co25 : Value).ownBlock ∧ some k_ ≠ (v459 : Value).ownBlock ∧ some k_ ≠ (v462 : Value).ownBlock ∧ k_ ≠ gb441) v466 t465) := ⟨h4_⟩
          have n5_ : Aside0 (w37.heap[gb440]? = some (.cells #[.int .i64 a0_0, .slice A0_1 l0_1.length c0_1] 24 (0, 0))) := ⟨h5_⟩
          have n6_ : Aside0 (w37.heap[gb441]? = some (.cells #[.int .i64 a2_0, .int .i64 a2_1, .int .i64 a2_2] 41 (0, 0))) := ⟨h6_⟩
          have n7_ : Aside0 (w37.heap[gb447]? = some (.cells #[.int .i64 t443, .slice Ao25 t444.length co25] 24 (0, 0))) := ⟨h7_⟩
          have n8_ : Aside0 (w37.heap[gb468]? = some (.cells #[.int .i64 0, .slice none 0 0] 24 (0, 0))) := ⟨h8_⟩
          have n9_ : Aside0 (w.heap.size ≤ gb468) := ⟨h9_⟩
          have n10_ : Aside0 (w.heap.size ≤ gb468) := ⟨h10_⟩
          have n11_ : Aside0 (gb440 ≠ gb468) := ⟨h11_⟩
          have n12_ : Aside0 (gb468 ≠ gb440) := ⟨h12_⟩
          have n13_ : Aside0 (gb441 ≠ gb468) := ⟨h13_⟩
          have n14_ : Aside0 (gb468 ≠ gb441) := ⟨h14_⟩
          have n15_ : Aside0 (gb447 ≠ gb468) := ⟨h15_⟩
          have n16_ : Aside0 (gb468 ≠ gb447) := ⟨h16_⟩
          have n17_ : Aside0 (Below w.heap.size w w37) := ⟨h17_⟩
          clear HO446
          clear HO450
          clear BK440
          clear BK441
          clear BK447
          clear HB
          clear h0_ h1_ h2_ h3_ h4_ h5_ h6_ h7_ h8_ h9_ h10_ h11_ h12_ h13_ h14_ h15_ h16_ h17_
          have HO446 := n0_
          have HO450 := n1_
          have HO460 := n2_
          have HO463 := n3_
          have HO467 := n4_
          have BK440 := n5_
          have BK441 := n6_
          have BK447 := n7_
          have BK468 := n8_
          have GW468 := n9_
          have GE468 := n10_
          have NB440_468 := n11_
          have NB468_440 := n12_
          have NB441_468 := n13_
          have NB468_441 := n14_
          have NB447_468 := n15_
          have NB468_447 := n16_
          have HB := n17_
          clear n0_ n1_ n2_ n3_ n4_ n5_ n6_ n7_ n8_ n9_ n10_ n11_ n12_ n13_ n14_ n15_ n16_ n17_
          have hHeld : w37.cell? ⟨gb440, 0, none⟩ = some (.int .i64 a0_0) ∧ w37.cell? ⟨gb440, 1, none⟩ = some (.slice A0_1 l0_1.length c0_1) ∧ w37.cell? ⟨gb441, 0, none⟩ = some (.int .i64 a2_0) ∧ w37.cell? ⟨gb441, 1, none⟩ = some (.int .i64 a2_1) ∧ w37.cell? ⟨gb441, 2, none⟩ = some (.int .i64 a2_2) := hS_
          obtain ⟨Ao38, co38, eo38⟩ := Kd.R_slice HO463.out
          (first | subst eo38 | (injection eo38 with f1_ f2_ f3_; have f4_ := f1_.symm; have f5_ := f3_.symm; clear f1_ f2_ f3_; subst f4_; subst f5_))
          obtain ⟨Ao40, co40, eo40⟩ := Kd.R_slice HO467.out
          (first | subst eo40 | (injection eo40 with f1_ f2_ f3_; have f4_ := f1_.symm; have f5_ := f3_.symm; clear f1_ f2_ f3_; subst f4_; subst f5_))
          refine norm_ (a' := ?_) ?_ ?_
          rotate_left
          · simp only [putAll, Act.put, List.setIfInBounds_toArray, List.set_cons_zero, List.set_cons_succ]
            rfl
          refine one_ (i := 16) (N := none) #[true, true, true, true, true, true, true, true, true, true, true, true, true, true, true, true, true] rfl rfl (one_of HT_.out (by kernel_rfl)) (by decide) (fun K hK => ?_)
          have hs39 : w37.cell? ⟨gb468, 0, none⟩ = some (.int .i64 0) := (blk_cell BK468.out 0).trans rfl
          have hfs39 := blk_frozen BK468.out 0
          have hns39_0 := NB440_468.out
          have hns39_1 := NB441_468.out
          have hns39_2 := NB447_468.out
          have hms39_0 := NB468_440.out
          have hms39_1 := NB468_441.out
          have hms39_2 := NB468_447.out
          have hs41 : w37.cell? ⟨gb468, 1, none⟩ = some (.slice none 0 0) := (blk_cell BK468.out 1).trans rfl
          have hfs41 := blk_frozen BK468.out 1
          have hns41_0 := NB440_468.out
          have hns41_1 := NB441_468.out
          have hns41_2 := NB447_468.out
          have hms41_0 := NB468_440.out
          have hms41_1 := NB468_441.out
          have hms41_2 := NB468_447.out
          refine skip_ (w1 := ?_) (by rfl) rfl ?_ ?_
          rotate_left
          · go_simp
            rfl
          refine hK.out _ _ ⟨((cell_far (p := ⟨gb468, _, none⟩) NB440_468.out _).trans (((cell_far (p := ⟨gb468, _, none⟩) NB440_468.out _).trans (hHeld.1)))), ((cell_far (p := ⟨gb468, _, none⟩) NB440_468.out _).trans (((cell_far (p := ⟨gb468, _, none⟩) NB440_468.out _).trans (hHeld.2.1)))), ((cell_far (p := ⟨gb468, _, none⟩) NB441_468.out _).trans (((cell_far (p := ⟨gb468, _, none⟩) NB441_468.out _).trans (hHeld.2.2.1)))), ((cell_far (p := ⟨gb468, _, none⟩) NB441_468.out _).trans (((cell_far (p := ⟨gb468, _, none⟩) NB441_468.out _).trans (hHeld.2.2.2.1)))), ((cell_far (p := ⟨gb468, _, none⟩) NB441_468.out _).trans (((cell_far (p := ⟨gb468, _, none⟩) NB441_468.out _).trans (hHeld.2.2.2.2))))⟩ (fun hHeld => ?_)
          clear hK K
          refine done_ (done_of HT_.out (by kernel_rfl)) ?_
          have hnb42 := NB468_440.out
          have hnc42 := NB440_468.out
          have hnb43 := NB468_441.out
          have hnc43 := NB441_468.out
          have hnb44 := NB468_447.out
          have hnc44 := NB447_468.out
          have hcz45_0 : w37.cell? ⟨gb468, 0, none⟩ = some (.int .i64 0) := (blk_cell BK468.out 0).trans rfl
          have hcz45_1 : w37.cell? ⟨gb468, 1, none⟩ = some (.slice none 0 0) := (blk_cell BK468.out 1).trans rfl
          have hfz45_0 := blk_frozen BK468.out 0
          have hfz45_1 := blk_frozen BK468.out 1
          obtain ⟨A9, c9, e9⟩ := Kd.R_slice HO450.out
          subst e9
          have hc25 := (Kd.R_reads' HO446.out).2.1
          have hc9 := (Kd.R_reads' HO450.out).2.1
          have hc40 := (Kd.R_reads' HO467.out).2.1
          have hMW : Mw w t443 t444 t448 t464 t465 gb447 Ao25 co25 A9 gb468 Ao40 co40 ((w37.setCell ⟨gb468, 0, none⟩ (.int .i64 t464)).setCell ⟨gb468, 1, none⟩ (.slice Ao40 t465.length co40)) := by
            have hb1 := blk_set BK468.out 0 (.int .i64 t464)
            refine ⟨(HB.out.setCell (p := ⟨gb468, 0, none⟩) GE468.out _).setCell (p := ⟨gb468, 1, none⟩) GE468.out _, blk_far (blk_far BK447.out (p := ⟨gb468, 0, none⟩) NB447_468.out _) (p := ⟨gb468, 1, none⟩) NB447_468.out _, blk_put (blk_put BK468.out 0 _ rfl) 1 _ rfl, ?_, ?_, ?_⟩
            · exact (Kd.R_reads' (Kd.R_set (Kd.R_set HO446.out BK468.out (by decide) 0 _) hb1 (by decide) 1 _)).2.2
            · exact (Kd.R_reads' (Kd.R_set (Kd.R_set HO450.out BK468.out (by decide) 0 _) hb1 (by decide) 1 _)).2.2
            · exact (Kd.R_reads' (Kd.R_set (Kd.R_set HO467.out BK468.out (by decide) 0 _) hb1 (by decide) 1 _)).2.2
          have HW0 := Lib.hid hMW
          clear hMW
          generalize (w37.setCell ⟨gb468, 0, none⟩ (.int .i64 t464)).setCell ⟨gb468, 1, none⟩ (.slice Ao40 t465.length co40) = W0 at HW0 ⊢
          have htw := HAw_.out
          subst htw
          have HK := HE_.out
          obtain ⟨n0, n1, hll, hll1, hfl, hmore⟩ := HK
          have HFl := Lib.hid hfl
          have HMo := Lib.hid hmore
          clear hfl hmore HE_ HO446 HO450 HO460 HO463 HO467 BK440 BK441 BK447 BK468 HB
          obtain ⟨x0, x1, x2, x3⟩ := HW0.out.cells
          have hi3 : (Try.prog.info? 3).map (·.size) = some 1 := by kernel_rfl
          by_cases hge : t465.length ≤ t444.length
          · have hgeb : decide (t465.length ≤ t444.length) = true := decide_eq_true hge
            as_aux_lemma =>
              go_wp2_with (first
                | (refine Kd.R_make (w0 := W0) (Kd.int .i64) W0.heap.size 3 rfl (N := 40) rfl 25 _ _ rfl (t465.length : Int) rfl rfl Try.underlying25 (.int .i64 0) 8 info3 rfl (by decide) (by decide) (0 : Int) (ok := fun _ => True) (okp := fun _ => True) rfl (fun _ hk => hk) trivial (by omega) (by omega) (Below.refl _ _) (Nat.le_refl _) ?_; intro v11 w1 ho hb hg hnew; obtain ⟨A11, c11, e11⟩ := Kd.R_slice ho; rw [List.length_replicate, Int.toNat_natCast] at e11; subst e11; have HG := Lib.hid ho; have HB1 := Lib.hid hb; clear ho hb hg hnew)
                | (refine Kd.R_copy (0 : Int) (w0 := W0) W0.heap.size rfl (.tmp 41) (.tmp 42) 25 25 3 rfl Try.underlying25 hi3 (.slice A11 t465.length c11) (List.replicate t465.length 0) t448 A9 t448.length c9 (fun _ => True) rfl rfl HG.out (Kd.C_below HW0.out.hf HB1.out) HB1.out HB1.out.size ?_; intro w2 ho hb hg; have HG2 := Lib.hid ho; have HW2 := Lib.hid (HW0.out.below hb); obtain ⟨y0, y1, y2, y3⟩ := HW2.out.cells; clear ho hb hg))

              try go_wp2
              go_ret
              exact ⟨by have h := HTr_.out; subst h; rfl, HW2.out.bel⟩
          · have hgeb : decide (t465.length ≤ t444.length) = false := decide_eq_false hge
            obtain ⟨Sa, Sb, hRa, hRb, hSa, hSb, hmon, hcE, hcN⟩ := HMo.out (by omega)
            have HRa := Lib.hid hRa
            have HRb := Lib.hid hRb
            have HSa := Lib.hid hSa
            have HSb := Lib.hid hSb
            have HMon := Lib.hid hmon
            have HcE := Lib.hid hcE
            have HcN := Lib.hid hcN
            have hnA : ((Sa.length : Int) != t443) = false := bne_eq_false_iff_eq.mpr hSa
            have hnB : ((Sb.length : Int) != t443) = false := bne_eq_false_iff_eq.mpr hSb
            clear hRa hRb hSa hSb hmon hcE hcN HMo
            obtain ⟨G, HG_⟩ : ∃ G, Hid (copG t448 t465.length = G) := ⟨_, Lib.hid rfl⟩
            have hGl := Lib.hid (show G.length = t465.length from by rw [← HG_.out, copG_len])
            have HRb := Lib.hid (HG_.out ▸ HRb.out)
            go_upto_region 11 with (first
                | (refine Kd.R_make (w0 := W0) (Kd.int .i64) W0.heap.size 3 rfl (N := 40) rfl 25 _ _ rfl (t465.length : Int) rfl rfl Try.underlying25 (.int .i64 0) 8 info3 rfl (by decide) (by decide) (0 : Int) (ok := fun _ => True) (okp := fun _ => True) rfl (fun _ hk => hk) trivial (by omega) (by omega) (Below.refl _ _) (Nat.le_refl _) ?_; intro v11 w1 ho hb hg hnew; obtain ⟨A11, c11, e11⟩ := Kd.R_slice ho; rw [List.length_replicate, Int.toNat_natCast] at e11; subst e11; have HG := Lib.hid ho; have HB1 := Lib.hid hb; clear ho hb hg hnew)
                | (refine Kd.R_copy (0 : Int) (w0 := W0) W0.heap.size rfl (.tmp 41) (.tmp 42) 25 25 3 rfl Try.underlying25 hi3 (.slice A11 t465.length c11) (List.replicate t465.length 0) t448 A9 t448.length c9 (fun _ => True) rfl rfl HG.out (Kd.C_below HW0.out.hf HB1.out) HB1.out HB1.out.size ?_; intro w2 ho hb hg; have HG2 := Lib.hid ho; have HW2 := Lib.hid (HW0.out.below hb); obtain ⟨y0, y1, y2, y3⟩ := HW2.out.cells; have HGr : Hid (Kd.C (Kd.int .i64) w2 A11 t465.length G) := Lib.hid (by rw [← hGl.out, ← HG_.out]; exact (Kd.R_reads' HG2.out).2.2); have hcG : t465.length ≤ c11 := (Kd.R_reads' HG2.out).2.1; clear ho hb hg HG2)
                | ((with_reducible refine gate_callee (f := 20) rfl ?_); refine goesL_ (some 54) rfl rfl Try.func20 (by kernel_rfl) rfl #[.agg #[.int .i64 t443, .slice Ao25 t444.length co25], .slice A9 t448.length c9, .int .i64 0] rfl (by (try simp only [List.map_toArray, List.map_cons, List.map_nil]); first | done | rfl) ?_; (with_reducible refine (graph_Reach.calls k t443 _ _ t444 _ _ t448 0 Sa _ ?side1 ?side2 ?side3 ?side4 HRa.out).mono ?_); (case side1 => exact HW2.out.hl); (case side2 => assumption); (case side3 => exact HW2.out.hf); (case side4 => assumption); rintro e w3 ⟨v54, rfl, ho, hb⟩; refine ⟨_, rfl, ?_⟩; obtain ⟨A54, c54, e54⟩ := Kd.R_slice ho; subst e54; have HS54 := Lib.hid (Kd.R_reads' ho).2.2; have HW3 := Lib.hid (HW2.out.below hb); have HGr3 := Lib.hid (Kd.C_below HGr.out hb); obtain ⟨z0, z1, z2, z3⟩ := HW3.out.cells; clear ho hb)
                | ((with_reducible refine gate_callee (f := 20) rfl ?_); refine goesL_ (some 57) rfl rfl Try.func20 (by kernel_rfl) rfl #[.agg #[.int .i64 t464, .slice Ao40 t465.length co40], .slice A11 t465.length c11, .int .i64 0] rfl (by (try simp only [List.map_toArray, List.map_cons, List.map_nil]); first | done | rfl) ?_; (with_reducible refine (reach_n k t464 _ _ t465 _ _ G 0 Sb _ hGl.out ?side1 ?side2 ?side3 ?side4 HRb.out).mono ?_); (case side1 => exact HW3.out.hl1); (case side2 => assumption); (case side3 => exact HGr3.out); (case side4 => assumption); rintro e w4 ⟨v57, rfl, ho, hb⟩; refine ⟨_, rfl, ?_⟩; obtain ⟨A57, c57, e57⟩ := Kd.R_slice ho; subst e57; have HS57 := Lib.hid (Kd.R_reads' ho).2.2; have HW4 := Lib.hid (HW3.out.below hb); have HSa4 := Lib.hid (Kd.C_below HS54.out hb); obtain ⟨u0, u1, u2, u3⟩ := HW4.out.cells; clear ho hb))
            clear HW2 HW3 HGr HGr3 HS54 HW0 z0 z1 z2 z3 y0 y1 y2 y3 x0 x1 x2 x3
            go_wp2_with (first
                | (refine Kd.R_make (w0 := w4) Kd.bool w4.heap.size 4 rfl (N := 76) rfl 26 _ _ rfl t443 rfl rfl Try.underlying26 (.bool false) 1 info4 rfl (by decide) (by decide) false (ok := fun _ => True) (okp := fun _ => True) rfl (fun _ hk => hk) trivial (by omega) (by omega) (Below.refl _ _) (Nat.le_refl _) ?_; intro v14 w5 ho hb hg hnew; obtain ⟨A14, c14, e14⟩ := Kd.R_slice ho; rw [List.length_replicate] at e14; subst e14; have HE5 := Lib.hid ho; have HB5 := Lib.hid hb; clear ho hb hg hnew))
            have HE0 : Hid (Kd.R Kd.bool 4 w5 w4.heap.size (fun _ => True) (.slice A14 t443.toNat c14) (evL t443 0)) := Lib.hid (by rw [evL_zero]; exact HE5.out)
            clear HE5 u0 u1 u2 u3
            go_loopw [15] (fun v15 wr => ∃ v : Nat, (v : Int) ≤ t443 ∧ v15 = .int .i64 v ∧ Hid (Below w4.heap.size w4 wr) ∧ Hid (Kd.R Kd.bool 4 wr w4.heap.size (fun _ => True) (.slice A14 t443.toNat c14) (evL t443 v))) (fun v15 _ => 64 - (intOf v15).toNat)
            case atStart => exact ⟨0, by omega, rfl, HB5, HE0⟩
            case round =>
              clear HB5 HE0
              obtain ⟨v, hv, rfl, HBr, HEr⟩ := hrel
              have HWr := Lib.hid (HW4.out.below HBr.out)
              have HSar := Lib.hid (Kd.C_below HSa4.out HBr.out)
              have HSbr := Lib.hid (Kd.C_below HS57.out HBr.out)
              obtain ⟨x0, x1, x2, x3⟩ := HWr.out.cells
              by_cases hvN : (v : Int) < t443
              · obtain ⟨ada, e54, ha⟩ := Kd.at_bool HSar.out (v : Int) (by omega) (by have := HSa.out; omega)
                obtain ⟨adb, e57, hb⟩ := Kd.at_bool HSbr.out (v : Int) (by omega) (by have := HSb.out; omega)
                subst e54 e57
                rw [Int.toNat_natCast] at ha hb
                have hel := evL_len hv
                obtain ⟨g14, k14, e14, gb14, gl14, cl14, G14⟩ := Kd.R_form HEr.out (by omega)
                injection e14 with e14 e_ e__
                subst e14 e__
                clear e_ cl14 G14 gl14
                obtain ⟨hx14, hf14⟩ := Kd.R_celln false HEr.out (v : Int) (by omega) (by omega)
                rw [Int.toNat_natCast] at hx14 hf14
                have hal : (v : Int) < (Sa.length : Int) := by have := HSa.out; omega
                have hbl : (v : Int) < (Sb.length : Int) := by have := HSb.out; omega
                have hvl : (v : Int) < (t443.toNat : Int) := by omega
                have HM := Lib.hid (HMon.out v hvN)
                obtain ⟨b1, Hb1⟩ : ∃ b, Hid (rdOf false Sa v = b) := ⟨_, Lib.hid rfl⟩
                obtain ⟨b2, Hb2⟩ : ∃ b, Hid (rdOf false Sb v = b) := ⟨_, Lib.hid rfl⟩
                rw [Hb1.out] at ha
                rw [Hb2.out] at hb
                obtain ⟨z, Hz⟩ : ∃ z, Hid (rdOf false (evL t443 v) v = z) := ⟨_, Lib.hid rfl⟩
                rw [Hz.out] at hx14
                have HEn := Lib.hid (Kd.R_putn HEr.out (v : Int) true)
                rw [Int.toNat_natCast, evL_set hvN] at HEn
                clear hel HEr
                have HBn := Lib.hid (HBr.out.setCell (p := ⟨g14, v, none⟩) gb14 (.bool true))
                cases b1
                · as_aux_lemma =>
                    go_wp2_with fail
                    go_roundw
                    case rel => exact ⟨v + 1, by omega, by go_num, HBn, HEn⟩
                    case measure => change 64 - ((v : Int) + 1).toNat < 64 - ((v : Int)).toNat; omega
                · obtain rfl : b2 = true := by rw [← Hb2.out]; exact HM.out Hb1.out
                  as_aux_lemma =>
                    go_wp2_with fail
                    go_roundw
                    case rel => exact ⟨v + 1, by omega, by go_num, HBn, HEn⟩
                    case measure => change 64 - ((v : Int) + 1).toNat < 64 - ((v : Int)).toNat; omega
              · go_wp2_with fail
                as_aux_lemma =>
                  have HWd := Lib.hid (HWr.out.below (below_drew1 (Below.refl _ _)))
                  have HBd := Lib.hid (below_drew1 HBr.out)
                  have HEd := Lib.hid (Kd.R_drew HEr.out)
                  rw [evL_all (by omega) hv] at HEd
                  clear HBr HEr HSar HSbr HWr x0 x1 x2 x3
                  refine start_ (n := 13) (S := fun w' => w'.cell? ⟨gb447, 0, none⟩ = some (.int .i64 t443) ∧ w'.cell? ⟨gb447, 1, none⟩ = some (.slice Ao25 t444.length co25)) (ds := []) #[false, false, false, false, false, false, false, false, false, false, false, false, false] (by kernel_rfl) rfl rfl ⟨HWd.out.cells.1, HWd.out.cells.2.1⟩ (fun hHeld => ?_); refine with_tabW billetlaw05_GraphMore.tab20 billetlaw05_GraphMore.bits20 (fun HT_ HW_ => ?_)
                  generalize wr.drew = w6 at HWd HBd HEd hHeld ⊢
                  refine pure_ (i := 1) (N := some 98) (v := ?_) (a' := ?_) #[false, true, false, false, false, false, false, false, false, false, false, false, false] rfl rfl (any_of HT_.out (by kernel_rfl)) (fun _ _ _ h => h) (Or.inl ⟨by rfl, ?_⟩) ?_ ?_
                  rotate_left
                  · intro w'
                    go_simp
                    with_reducible rfl
                  rotate_left
                  · simp only [Act.put, List.setIfInBounds_toArray, List.set_cons_zero, List.set_cons_succ, i64_w, i32_w]
                    rfl
                  refine take_ (i := 0) (N := some 97) (v := ?_) (a' := ?_) #[true, true, false, false, false, false, false, false, false, false, false, false, false] rfl rfl (take_ofW HT_.out HW_.out (by kernel_rfl)) (fun _ _ _ h => h) (Or.inl ⟨by rfl, ?_⟩) hHeld ?_ ?_
                  rotate_left
                  · rintro w' ⟨s0, s1⟩
                    go_simp
                    with_reducible rfl
                  rotate_left
                  · simp only [Act.put, List.setIfInBounds_toArray, List.set_cons_zero, List.set_cons_succ, i64_w, i32_w]
                    rfl
                  refine one_ (i := 2) (N := some 99) #[true, true, true, false, false, false, false, false, false, false, false, false, false] rfl rfl (one_of HT_.out (by kernel_rfl)) (by decide) (fun K hK => ?_)
                  refine goes_ Try.func28 (by kernel_rfl) rfl #[.agg #[.int .i64 t443, .slice Ao25 t444.length co25], .slice A14 t443.toNat c14] (by rfl) rfl rfl (by (try simp only [List.map_toArray, List.map_cons, List.map_nil]); first | done | rfl | (simp only [List.length_drop, List.length_take]; rfl)) ?_
                  with_reducible refine (cut_n k t443 _ _ t444 _ _ (List.replicate t443.toNat true) 0 _ (List.length_replicate ..) ?side1 ?side2 ?side3 ?side4 HcE.out).mono ?_
                  case side1 => exact HWd.out.hl
                  case side2 => assumption
                  case side3 => exact (row_at HEd.out (List.length_replicate ..)).2
                  case side4 => exact (row_at HEd.out (List.length_replicate ..)).1
                  rintro e w7 ⟨rfl, hb⟩
                  refine ⟨_, rfl, ?_⟩
                  have HW7 := Lib.hid (HWd.out.below hb)
                  clear HWd HEd hb
                  refine hK.out _ _ ⟨HW7.out.cells.1, HW7.out.cells.2.1⟩ (fun hHeld => ?_)
                  clear hK K
                  refine norm_ (a' := ?_) ?_ ?_
                  rotate_left
                  · show Act.put _ (some 99) _ = _
                    simp only [Act.put, List.setIfInBounds_toArray, List.set_cons_zero, List.set_cons_succ, i64_w, i32_w]
                    rfl
                  refine pure_ (i := 3) (N := some 100) (v := ?_) (a' := ?_) #[true, true, true, true, false, false, false, false, false, false, false, false, false] rfl rfl (any_of HT_.out (by kernel_rfl)) (fun _ _ _ h => h) (Or.inl ⟨by rfl, ?_⟩) ?_ ?_
                  rotate_left
                  · intro w'
                    go_simp
                    with_reducible rfl
                  rotate_left
                  · simp only [Act.put, List.setIfInBounds_toArray, List.set_cons_zero, List.set_cons_succ, i64_w, i32_w]
                    rfl
                  refine pure_ (i := 4) (N := some 101) (v := ?_) (a' := ?_) #[true, true, true, true, true, false, false, false, false, false, false, false, false] rfl rfl (any_of HT_.out (by kernel_rfl)) (fun _ _ _ h => h) (Or.inl ⟨by rfl, ?_⟩) ?_ ?_
                  rotate_left
                  · intro w'
                    go_simp
                    with_reducible rfl
                  rotate_left
                  · simp only [Act.put, List.setIfInBounds_toArray, List.set_cons_zero, List.set_cons_succ, i64_w, i32_w]
                    rfl
                  refine pure_ (i := 6) (N := some 103) (v := ?_) (a' := ?_) #[true, true, true, true, true, false, true, false, false, false, false, false, false] rfl rfl (any_of HT_.out (by kernel_rfl)) (fun _ _ _ h => h) (Or.inl ⟨by rfl, ?_⟩) ?_ ?_
                  rotate_left
                  · intro w'
                    go_simp
                    with_reducible rfl
                  rotate_left
                  · simp only [Act.put, List.setIfInBounds_toArray, List.set_cons_zero, List.set_cons_succ, i64_w, i32_w]
                    rfl
                  refine take_ (i := 5) (N := some 102) (v := ?_) (a' := ?_) #[true, true, true, true, true, true, true, false, false, false, false, false, false] rfl rfl (take_ofW HT_.out HW_.out (by kernel_rfl)) (fun _ _ _ h => h) (Or.inl ⟨by rfl, ?_⟩) hHeld ?_ ?_
                  rotate_left
                  · rintro w' ⟨s0, s1⟩
                    go_simp
                    with_reducible rfl
                  rotate_left
                  · simp only [Act.put, List.setIfInBounds_toArray, List.set_cons_zero, List.set_cons_succ, i64_w, i32_w]
                    rfl
                  refine take_ (i := 7) (N := some 104) (v := ?_) (a' := ?_) #[true, true, true, true, true, true, true, true, false, false, false, false, false] rfl rfl (take_ofW HT_.out HW_.out (by kernel_rfl)) (fun _ _ _ h => h) (Or.inl ⟨by rfl, ?_⟩) hHeld ?_ ?_
                  rotate_left
                  · rintro w' ⟨s0, s1⟩
                    go_simp
                    with_reducible rfl
                  rotate_left
                  · simp only [Act.put, List.setIfInBounds_toArray, List.set_cons_zero, List.set_cons_succ, i64_w, i32_w]
                    rfl
                  refine one_ (i := 8) (N := some 105) #[true, true, true, true, true, true, true, true, true, false, false, false, false] rfl rfl (one_of HT_.out (by kernel_rfl)) (by decide) (fun K hK => ?_)
                  refine Kd.R_make_step Kd.bool _ 4 (by rfl) (N := 105) rfl 26 _ _ rfl t443 rfl rfl Try.underlying26 (.bool false) 1 info4 rfl (by decide) (by omega) false (ok := fun _ => True) (okp := fun _ => True) rfl (fun _ hk => hk) trivial (by omega) (by omega) (Below.refl _ _) (Nat.le_refl _) ?_
                  intro v16 w8 ho hb hg_ hnew_
                  have HW8 := Lib.hid (HW7.out.below hb)
                  obtain ⟨A16, c16, e16⟩ := Kd.R_slice ho
                  rw [List.length_replicate] at e16
                  subst e16
                  have HE8 := Lib.hid ho
                  clear HW7 ho hb hg_ hnew_
                  refine hK.out _ _ ⟨HW8.out.cells.1, HW8.out.cells.2.1⟩ (fun hHeld => ?_)
                  clear hK K
                  refine norm_ (a' := ?_) ?_ ?_
                  rotate_left
                  · show Act.put _ (some 105) _ = _
                    simp only [Act.put, List.setIfInBounds_toArray, List.set_cons_zero, List.set_cons_succ, i64_w, i32_w]
                    rfl
                  refine one_ (i := 9) (N := some 106) #[true, true, true, true, true, true, true, true, true, true, false, false, false] rfl rfl (one_of HT_.out (by kernel_rfl)) (by decide) (fun K hK => ?_)
                  refine goes_ Try.func28 (by kernel_rfl) rfl #[.agg #[.int .i64 t443, .slice Ao25 t444.length co25], .slice A16 t443.toNat c16] (by rfl) rfl rfl (by (try simp only [List.map_toArray, List.map_cons, List.map_nil]); first | done | rfl | (simp only [List.length_drop, List.length_take]; rfl)) ?_
                  with_reducible refine (cut_n k t443 _ _ t444 _ _ (List.replicate t443.toNat false) 0 _ (List.length_replicate ..) ?side1 ?side2 ?side3 ?side4 HcN.out).mono ?_
                  case side1 => exact HW8.out.hl
                  case side2 => assumption
                  case side3 => exact (row_at HE8.out (List.length_replicate ..)).2
                  case side4 => exact (row_at HE8.out (List.length_replicate ..)).1
                  rintro e w9 ⟨rfl, hb⟩
                  refine ⟨_, rfl, ?_⟩
                  have HW9 := Lib.hid (HW8.out.below hb)
                  clear HW8 HE8 hb
                  refine hK.out _ _ ⟨HW9.out.cells.1, HW9.out.cells.2.1⟩ (fun hHeld => ?_)
                  clear hK K
                  refine norm_ (a' := ?_) ?_ ?_
                  rotate_left
                  · show Act.put _ (some 106) _ = _
                    simp only [Act.put, List.setIfInBounds_toArray, List.set_cons_zero, List.set_cons_succ, i64_w, i32_w]
                    rfl
                  refine pure_ (i := 10) (N := some 107) (v := ?_) (a' := ?_) #[true, true, true, true, true, true, true, true, true, true, true, false, false] rfl rfl (any_of HT_.out (by kernel_rfl)) (fun _ _ _ h => h) (Or.inl ⟨by rfl, ?_⟩) ?_ ?_
                  rotate_left
                  · intro w'
                    go_simp
                    with_reducible rfl
                  rotate_left
                  · simp only [Act.put, List.setIfInBounds_toArray, List.set_cons_zero, List.set_cons_succ, i64_w, i32_w]
                    rfl
                  refine pure_ (i := 11) (N := some 108) (v := ?_) (a' := ?_) #[true, true, true, true, true, true, true, true, true, true, true, true, false] rfl rfl (any_of HT_.out (by kernel_rfl)) (fun _ _ _ h => h) (Or.inl ⟨by rfl, ?_⟩) ?_ ?_
                  rotate_left
                  · intro w'
                    go_simp
                    with_reducible rfl
                  rotate_left
                  · simp only [Act.put, List.setIfInBounds_toArray, List.set_cons_zero, List.set_cons_succ, i64_w, i32_w]
                    rfl
                  refine pure_ (i := 12) (N := some 6) (v := ?_) (a' := ?_) #[true, true, true, true, true, true, true, true, true, true, true, true, true] rfl rfl (any_of HT_.out (by kernel_rfl)) (fun _ _ _ h => h) (Or.inl ⟨by rfl, ?_⟩) ?_ ?_
                  rotate_left
                  · intro w'
                    go_simp
                    with_reducible rfl
                  rotate_left
                  · simp only [Act.put, List.setIfInBounds_toArray, List.set_cons_zero, List.set_cons_succ, i64_w, i32_w]
                    rfl
                  refine done_ (done_of HT_.out (by kernel_rfl)) ?_
                  try go_wp2
                  go_ret
                  exact ⟨by have h := HTr_.out; subst h; rfl, HW9.out.bel⟩
        · rw [if_neg c11] at H
          exact absurd H (by simp)
      · rw [if_neg c10] at H
        exact absurd H (by simp)
    · rw [if_neg c9] at H
      exact absurd H (by simp)
  · rw [if_neg c8] at H
    exact absurd H (by simp)

end Go.Proofs.Ytfmfojogcghkkaa.P
