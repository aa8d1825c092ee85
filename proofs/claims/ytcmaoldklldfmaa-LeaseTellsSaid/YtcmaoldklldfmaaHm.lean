/- LeaseHeld: the clocks, and what lies in memory. -/
import Derived.Test.YtcmaoldklldfmaaBn
import Derived.Test.YtcmaoldklldfmaaBp
import Derived.Test.YtcmaoldklldfmaaBl
import Derived.Test.YtcmaoldklldfmaaC
import Derived.Test.YtcmaoldklldfmaaLm
import Derived.Test.YtcmaoldklldfmaaHp
import Derived.Deep.QuietTactic
import Derived.BigQuiet
import Derived.StillTailTactics
import Derived.Deep.RegionWith
import Derived.Deep.DeepCutAuto
import Derived.Deep.CutBlock
namespace Go.Proofs.Ytcmaoldklldfmaa.P
open Go.RowKit Go.Proofs.YtcmaoldklldfmaaW.PrintWords Go.Proofs.YtcmaoldklldfmaaW.PrintLast Go.Proofs.YtcmaoldklldfmaaW.PrintMore
attribute [local go_sem] max2_int min2_int
set_option linter.unusedSimpArgs false
set_option linter.unusedVariables false

/-! ### the clocks' skews -/
def skF (sk : List Int) (i : Int) : Int := if sk.length = 0 then 0 else skw (rd sk (Int.tmod i sk.length))
theorem skw_bd (n : Int) : -2 ≤ skw n ∧ skw n ≤ 2 := by unfold skw; have := pk_bd n 5 (by omega); omega
theorem skF_bd (sk : List Int) (i : Int) : -2 ≤ skF sk i ∧ skF sk i ≤ 2 := by unfold skF; split; omega; exact skw_bd _

set_option maxHeartbeats 800000 in
theorem skew_any (B : Nat) (A : Option Addr) (c : Nat) (sk : List Int) (i : Int) (h0 : 0 ≤ i) (w : World) (hw : ∀ x ∈ sk, (Lit.int .i64 x).wf = true) (hC : Kd.C (Kd.int .i64) w A sk.length sk) (hB : w.cell? ⟨B, 0, none⟩ = some (.slice A sk.length c)) :
    Calls Try.prog 34 #[.int .i64 i, .pointer (some ⟨B, 0, none⟩)] w fun e w' => e = .returned (.int .i64 (skF sk i)) ∧ ∃ m, w' = w.drewN m := by
  have hm := Kd.C_max hC
  by_cases hz : sk.length = 0
  · have HE : Hid (skF sk i = 0) := Lib.hid (by unfold skF; rw [if_pos hz])
    rw [hz] at hB
    go_enter Try.func34, Try.ntmps34
    go_wp2
    go_ret
    exact ⟨by rw [HE.out]; rfl, 0, rfl⟩
  · have hmod : 0 ≤ Int.tmod i sk.length ∧ Int.tmod i sk.length < sk.length := ⟨Int.tmod_nonneg _ h0, Int.tmod_lt_of_pos _ (by omega)⟩
    have HE : Hid (skF sk i = skw (rd sk (Int.tmod i sk.length))) := Lib.hid (by unfold skF; rw [if_neg hz])
    have hne : ((sk.length : Int) == 0) = false := beq_eq_false_iff_ne.2 (by omega)
    obtain ⟨q, HQ⟩ : ∃ q : Int, Hid (Int.tmod i sk.length = q) := ⟨_, rfl⟩
    have hq := HQ.out
    rw [hq] at hmod HE
    obtain ⟨ad, rfl, hx⟩ := Kd.at_int hC q (by omega) (by omega)
    have hwf : I64 (rd sk q) := wf_bd (rd_wf hw q)
    go_enter Try.func34, Try.ntmps34
    go_wp2_with fail
    go_quiet ((go_at_call 12; exact Calls.quiet_of_same ((Skew_any _ _ hwf).mono fun _ _ h => ⟨h.1, h.2.symm⟩)))
    go_wp2
    go_ret
    exact ⟨by rw [HE.out]; rfl, nq, rfl⟩

/-! ### what lies there between two acts of LeaseHeld -/
theorem R_one {α : Type} (d : Kd α) (e : Nat) {N : Nat} {W : World} (x : α) (cs : List Value) (okp : Nat → Prop) (hp : d.M W N okp x cs) (hN : N ≤ W.heap.size) :
    d.R e (W.alloc (.cells cs.toArray e)) N (fun _ => True) (.slice (some ⟨W.heap.size, 0, none⟩) 1 1) [x] := by
  have hlen : cs.length = d.sz := d.K_len (d.K_of_M hp)
  have h2 := World.ownsRow_lit (base := N) (e := e) (size := d.sz) W cs.toArray 1 hN (by decide) (by simp [hlen])
  refine ⟨fun _ _ => trivial, cs, by simpa using h2, by simp [hlen], fun j p hj => ?_⟩
  obtain ⟨rfl, rfl⟩ : j = 0 ∧ p = x := by
    match j, hj with
    | 0, hj => simp at hj; exact ⟨rfl, hj.symm⟩
  simp only [Nat.zero_mul, List.drop_zero]
  rw [List.take_of_length_le (by omega)]
  have h3 := d.M_move (w1 := W.alloc (.cells cs.toArray e)) (fun k hk => Below.heap_alloc _ _ _ hk.2.2.1) (d.M_bound hp)
  exact d.M_mono (fun k hk => ⟨trivial, by simp [Value.ownBlock]; have := hk.2.2.1; omega⟩) h3

theorem R_types_keep {α : Type} {d : Kd α} {e N : Nat} {w w' : World} {v : Value} {xs : List α} (h : d.R e w N (fun _ => True) v xs) (hb : ∀ (k : Nat) cs (q : Nat), q ∈ e :: d.E → w.heap[k]? = some (Obj.cells cs q (0, 0)) → w'.heap[k]? = some (Obj.cells cs q (0, 0))) : d.R e w' N (fun _ => True) v xs := by
  refine Kd.R_move (Kd.R_mono (ok' := fun k => ∃ q, q ∈ e :: d.E ∧ ∃ cs, w.heap[k]? = some (Obj.cells cs q (0, 0))) (Kd.R_bound h) fun k hk => hk.2.2.2) (fun k hk => ?_) |> fun h => Kd.R_mono h (fun _ _ => trivial)
  obtain ⟨q, hq, cs, hc⟩ := hk
  rw [hc]; exact hb k cs q hq hc
theorem R_ch {α : Type} {d : Kd α} {e N M : Nat} {w w' : World} {v : Value} {xs : List α} (h : d.R e w N (fun _ => True) v xs) (hc : Ch M w w') (ht : ∀ q, q ∈ e :: d.E → q ≠ 52 ∧ q ≠ 56) : d.R e w' N (fun _ => True) v xs :=
  R_types_keep h fun k cs q hq hk => hc.block _ _ hk (.inr (fun h => h.elim (ht q hq).1 (ht q hq).2))
theorem grown_keep {W w1 : World} {r : Option Nat} {T : Nat} (hg : W.grownBy w1 r) (hr : ∀ k, r = some k → ∃ cs, W.heap[k]? = some (Obj.cells cs T (0, 0))) {k : Nat} {ob : Obj} (hk : W.heap[k]? = some ob) (hne : ∀ cs, ob ≠ Obj.cells cs T (0, 0)) : w1.heap[k]? = some ob := by
  refine (hg.block k (lt_of_some hk) (fun e => ?_)).trans hk
  obtain ⟨cs, hc⟩ := hr k e.symm
  rw [hk] at hc
  exact hne cs (Option.some.inj hc)

def kL : Kd (List S42) := Kd.slice 42 k42
theorem info33 : (Try.prog.info? 33).map (fun i => (i.zero, i.size, i.bytes)) = some (some (.slice none 0 0), 1, 24) := by kernel_rfl
theorem info3 : (Try.prog.info? 3).map (fun i => (i.zero, i.size, i.bytes)) = some (some (.int .i64 0), 1, 8) := by kernel_rfl
theorem kL_E : ∀ q, q ∈ 33 :: kL.E → q = 33 ∨ q = 42 := by
  intro q hq
  simpa [kL, k42, Kd.slice, Kd.iso, Kd.pair, Kd.int, Kd.string, Kd.scalar] using hq
theorem kI_E : ∀ q, q ∈ 3 :: (Kd.int .i64).E → q = 3 := by
  intro q hq
  simpa [Kd.int, Kd.scalar] using hq

structure HS (w0 : World) (b sb : Nat) (tt : Int) (v : Value) (gs : List Gr) (skv v11 : Value) (sent : List (List S42)) (v12 : Value) (un : List Int) (W : World) : Prop where
  bk : Bk w0.heap.size b false tt v gs W
  bel : Below w0.heap.size w0 W
  sbx : W.heap[sb]? = some (Obj.cells #[skv] 36 (0, 0))
  r11 : kL.R 33 W w0.heap.size (fun _ => True) v11 sent
  r12 : (Kd.int .i64).R 3 W w0.heap.size (fun _ => True) v12 un
section
variable {w0 : World} {b sb : Nat} {tt : Int} {v : Value} {gs : List Gr} {skv v11 : Value} {sent : List (List S42)} {v12 : Value} {un : List Int} {W W' : World}
theorem HS.keep (h : HS w0 b sb tt v gs skv v11 sent v12 un W) (hb : Below W.heap.size W W') : HS w0 b sb tt v gs skv v11 sent v12 un W' :=
  ⟨h.bk.below hb, h.bel.trans (hb.mono h.bel.size), (hb.block _ (lt_of_some h.sbx)).trans h.sbx, Kd.R_below h.r11 hb, Kd.R_below h.r12 hb⟩
theorem HS.ch {v' : Value} {gs' : List Gr} (h : HS w0 b sb tt v gs skv v11 sent v12 un W) (hB : Bk w0.heap.size b false tt v' gs' W') (hc : Ch w0.heap.size W W') : HS w0 b sb tt v' gs' skv v11 sent v12 un W' :=
  ⟨hB, h.bel.trans (hc.below h.bel.size), hc.block _ _ h.sbx (.inr (by intro h; rcases h with h | h <;> cases h)), R_ch h.r11 hc (fun q hq => by rcases kL_E q hq with rfl | rfl <;> decide), R_ch h.r12 hc (fun q hq => by obtain rfl := kI_E q hq; decide)⟩
theorem HS.app11 {v1 : Value} {sent' : List (List S42)} (h : HS w0 b sb tt v gs skv v11 sent v12 un W) (hr : kL.R 33 W' w0.heap.size (fun _ => True) v1 sent') (hb : Below w0.heap.size w0 W') (hg : W.grownBy W' v11.ownBlock) : HS w0 b sb tt v gs skv v1 sent' v12 un W' := by
  have ty := Kd.R_typed h.r11
  refine ⟨h.bk.keep (fun k o hk ho => grown_keep hg ty hk (fun cs e => ?_)), hb, grown_keep hg ty h.sbx (by intro cs e; cases e), hr, R_types_keep h.r12 (fun k cs q hq hk => grown_keep hg ty hk (fun cs e => ?_))⟩
  · subst e; rcases ho with ho | ho <;> cases ho
  · obtain rfl := kI_E q hq; cases e
theorem HS.app12 {v1 : Value} {un' : List Int} (h : HS w0 b sb tt v gs skv v11 sent v12 un W) (hr : (Kd.int .i64).R 3 W' w0.heap.size (fun _ => True) v1 un') (hb : Below w0.heap.size w0 W') (hg : W.grownBy W' v12.ownBlock) : HS w0 b sb tt v gs skv v11 sent v1 un' W' := by
  have ty := Kd.R_typed h.r12
  refine ⟨h.bk.keep (fun k o hk ho => grown_keep hg ty hk (fun cs e => ?_)), hb, grown_keep hg ty h.sbx (by intro cs e; cases e), R_types_keep h.r11 (fun k cs q hq hk => grown_keep hg ty hk (fun cs e => ?_)), hr⟩
  · subst e; rcases ho with ho | ho <;> cases ho
  · rcases kL_E q hq with rfl | rfl <;> cases e
theorem HS.skc (h : HS w0 b sb tt v gs skv v11 sent v12 un W) : W.cell? ⟨sb, 0, none⟩ = some skv := by simp [World.cell?, h.sbx]
end
end Go.Proofs.Ytcmaoldklldfmaa.P
