/- FlowSame: for every input the call returns true and leaves what was there as it was. No condition. -/
import Derived.Test.YtfmfojogcghkkaaRows
import Derived.Test.YtfmfojogcghkkaaPureFlowSame
import Derived.Test.YtfmfojogcghkkaaOp
import Derived.WalkKit
import Derived.ProofKit
import Derived.OpenShut
import Derived.ChangeOld
import Derived.Below
import Derived.ShutString
namespace Go.Proofs.Ytfmfojogcghkkaa.flowSame
open Go.ChangeShapes Go.WideShapes Go.ChangeAt Go.RowKit
open Go.Proofs.YtfmfojogcghkkaaW.PrintWords Go.Proofs.Ytfmfojogcghkkaa.P
set_option linter.unusedVariables false
theorem own : ownKnob Try.prog.godebug = none := by kernel_rfl
theorem laidOut : laidOutB Try.prog = true := by kernel_rfl
instance : Inhabited S41 := ⟨z41⟩
theorem i64_of {n : Int} (h : (Lit.int .i64 n).wf = true) : Fw.I64 n := by simp only [Lit.wf, Bool.and_eq_true, decide_eq_true_eq] at h; exact h
theorem opens41 {H : Type} {enc : TypeId × Value → H} {w : World} {base : Nat} {spare : Nat → Bool} {held : Bool} : Op.Opens enc Try.prog w base spare held 41 k41 Fw.Sz :=
  Op.opens_imp (Op.opens_iso (Op.opens_struct3 Try.underlying41 (by kernel_rfl) rfl rfl rfl (by kernel_rfl) (by kernel_rfl) (by kernel_rfl) (Op.opens_int Try.underlying3) (Op.opens_int Try.underlying3) (Op.opens_int Try.underlying3)) (fun x : S41 => (x.f0, x.f1, x.f2)) (fun y => ⟨y.1, y.2.1, y.2.2⟩) (fun _ => rfl)) (fun a h => ⟨i64_of h.1, i64_of h.2.1, i64_of h.2.2⟩)
theorem open_i {w : World} {n : Int} {v : Value} (h : (Kd.int .i64).K w n [v]) : v = .int .i64 n := by
  have h : [v] = [.int .i64 n] := h
  injection h
theorem open_s {w : World} {l : List S41} {v : Value} (h : (Kd.slice 41 k41).K w l [v]) : ∃ A c, v = .slice A l.length c ∧ l.length ≤ c ∧ Kd.C k41 w A l.length l := by
  obtain ⟨A, c, h1, h2, h3⟩ := h
  injection h1 with h1
  exact ⟨A, c, h1, h2, h3⟩
set_option maxRecDepth 100000 in
theorem lifted (os : Os) (started : os.Started) (H : Type) (enc : TypeId × Value → H) :
    ReturnsInHanded {} Try.checked os 14 .any (Rows.flowSameSpec.pre6 enc Try.prog Try.f14 Rows.flowSameRow.domain false) (Rows.flowSameSpec.post enc Try.prog Try.f14 false true false false) := by
  refine returnsInHanded_of_change (C := Try.checked) own started (by kernel_rfl) Try.func14
    (ChangeSpec.witness6 (enc := enc) (C := Try.checked) false ⟨#[], #[.agg #[.int .i64 0, .slice none 0 0], .int .i64 0, .agg #[.int .i64 0, .int .i64 0, .int .i64 0]], []⟩ 8 (by kernel_rfl) (by kernel_rfl) (by kernel_rfl) (by kernel_rfl)) ?_
  intro W base args ds gs before hval0 hW hcnd _
  have hval : ∀ (j : Nat) t v, Try.f14.params[j]? = some t → args[j]? = some v → Value.okWide Try.prog W .any base t v := hval0
  have hW' := hW
  obtain ⟨p, q, hA0, hV, rfl, hfz, hnd⟩ := hW
  have hA : DataW.TrodAll enc Try.prog W 0 (fun _ => true) true Try.f14.params.toList args.toList ds p := hA0
  rw [Try.params14] at hA hval
  obtain ⟨v0, vs0, d0, ds0, p0, q0, hargs, rfl, rfl, h0, r0⟩ := trodAll_cons hA
  obtain ⟨v1, vs1, d1, ds1, p1, q1, rfl, rfl, rfl, h1, r1⟩ := trodAll_cons r0
  obtain ⟨v2, vs2, d2, ds2, p2, q2, rfl, rfl, rfl, h2, r2⟩ := trodAll_cons r1
  obtain ⟨rfl, rfl, rfl⟩ := trodAll_nil r2
  obtain rfl : args = #[v0, v1, v2] := by cases args; simp_all
  obtain ⟨rfl, rfl⟩ := trodVars_none hV
  have k0 := h0
  have lt0 : ∀ x ∈ p0, x.block < W.heap.size := by obtain ⟨m, hm⟩ := k0; exact DataW.trod_lt m _ _ _ hm
  obtain ⟨va0, vb0, n0, l0, rfl, hn0, wn0, hs0, ws0⟩ := Op.arg_agg2 (d0 := Kd.int .i64) (d1 := Kd.slice 41 k41) Try.underlying24 (by kernel_rfl) (by kernel_rfl) (Op.opens_int Try.underlying3) (Op.opens_slice (d := k41) Try.underlying22 (by kernel_rfl) opens41) (hval 0 24 v0 rfl rfl) h0
  obtain ⟨a1, rfl, rfl, rfl, w1⟩ := open_int Try.underlying3 (hval 1 3 v1 rfl rfl) h1
  have b1 : -9223372036854775808 ≤ a1 ∧ a1 ≤ 9223372036854775807 := by have h := w1; simp only [Lit.wf, Bool.and_eq_true, decide_eq_true_eq] at h; exact h
  have k2 := h2
  have lt2 : ∀ x ∈ p2, x.block < W.heap.size := by obtain ⟨m, hm⟩ := k2; exact DataW.trod_lt m _ _ _ hm
  obtain ⟨va2, vb2, vc2, e02, e12, e22, rfl, hv2, g02, hb2, g12, hc2, g22⟩ := Op.arg_agg3 (d0 := Kd.int .i64) (d1 := Kd.int .i64) (d2 := Kd.int .i64) Try.underlying41 (by kernel_rfl) (by kernel_rfl) (Op.opens_int Try.underlying3) (Op.opens_int Try.underlying3) (Op.opens_int Try.underlying3) (hval 2 41 v2 rfl rfl) h2
  clear hA0 hval0
  have eva0 : va0 = .int .i64 n0 := open_i hn0
  subst eva0
  obtain ⟨A0, c0, e0, hc0, hr0⟩ := open_s hs0
  subst e0
  have eva2 : va2 = .int .i64 e02 := open_i hv2
  subst eva2
  have evb2 : vb2 = .int .i64 e12 := open_i hb2
  subst evb2
  have evc2 : vc2 = .int .i64 e22 := open_i hc2
  subst evc2
  obtain ⟨k, hk⟩ := Ps.same (i64_of wn0) ws0 b1 (i64_of g02) (i64_of g12) (i64_of g22)
  refine (billetlaw06_FlowSame.calls k n0 A0 c0 l0 a1 e02 e12 e22 true W hr0 hc0 (hk k (Nat.le_refl _))).mono fun e W' ⟨he, bel⟩ => ?_
  subst he
  exact ⟨_, rfl, _, _, _, [], _, [], hW', trodAll_mk1 (shut_bool Try.underlying4 _), (trodAll_cons_mk (Below.trod laidOut (by kernel_rfl) (of_decide_eq_true (by kernel_rfl)) k0 bel lt0) (trodAll_cons_mk (shut_int Try.underlying3 w1) (trodAll_cons_mk (Below.trod laidOut (by kernel_rfl) (of_decide_eq_true (by kernel_rfl)) k2 bel lt2) trodAll_mk0))), rfl, bel.frame _, fun h => by cases h⟩
theorem over : Rows.flowSameRow.holds Try.pinned (OpenSpec.ofChange Rows.flowSameSpec) :=
  OpenClaim.holds_of_wide 14 Try.f14 rfl rfl rfl rfl rfl rfl rfl ⟨rfl, rfl, rfl, rfl, rfl⟩ rfl rfl rfl rfl rfl (by kernel_rfl) Try.func14 (by kernel_rfl)
    (of_decide_eq_true (by kernel_rfl)) (by unfold Func.isWrapper; first | (rw [if_pos (by decide +kernel)]; kernel_rfl) | (rw [if_neg (by decide +kernel)]; exact ⟨rfl, rfl⟩))
    (fun os started H enc _ => lifted os started H enc)
theorem proved : Rows.FlowSameSaid := over
#print axioms proved
end Go.Proofs.Ytfmfojogcghkkaa.flowSame
namespace Go.Proofs.Ytfmfojogcghkkaa
theorem flowSame_holds : Rows.FlowSameSaid := flowSame.proved
end Go.Proofs.Ytfmfojogcghkkaa

