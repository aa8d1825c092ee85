/- GraphMore in plain terms: what the law's walk leans on; and that its calls answer. -/
import Derived.Test.YtfmfojogcghkkaaGl
import Derived.Test.YtfmfojogcghkkaaFw
import Derived.Test.YtfmfojogcghkkaaPx29
namespace Go.Proofs.Ytfmfojogcghkkaa.Pgm
open Go.RowKit Go.Proofs.Ytfmfojogcghkkaa.P Go.Proofs.YtfmfojogcghkkaaW.PrintWords Go.Proofs.YtfmfojogcghkkaaW.PrintLast Go.Proofs.YtfmfojogcghkkaaW.PrintMore
open Go.Proofs.Ytfmfojogcghkkaa.Fl Go.Proofs.Ytfmfojogcghkkaa.Bf Go.Proofs.Ytfmfojogcghkkaa.Pp Go.Proofs.Ytfmfojogcghkkaa.Gp Go.Proofs.Ytfmfojogcghkkaa.Fw Go.Proofs.Ytfmfojogcghkkaa.Rf Go.Proofs.Ytfmfojogcghkkaa.Gl

theorem rdT_app {l : List S41} {e : S41} {i : Nat} (h : i < l.length) : rd_T41 (l ++ [e]) (i : Int) = rd_T41 l (i : Int) := by
  unfold rd_T41
  simp [List.getElem?_append_left h]
theorem rd_app {F : List Int} {x : Int} {i : Nat} (h : i < F.length) : rd (F ++ [x]) (i : Int) = rd F (i : Int) := by
  unfold rd
  simp [List.getElem?_append_left h]
theorem rd_end {F : List Int} {x : Int} : rd (F ++ [x]) (F.length : Int) = x := by
  unfold rd
  simp
theorem copG_one (F : List Int) (e : List S41) (l : List S41) (hF : F.length = l.length) (he : e.length = l.length + 1) : copG F e.length = F ++ [0] := by
  unfold copG
  have h : min F.length (List.replicate e.length (0 : Int)).length = F.length := by rw [List.length_replicate]; omega
  rw [h, List.take_of_length_le (Nat.le_refl _), List.drop_replicate, show e.length - F.length = 1 by omega]
  rfl
theorem rch_app {N : Int} {l : List S41} {e : S41} {F : List Int} (hF : F.length = l.length) {s v : Nat} (h : Rch (nw N l) (fl F) s v) : Rch (nw N (l ++ [e])) (fl (F ++ [0])) s v := by
  induction h with
  | base => exact .base
  | @step u v i h r ih =>
    refine .step (i := i) ih ?_
    have hi : i < l.length := r.1
    refine ⟨by show i < (l ++ [e]).length; rw [List.length_append]; omega, ?_⟩
    have r2 := r.2
    show ((rd_T41 (l ++ [e]) (i : Int)).f0.toNat = u ∧ (rd_T41 (l ++ [e]) (i : Int)).f1.toNat = v ∧ rd (F ++ [0]) (i : Int) < (rd_T41 (l ++ [e]) (i : Int)).f2) ∨ ((rd_T41 (l ++ [e]) (i : Int)).f1.toNat = u ∧ (rd_T41 (l ++ [e]) (i : Int)).f0.toNat = v ∧ 0 < rd (F ++ [0]) (i : Int))
    rw [rdT_app hi, rd_app (by omega)]
    exact r2
theorem fits_app {N : Int} {l : List S41} {e : S41} {F : List Int} (hf : FitsP N l F) (hN : NetOk N (l ++ [e])) : FitsP N (l ++ [e]) (F ++ [0]) := by
  refine ⟨hN, by rw [List.length_append, List.length_append, hf.len]; rfl, fun i hi => ?_⟩
  have hl := hf.len
  have hi : i < (l ++ [e]).length := hi
  show 0 ≤ rd (F ++ [0]) (i : Int) ∧ rd (F ++ [0]) (i : Int) ≤ (rd_T41 (l ++ [e]) (i : Int)).f2
  by_cases c : i < l.length
  · rw [rdT_app c, rd_app (by omega)]
    exact hf.fits i c
  · rw [List.length_append, List.length_singleton] at hi
    have hc := (hN.cap i (by rw [List.length_append, List.length_singleton]; omega)).1
    obtain rfl : i = F.length := by omega
    rw [rd_end]
    exact ⟨Int.le_refl _, hc⟩
theorem side_all {n v : Nat} (h : v < n) : sideF (List.replicate n true) v = true := by
  unfold sideF rdOf
  simp [h]
theorem side_no (n v : Nat) : sideF (List.replicate n false) v = false := by
  unfold sideF rdOf
  by_cases h : v < n <;> simp [h]
theorem cut_all {N : Int} {l : List S41} (hN : NetOk N l) : cut (nw N l) (sideF (List.replicate N.toNat true)) = 0 := by
  refine sm_all0 fun i hi => ?_
  obtain ⟨a, b, c⟩ := hN.ends i hi
  rw [if_neg]
  rintro ⟨_, h⟩
  have e : sideF (List.replicate N.toNat true) ((nw N l).dst i) = true := side_all (show (rd_T41 l i).f1.toNat < N.toNat by omega)
  rw [e] at h
  cases h
theorem cut_no (N : Int) (l : List S41) : cut (nw N l) (sideF (List.replicate N.toNat false)) = 0 := by
  refine sm_all0 fun i hi => ?_
  rw [if_neg]
  rintro ⟨h, _⟩
  rw [side_no] at h
  cases h
theorem more {a0 : Int} {l0 : List S41} {l1 : List Int} {a2_0 a2_1 a2_2 : Int} (h0 : I64 a0) (hl : ∀ x ∈ l0, Sz x) (h1 : ∀ x ∈ l1, I64 x) (h2 : I64 a2_0) (h3 : I64 a2_1) (h4 : I64 a2_2) :
    ∃ K, ∀ k, K ≤ k → billetlaw05_GraphMore.f k a0 l0 l1 a2_0 a2_1 a2_2 = some true ∧
      ∀ N l F N1 l1_, billetlaw05_Fit.f k a0 l0 = some (N, l) → billetlaw05_Flow.f k N l l1 = some F → billetlaw05_Fit.f k a0 (([] : List S41) ++ l0.take (mn (l0.length : Int) 39).toNat ++ [(⟨a2_0, a2_1, a2_2⟩ : S41)]) = some (N1, l1_) → MoreOk k N l F N1 l1_ := by
  have hf := fit_ok (fitN_bd a0).1 (fitN_bd a0).2 l0
  have ef := fit_ev h0 hl
  have hm : (mn (l0.length : Int) 39).toNat = min l0.length 39 := by unfold mn; split <;> omega
  have hm0 : 0 ≤ mn (l0.length : Int) 39 := by unfold mn; split <;> omega
  have hm1 : mn (l0.length : Int) 39 ≤ (l0.length : Int) := by unfold mn; split <;> omega
  have hl2 : ∀ x ∈ (([] : List S41) ++ l0.take (mn (l0.length : Int) 39).toNat ++ [(⟨a2_0, a2_1, a2_2⟩ : S41)]), Sz x := fun x hx => by
    rw [List.nil_append, List.mem_append] at hx
    rcases hx with hx | hx
    · exact hl x (List.mem_of_mem_take hx)
    · rw [List.mem_singleton] at hx
      subst hx
      exact ⟨h2, h3, h4⟩
  have hf2 := fit_ok (fitN_bd a0).1 (fitN_bd a0).2 (([] : List S41) ++ l0.take (mn (l0.length : Int) 39).toNat ++ [(⟨a2_0, a2_1, a2_2⟩ : S41)])
  have ef2 := fit_ev h0 hl2
  have hcase : (fitL (fitN a0) (([] : List S41) ++ l0.take (mn (l0.length : Int) 39).toNat ++ [(⟨a2_0, a2_1, a2_2⟩ : S41)])).length ≤ (fitL (fitN a0) l0).length ∨ fitL (fitN a0) (([] : List S41) ++ l0.take (mn (l0.length : Int) 39).toNat ++ [(⟨a2_0, a2_1, a2_2⟩ : S41)]) = fitL (fitN a0) l0 ++ [fitE (fitN a0) ⟨a2_0, a2_1, a2_2⟩] := by
    rw [hm, List.nil_append]
    rcases Nat.lt_or_ge l0.length 40 with h | h
    · refine .inr ?_
      unfold fitL
      rw [List.take_of_length_le (l := l0) (by omega), List.take_of_length_le (l := l0) (by omega), List.take_of_length_le (by rw [List.length_append, List.length_singleton]; omega), List.map_append]
      rfl
    · refine .inl ?_
      unfold fitL
      simp only [List.length_map, List.length_take, List.length_append, List.length_singleton]
      omega
  have hy : (l0.take (mn (l0.length : Int) 39).toNat).length ≤ 39 := by rw [hm, List.length_take]; omega
  generalize hle : (([] : List S41) ++ l0.take (mn (l0.length : Int) 39).toNat ++ [(⟨a2_0, a2_1, a2_2⟩ : S41)]) = l2 at hl2 hf2 ef2 hcase
  generalize fitN a0 = N at hf ef hf2 ef2 hcase
  generalize fitL N l0 = l at hf ef hcase
  generalize fitL N l2 = l' at hf2 ef2 hcase
  obtain ⟨F, eF, gF⟩ := flow_ev hf.net h1
  have n0 := hf.n0
  have n1 := hf.n1
  have hfp := Gl.GoodP.fp gF.1
  have ev : Ev (fun k => billetlaw05_GraphMore.f k a0 l0 l1 a2_0 a2_1 a2_2) true := by
    refine Ev.bind Gl.awake_ev (Ev.bind ef (Ev.bind eF (Ev.congr (f := fun k => (billetlaw05_Fit.f k a0 l2).bind fun _ => some true) (fun k => ?_) (Ev.bind ef2 (Ev.now _)))))
    rw [if_pos hm0, if_pos hm1]
    show (if ([] : List S41).length + (l0.take (mn (l0.length : Int) 39).toNat).length < 5864062014805 then (if (([] : List S41) ++ l0.take (mn (l0.length : Int) 39).toNat).length + [(⟨a2_0, a2_1, a2_2⟩ : S41)].length < 5864062014805 then ((billetlaw05_Fit.f k a0 (([] : List S41) ++ l0.take (mn (l0.length : Int) 39).toNat ++ [(⟨a2_0, a2_1, a2_2⟩ : S41)])).bind fun _ => some true) else none) else none) = _
    rw [if_pos (by rw [List.length_nil]; omega), if_pos (by rw [List.nil_append, List.length_singleton]; omega), hle]
  have ok : ∃ K, ∀ k, K ≤ k → MoreOk k N l F N l' := by
    have hll := hf.len
    have hll' := hf2.len
    rcases hcase with h | h
    · exact ⟨0, fun k _ => ⟨by omega, by omega, by omega, by omega, hfp.len, fun hlt => absurd hlt (by omega)⟩⟩
    · subst h
      have hfp2 := fits_app hfp hf2.net
      obtain ⟨K1, e1⟩ := reach_ev (s := 0) hfp (by omega)
      obtain ⟨K2, e2⟩ := reach_ev (s := 0) hfp2 (by omega)
      have tA := seen_told (s := 0) hfp (by omega)
      have tB := seen_told (s := 0) hfp2 (by omega)
      obtain ⟨K3, e3⟩ := cut_ev (S := List.replicate N.toNat true) hf.net (by rw [List.length_replicate]; omega)
      obtain ⟨K4, e4⟩ := cut_ev (S := List.replicate N.toNat false) hf.net (by rw [List.length_replicate]; omega)
      refine ⟨max (max K1 K2) (max K3 K4), fun k hk => ⟨by omega, by omega, by omega, by omega, hfp.len, fun _ => ⟨_, _, e1 k (by omega), ?_, tA.len, tB.len, fun v hv h => ?_, ?_, ?_⟩⟩⟩
      · rw [copG_one F _ l hfp.len (by rw [List.length_append]; rfl)]
        exact e2 k (by omega)
      · exact (tB.told v (by omega)).2 (rch_app hfp.len ((tA.told v (by omega)).1 h))
      · exact (e3 k (by omega)).trans (by rw [cut_all hf.net])
      · exact (e4 k (by omega)).trans (by rw [cut_no])
  obtain ⟨K1, e1⟩ := ev
  obtain ⟨K2, e2⟩ := ef
  obtain ⟨K3, e3⟩ := eF
  obtain ⟨K4, e4⟩ := ef2
  obtain ⟨K5, e5⟩ := ok
  refine ⟨max (max (max K1 K2) (max K3 K4)) K5, fun k hk => ⟨e1 k (by omega), fun N' l3 F' N1' l1' g1 g2 g3 => ?_⟩⟩
  have := (e2 k (by omega)).symm.trans g1
  injection this with this
  injection this with hN hl'
  subst hN; subst hl'
  have := (e3 k (by omega)).symm.trans g2
  injection this with this
  subst this
  have := (e4 k (by omega)).symm.trans g3
  injection this with this
  injection this with hN hl'
  subst hN; subst hl'
  exact e5 k (by omega)
#print axioms more
end Go.Proofs.Ytfmfojogcghkkaa.Pgm
