/- The laws' own networks and flows in plain terms: pick, Fit, Flow. -/
import Derived.Test.YtfmfojogcghkkaaFa
import Derived.Test.YtfmfojogcghkkaaPx20
import Derived.Test.YtfmfojogcghkkaaPx21
import Derived.Test.YtfmfojogcghkkaaPx22
namespace Go.Proofs.Ytfmfojogcghkkaa.Fw
open Go.RowKit Go.Proofs.Ytfmfojogcghkkaa.P Go.Proofs.YtfmfojogcghkkaaW.PrintWords Go.Proofs.YtfmfojogcghkkaaW.PrintLast
open Go.Proofs.Ytfmfojogcghkkaa.Fl Go.Proofs.Ytfmfojogcghkkaa.Bf Go.Proofs.Ytfmfojogcghkkaa.Pp Go.Proofs.Ytfmfojogcghkkaa.Gp

def pk (a n : Int) : Int := if a < 0 then Int.tmod (-(a + 1)) n else Int.tmod a n
theorem pk_bd (a : Int) {n : Int} (hn : 0 < n) : 0 ≤ pk a n ∧ pk a n < n := by
  unfold pk
  split
  · exact ⟨Int.tmod_nonneg _ (by omega), Int.tmod_lt_of_pos _ hn⟩
  · exact ⟨Int.tmod_nonneg _ (by omega), Int.tmod_lt_of_pos _ hn⟩
theorem pick_ev {a n : Int} (ha : I64 a) (hn : 0 < n) : billetlaw05_pick.f a n = some (pk a n) := by
  obtain ⟨h0, h1⟩ := ha
  unfold billetlaw05_pick.f pk
  by_cases c : a < 0
  · rw [if_pos c, if_pos c, if_neg (by omega), w64 (n := a + 1) (by omega) (by omega), w64 (by omega) (by omega)]
  · rw [if_neg c, if_neg c, if_neg (by omega)]
theorem tmod_bd (a : Int) {n : Int} (h0 : 0 ≤ a) (hn : 0 < n) : 0 ≤ Int.tmod a n ∧ Int.tmod a n < n := ⟨Int.tmod_nonneg _ h0, Int.tmod_lt_of_pos _ hn⟩

def fitE (n : Int) (x : S41) : S41 := ⟨pk x.f0 n, if pk x.f0 n = pk x.f1 n then Int.tmod (pk x.f1 n + 1) n else pk x.f1 n, pk x.f2 10⟩
def fitL (n : Int) (l : List S41) : List S41 := (l.take 40).map (fitE n)
def fitN (a : Int) : Int := 2 + pk a 8
theorem tmod_next {a n : Int} (hn : 2 ≤ n) (h0 : 0 ≤ a) (h1 : a < n) : Int.tmod (a + 1) n ≠ a := by
  by_cases c : a + 1 = n
  · rw [c, Int.tmod_self]; omega
  · rw [Int.tmod_eq_of_lt (by omega) (by omega)]; omega
theorem fitE_ok {n : Int} (hn : 2 ≤ n) (x : S41) : (0 ≤ (fitE n x).f0 ∧ (fitE n x).f0 < n) ∧ (0 ≤ (fitE n x).f1 ∧ (fitE n x).f1 < n) ∧ (fitE n x).f0 ≠ (fitE n x).f1 ∧ 0 ≤ (fitE n x).f2 ∧ (fitE n x).f2 ≤ 9 := by
  have a := pk_bd x.f0 (n := n) (by omega)
  have b := pk_bd x.f1 (n := n) (by omega)
  have c := pk_bd x.f2 (n := 10) (by omega)
  refine ⟨a, ?_, ?_, c.1, by show pk x.f2 10 ≤ 9; omega⟩
  · simp only [fitE]
    split
    · exact tmod_bd _ (by omega) (by omega)
    · exact b
  · simp only [fitE]
    split
    · rename_i h; rw [h]; exact (tmod_next hn b.1 b.2).symm
    · assumption
/-- A network of the laws. -/
structure FitOk (N : Int) (l : List S41) : Prop where
  n0 : 2 ≤ N
  n1 : N ≤ 9
  len : l.length ≤ 40
  ends : Bf.Ends l N
  cap : ∀ i : Nat, i < l.length → 0 ≤ (rd_T41 l i).f2 ∧ (rd_T41 l i).f2 ≤ 9
theorem FitOk.net {N : Int} {l : List S41} (h : FitOk N l) : NetOk N l := ⟨h.n0, by have := h.n1; omega, by have := h.len; omega, h.ends, fun i hi => by have := h.cap i hi; omega⟩
theorem fitN_bd (a : Int) : 2 ≤ fitN a ∧ fitN a ≤ 9 := by have := pk_bd a (n := 8) (by omega); unfold fitN; omega
theorem fit_ok {n : Int} (h0 : 2 ≤ n) (h1 : n ≤ 9) (l : List S41) : FitOk n (fitL n l) := by
  have e : ∀ i : Nat, i < (fitL n l).length → ∃ x, rd_T41 (fitL n l) i = fitE n x := fun i hi => by
    rw [rdE hi]; unfold fitL; exact ⟨_, List.getElem_map _⟩
  refine ⟨h0, h1, by simp [fitL]; omega, fun i hi => ?_, fun i hi => ?_⟩
  · obtain ⟨x, hx⟩ := e i hi
    rw [hx]; have := fitE_ok h0 x; exact ⟨this.1, this.2.1, this.2.2.1⟩
  · obtain ⟨x, hx⟩ := e i hi
    rw [hx]; have := fitE_ok h0 x; exact this.2.2.2

theorem fit_loop {N n : Int} {l : List S41} (hs : ∀ x ∈ l, Sz x) (h0 : 2 ≤ n) (h1 : n ≤ 9) (d : Nat) : ∀ i : Nat, i ≤ l.length → i ≤ 40 → min l.length 40 - i = d →
    Ev (fun k => billetlaw05_Fit.l0 k (i : Int) N l n ((l.take i).map (fitE n))) (n, fitL n l) := by
  induction d with
  | zero =>
    intro i hi hi2 hd
    have e : (l.take i).map (fitE n) = fitL n l := by
      unfold fitL
      by_cases c : l.length ≤ 40
      · rw [List.take_of_length_le (by omega), List.take_of_length_le c]
      · rw [show i = 40 by omega]
    refine Ev.step (f := fun k => billetlaw05_Fit.j1 k (i : Int) false N l n ((l.take i).map (fitE n))) (fun k => ?_) (Ev.step (f := fun _ => some (n, fitL n l)) (fun k => ?_) (Ev.now _))
    · simp only [billetlaw05_Fit.l0]
      by_cases c : (i : Int) < (l.length : Int)
      · rw [if_pos c, decide_eq_false (by omega)]
      · rw [if_neg c]
    · simp only [billetlaw05_Fit.j1]; rw [if_neg (by simp), e]
  | succ d ih =>
    intro i hi hi2 hd
    have ew : wrap64 ((i : Int) + 1) = ((i + 1 : Nat) : Int) := by rw [w64 (by omega) (by omega)]; omega
    have hx := hs _ (List.getElem_mem (show i < l.length by omega))
    refine Ev.step (f := fun k => billetlaw05_Fit.j1 k (i : Int) true N l n ((l.take i).map (fitE n))) (fun k => ?_) (Ev.step (fun k => ?_) (ih (i + 1) (by omega) (by omega) (by omega)))
    · simp only [billetlaw05_Fit.l0]
      rw [if_pos (by omega), decide_eq_true (by omega)]
    · have e : (l.take (i + 1)).map (fitE n) = (l.take i).map (fitE n) ++ [fitE n (rd_T41 l i)] := by
        rw [List.take_succ_eq_append_getElem (by omega), List.map_append, rdE (by omega)]; rfl
      rw [← rdE] at hx
      obtain ⟨x0, x1, x2⟩ := hx
      simp only [billetlaw05_Fit.j1]
      rw [if_pos trivial, if_pos (by omega), if_pos (by omega), pick_ev x0 (by omega), Option.bind_some, pick_ev x1 (by omega), Option.bind_some, pick_ev x2 (by omega), Option.bind_some, e, ew]
      have b := pk_bd (rd_T41 l i).f1 (n := n) (by omega)
      have hl : ((l.take i).map (fitE n)).length < 5864062014805 := by simp; omega
      unfold fitE at hl ⊢
      by_cases c : pk (rd_T41 l i).f0 n = pk (rd_T41 l i).f1 n
      · rw [if_pos c, if_neg (by omega), if_pos hl, if_pos c, w64 (by omega) (by omega)]
      · rw [if_neg c, if_pos hl, if_neg c]
theorem fit_ev {N : Int} {l : List S41} (hN : I64 N) (hs : ∀ x ∈ l, Sz x) : Ev (fun k => billetlaw05_Fit.f k N l) (fitN N, fitL (fitN N) l) := by
  have hb := fitN_bd N
  have ew : wrap64 (2 + pk N 8) = fitN N := by unfold fitN at hb ⊢; rw [w64 (by omega) (by omega)]
  refine Ev.congr (f := fun k => billetlaw05_Fit.l0 k 0 N l (fitN N) []) (fun k => ?_) (fit_loop hs hb.1 hb.2 (min l.length 40) 0 (by omega) (by omega) (by omega))
  simp only [billetlaw05_Fit.f]
  rw [pick_ev hN (by omega), Option.bind_some, ew]

/-! ### Flow -/
/-- A good flow from 0 to 1. -/
def G01 (N : Int) (l : List S41) (F : List Int) : Prop := GoodP N l F 0 1 ∧ 0 ≤ bal (nw N l) (fl F) 0
structure WInv (N : Int) (l : List S41) (F : List Int) (way : List Int) (seen : List Bool) (u : Int) : Prop where
  slen : seen.length = N.toNat
  ub : 0 ≤ u ∧ u < N
  wy : Fl.Way (nw N l) (fl F) 0 u.toNat (way.map fun j => (j.toNat, false)).reverse
  mem : ∀ j ∈ way, 0 ≤ j ∧ j < l.length ∧ rd F j < (rd_T41 l j).f2 ∧ rdOf false seen (rd_T41 l j).f1 = true
  nd : way.Nodup
theorem Good.congr {G : Nw} {f g : Nat → Int} {s t : Nat} (h : Fl.Good G f s t) (e : ∀ i, i < G.m → g i = f i) : Fl.Good G g s t :=
  ⟨h.ok, fun i hi => by rw [e i hi]; exact h.fits i hi, h.sN, h.tN, h.ne, fun v h1 h2 h3 => by rw [bal_congr e]; exact h.bal v h1 h2 h3⟩
section
variable {N : Int} {l : List S41} {raw : List Int} {i : Nat} {R : List Int → Prop}
/-- A way is taken: one unit more along it. -/
theorem l3_ev {F way : List Int} {seen : List Bool} (hg : G01 N l F) (hw : WInv N l F way seen 1)
    (H : ∀ F', G01 N l F' → ∃ r, Ev (fun k => billetlaw05_Flow.l0 k raw F' (wrap64 ((i : Int) + 1)) N l) r ∧ R r) (d : Nat) : ∀ (p : Nat) (Fp : List Int), p ≤ way.length → way.length - p = d → Fp.length = l.length →
    (∀ x : Nat, x < l.length → rd Fp x = if (x : Int) ∈ way.take p then rd F x + 1 else rd F x) → ∃ r, Ev (fun k => billetlaw05_Flow.l3 k raw Fp (i : Int) way (p : Int) N l) r ∧ R r := by
  have hN := hg.1.net
  have hlen := hN.len
  have hwl : way.length ≤ 256 := by
    have := pigeon l.length (fun p => rd way p) way.length (fun p hp => by
      rw [rdG hp]; have := hw.mem _ (List.getElem_mem hp); omega) (fun p r hp hr e => by
        simp only [rdG hp, rdG hr] at e
        exact (List.getElem_inj hw.nd).1 e)
    omega
  induction d with
  | zero =>
    intro p Fp hp hd hl hF
    obtain rfl : p = way.length := by omega
    rw [List.take_length] at hF
    have hroom : ∀ q ∈ (way.map fun j => (j.toNat, false)).reverse, (1 : Int) ≤ Fl.room (nw N l) (fl F) q := fun q hq => by
      rw [List.mem_reverse] at hq
      obtain ⟨j, hj, rfl⟩ := List.mem_map.1 hq
      obtain ⟨a, b, c, _⟩ := hw.mem j hj
      show 1 ≤ (if false = true then _ else (rd_T41 l (j.toNat : Nat)).f2 - rd F (j.toNat : Nat))
      rw [if_neg (by simp), show ((j.toNat : Nat) : Int) = j by omega]; omega
    have hnd : ((way.map fun j => (j.toNat, false)).reverse.map (·.1)).Nodup := by
      rw [List.map_reverse, List.map_map]
      show ((way.map fun j => j.toNat).reverse).Nodup
      rw [List.nodup_iff_pairwise_ne, List.pairwise_reverse, List.pairwise_map]
      refine List.Pairwise.imp_of_mem ?_ hw.nd
      intro a b ha hb hne
      have := hw.mem a ha; have := hw.mem b hb; omega
    obtain ⟨g1, g2⟩ := push_good hg.1.good hw.wy (c := 1) (by omega) hnd hroom
    have hpt : ∀ x, x < (nw N l).m → fl Fp x = Fl.push (fl F) 1 ((way.map fun j => (j.toNat, false)).reverse) x := fun x hx => by
      have hx : x < l.length := hx
      show rd Fp x = _
      rw [hF x hx]
      by_cases c : (x : Int) ∈ way
      · rw [if_pos c, push_at (b := false) (fl F) hnd (by rw [List.mem_reverse]; exact List.mem_map.2 ⟨_, c, by simp⟩)]; rfl
      · rw [if_neg c, push_other _ (fun q hq e => c (by
          rw [List.mem_reverse] at hq
          obtain ⟨j, hj, rfl⟩ := List.mem_map.1 hq
          have := hw.mem j hj
          have e : j.toNat = x := e
          rw [← e, show ((j.toNat : Nat) : Int) = j by omega]; exact hj))]; rfl
    obtain ⟨r, h1, h2⟩ := H Fp ⟨⟨hN, hl, hg.1.sb, hg.1.tb, Good.congr g1 hpt⟩, by rw [bal_congr hpt]; have := hg.2; have g2' : bal (nw N l) (Fl.push (fl F) 1 ((way.map fun j => (j.toNat, false)).reverse)) 0 = bal (nw N l) (fl F) 0 + 1 := g2; omega⟩
    refine ⟨r, Ev.step (fun k => ?_) h1, h2⟩
    simp only [billetlaw05_Flow.l3]; rw [if_neg (by omega)]
  | succ d ih =>
    intro p Fp hp hd hl hF
    have hp' : p < way.length := by omega
    have hj := hw.mem _ (List.getElem_mem hp')
    have e0 : rd way p = way[p] := rdG hp'
    have hnot : ¬ way[p] ∈ way.take p := fun hm => by
      obtain ⟨q, hq, e⟩ := List.getElem_of_mem hm
      rw [List.getElem_take] at e
      have := (List.getElem_inj hw.nd).1 e
      simp at hq; omega
    have hv : rd Fp way[p] = rd F way[p] := by
      have := hF way[p].toNat (by omega)
      rw [show ((way[p].toNat : Nat) : Int) = way[p] by omega, if_neg hnot] at this; exact this
    have hb := good_bd hN hg.1.good.fits way[p].toNat (by omega)
    have hcap := hN.cap way[p].toNat (by omega)
    rw [show ((way[p].toNat : Nat) : Int) = way[p] by omega] at hb hcap
    obtain ⟨r, h1, h2⟩ := ih (p + 1) (Fp.set way[p].toNat (rd F way[p] + 1)) (by omega) (by omega) (by rw [List.length_set]; exact hl) (fun x hx => by
      rw [rd_set (by omega), List.take_succ_eq_append_getElem hp']
      simp only [List.mem_append, List.mem_singleton]
      by_cases c : x = way[p].toNat
      · rw [if_pos c, if_pos (.inr (by omega)), c, show ((way[p].toNat : Nat) : Int) = way[p] by omega]
      · rw [if_neg c, hF x hx]
        by_cases c2 : (x : Int) ∈ way.take p
        · rw [if_pos c2, if_pos (.inl c2)]
        · rw [if_neg c2, if_neg (by rintro (h | h); exact c2 h; omega)])
    clear hF ih
    refine ⟨r, Ev.step (fun k => ?_) h1, h2⟩
    simp only [billetlaw05_Flow.l3]
    rw [if_pos (by omega), if_pos (by omega), e0, if_pos hj.1, if_pos (by omega), hv, w64 (n := rd F way[p] + 1) (by omega) (by omega), w64 (n := (p : Int) + 1) (by omega) (by omega)]; rfl

theorem way_len {F way : List Int} {seen : List Bool} {u : Int} (hw : WInv N l F way seen u) : way.length ≤ l.length :=
  pigeon l.length (fun p => rd way p) way.length (fun p hp => by
      rw [rdG hp]; have := hw.mem _ (List.getElem_mem hp); omega) (fun p r hp hr e => by
        simp only [rdG hp, rdG hr] at e
        exact (List.getElem_inj hw.nd).1 e)
theorem WInv.next {F way : List Int} {seen : List Bool} {u : Int} (hN : NetOk N l) (hw : WInv N l F way seen u) {j : Nat} (hj : j < l.length) (hu : (rd_T41 l j).f0 = u) (hd : rdOf false seen (rd_T41 l j).f1 = false) (hF : rd F j < (rd_T41 l j).f2) :
    WInv N l F (way ++ [(j : Int)]) (seen.set (rd_T41 l j).f1.toNat true) (rd_T41 l j).f1 ∧ cf (seen.set (rd_T41 l j).f1.toNat true) + 1 = cf seen := by
  obtain ⟨a, b, c⟩ := hN.ends j hj
  have hsl := hw.slen
  refine ⟨⟨by rw [List.length_set]; exact hsl, b, ?_, fun x hx => ?_, ?_⟩, ?_⟩
  · rw [List.map_append, List.reverse_append]
    refine Fl.Way.cons (u := u.toNat) hw.wy (by show (j : Int).toNat < l.length; omega) ?_
    rw [if_neg (by simp)]
    subst hu
    exact ⟨rfl, rfl⟩
  · rw [List.mem_append, List.mem_singleton] at hx
    rcases hx with hx | rfl
    · obtain ⟨p, q, r, s⟩ := hw.mem x hx
      have hb := (hN.ends x.toNat (by omega)).2.1
      rw [show ((x.toNat : Nat) : Int) = x by omega] at hb
      refine ⟨p, q, r, ?_⟩
      rw [rdO_set hb.1 (by omega), s]; simp
    · refine ⟨by omega, by omega, hF, ?_⟩
      rw [rdO_set b.1 (by omega), if_pos rfl]
  · rw [List.nodup_append]
    refine ⟨hw.nd, by simp, fun x hx y hy => ?_⟩
    rw [List.mem_singleton] at hy
    rintro rfl
    have := (hw.mem x hx).2.2.2
    rw [hy, hd] at this; cases this
  · rw [rdO b.1 (by omega)] at hd
    exact cf_set seen _ (by omega) hd

theorem l2_ev {F way : List Int} {seen : List Bool} {u c : Int} (hg : G01 N l F) (hw : WInv N l F way seen u) (hu : u ≠ 1) (hc : 0 ≤ c ∧ c < 1048576)
    (H : ∀ F', G01 N l F' → ∃ r, Ev (fun k => billetlaw05_Flow.l0 k raw F' (wrap64 ((i : Int) + 1)) N l) r ∧ R r)
    (K : ∀ j : Nat, j < l.length → (rd_T41 l j).f0 = u → rdOf false seen (rd_T41 l j).f1 = false → rd F j < (rd_T41 l j).f2 → ∀ c', 0 ≤ c' ∧ c' < 1048576 →
      ∃ r, Ev (fun k => billetlaw05_Flow.l1 k raw F (i : Int) (way ++ [(j : Int)]) (seen.set (rd_T41 l j).f1.toNat true) (rd_T41 l j).f1 c' N l) r ∧ R r) (d : Nat) : ∀ (q : Nat) (may : List Int), q ≤ l.length → l.length - q = d → may.length ≤ q →
    (∀ m ∈ may, ∃ j : Nat, m = j ∧ j < l.length ∧ (rd_T41 l j).f0 = u ∧ rdOf false seen (rd_T41 l j).f1 = false ∧ rd F j < (rd_T41 l j).f2) →
    ∃ r, Ev (fun k => billetlaw05_Flow.l2 k raw F (i : Int) way seen u c may (q : Int) N l) r ∧ R r := by
  have hN := hg.1.net
  have hlen := hN.len
  have hwl := way_len hw
  have hsl := hw.slen
  have hFl := hg.1.len
  induction d with
  | zero =>
    intro q may hq hd hm hM
    by_cases c0 : may.length = 0
    · obtain ⟨r, h1, h2⟩ := H F hg
      refine ⟨r, Ev.step (f := fun k => billetlaw05_Flow.j4 k raw F (i : Int) way u N l) (fun k => ?_) (Ev.step (fun k => ?_) h1), h2⟩
      · simp only [billetlaw05_Flow.l2]; rw [if_neg (by omega), if_pos (by omega)]
      · simp only [billetlaw05_Flow.j4]; rw [if_neg hu]
    · have hb := tmod_bd c (n := (may.length : Int)) hc.1 (by omega)
      obtain ⟨p, hp⟩ : ∃ p : Nat, Int.tmod c (may.length : Int) = p := ⟨(Int.tmod c (may.length : Int)).toNat, by omega⟩
      have hpl : p < may.length := by omega
      obtain ⟨j, e, h1, h2, h3, h4⟩ := hM _ (List.getElem_mem hpl)
      obtain ⟨a, b, _⟩ := hN.ends j h1
      have ec : Int.tdiv c 2 = c / 2 := Int.tdiv_eq_ediv_of_nonneg hc.1
      obtain ⟨r, k1, k2⟩ := K j h1 h2 h3 h4 (c / 2) (by omega)
      refine ⟨r, Ev.step (fun k => ?_) k1, k2⟩
      simp only [billetlaw05_Flow.l2]
      rw [hp] at hb ⊢
      rw [rdG hpl, e, ec]
      rw [if_neg (by omega), if_neg (by omega), if_pos (by omega), if_pos (by omega), if_pos (by omega), if_pos (by omega), if_pos (by omega), if_pos b.1, if_pos (by omega), w64 (by omega) (by omega)]
  | succ d ih =>
    intro q may hq hd hm hM
    obtain ⟨a, b, _⟩ := hN.ends q (by omega)
    have skip : ∀ (_ : ¬ ((rd_T41 l q).f0 = u ∧ rdOf false seen (rd_T41 l q).f1 = false ∧ rd F q < (rd_T41 l q).f2)), ∃ r, Ev (fun k => billetlaw05_Flow.l2 k raw F (i : Int) way seen u c may (q : Int) N l) r ∧ R r := fun hno => by
      obtain ⟨r, h1, h2⟩ := ih (q + 1) may (by omega) (by omega) (by omega) hM
      refine ⟨r, Ev.step (fun k => ?_) h1, h2⟩
      simp only [billetlaw05_Flow.l2]
      rw [if_pos (show (q : Int) < (l.length : Int) by omega), if_pos (show (0 : Int) ≤ (q : Int) by omega), w64 (n := (q : Int) + 1) (by omega) (by omega)]
      by_cases c1 : (rd_T41 l q).f0 = u
      · rw [if_pos c1, if_pos b.1, if_pos (show (rd_T41 l q).f1 < (seen.length : Int) by omega)]
        cases c2 : rdOf false seen (rd_T41 l q).f1
        · rw [if_neg (by simp), if_pos (show (q : Int) < (F.length : Int) by omega), if_neg (fun h => hno ⟨c1, c2, h⟩)]; rfl
        · rw [if_pos rfl]; rfl
      · rw [if_neg c1]; rfl
    by_cases c1 : (rd_T41 l q).f0 = u
    · cases c2 : rdOf false seen (rd_T41 l q).f1
      · by_cases c3 : rd F q < (rd_T41 l q).f2
        · obtain ⟨r, h1, h2⟩ := ih (q + 1) (may ++ [(q : Int)]) (by omega) (by omega) (by simp; omega) (fun m hm => by
            rw [List.mem_append, List.mem_singleton] at hm
            rcases hm with hm | rfl
            · exact hM m hm
            · exact ⟨q, rfl, by omega, c1, c2, c3⟩)
          refine ⟨r, Ev.step (fun k => ?_) h1, h2⟩
          simp only [billetlaw05_Flow.l2]
          rw [if_pos (show (q : Int) < (l.length : Int) by omega), if_pos (show (0 : Int) ≤ (q : Int) by omega), w64 (n := (q : Int) + 1) (by omega) (by omega), if_pos c1, if_pos b.1, if_pos (show (rd_T41 l q).f1 < (seen.length : Int) by omega), c2, if_neg (by simp), if_pos (show (q : Int) < (F.length : Int) by omega), if_pos c3, if_pos (by omega)]; rfl
        · exact skip fun h => c3 h.2.2
      · exact skip fun h => by rw [c2] at h; cases h.2.1
    · exact skip fun h => c1 h.1

theorem l1_ev {F : List Int} (hg : G01 N l F) (H : ∀ F', G01 N l F' → ∃ r, Ev (fun k => billetlaw05_Flow.l0 k raw F' (wrap64 ((i : Int) + 1)) N l) r ∧ R r) (n : Nat) : ∀ (way : List Int) (seen : List Bool) (u c : Int), cf seen ≤ n → WInv N l F way seen u → 0 ≤ c ∧ c < 1048576 →
    ∃ r, Ev (fun k => billetlaw05_Flow.l1 k raw F (i : Int) way seen u c N l) r ∧ R r := by
  induction n with
  | zero =>
    intro way seen u c hn hw hc
    by_cases hu : u = 1
    · subst hu
      obtain ⟨r, h1, h2⟩ := l3_ev hg hw H way.length 0 F (by omega) (by omega) hg.1.len (fun x hx => by simp)
      refine ⟨r, Ev.step (f := fun k => billetlaw05_Flow.j4 k raw F (i : Int) way 1 N l) (fun k => ?_) (Ev.step (fun k => ?_) h1), h2⟩
      · simp only [billetlaw05_Flow.l1]; rfl
      · simp only [billetlaw05_Flow.j4]; rfl
    · obtain ⟨r, h1, h2⟩ := l2_ev hg hw hu hc H (fun j a1 a2 a3 a4 c' hc' => by have := (hw.next hg.1.net a1 a2 a3 a4).2; omega) l.length 0 [] (by omega) (by omega) (by simp) (fun m hm => by cases hm)
      refine ⟨r, Ev.step (fun k => ?_) h1, h2⟩
      simp only [billetlaw05_Flow.l1]; rw [if_neg hu]; rfl
  | succ n ih =>
    intro way seen u c hn hw hc
    by_cases hu : u = 1
    · subst hu
      obtain ⟨r, h1, h2⟩ := l3_ev hg hw H way.length 0 F (by omega) (by omega) hg.1.len (fun x hx => by simp)
      refine ⟨r, Ev.step (f := fun k => billetlaw05_Flow.j4 k raw F (i : Int) way 1 N l) (fun k => ?_) (Ev.step (fun k => ?_) h1), h2⟩
      · simp only [billetlaw05_Flow.l1]; rfl
      · simp only [billetlaw05_Flow.j4]; rfl
    · obtain ⟨r, h1, h2⟩ := l2_ev hg hw hu hc H (fun j a1 a2 a3 a4 c' hc' => by
        obtain ⟨w1, w2⟩ := hw.next hg.1.net a1 a2 a3 a4
        exact ih _ _ _ _ (by omega) w1 hc') l.length 0 [] (by omega) (by omega) (by simp) (fun m hm => by cases hm)
      refine ⟨r, Ev.step (fun k => ?_) h1, h2⟩
      simp only [billetlaw05_Flow.l1]; rw [if_neg hu]; rfl
end

theorem flow_loop {N : Int} {l : List S41} {raw : List Int} (hs : ∀ x ∈ raw, I64 x) (d : Nat) : ∀ (i : Nat) (F : List Int), i ≤ raw.length → i ≤ 30 → min raw.length 30 - i = d → G01 N l F →
    ∃ r, Ev (fun k => billetlaw05_Flow.l0 k raw F (i : Int) N l) r ∧ G01 N l r := by
  induction d with
  | zero =>
    intro i F hi hi2 hd hg
    refine ⟨F, Ev.step (f := fun k => billetlaw05_Flow.j1 k raw F (i : Int) false N l) (fun k => ?_) (Ev.step (f := fun _ => some F) (fun k => ?_) (Ev.now _)), hg⟩
    · simp only [billetlaw05_Flow.l0]
      by_cases c : (i : Int) < (raw.length : Int)
      · rw [if_pos c, decide_eq_false (by omega)]
      · rw [if_neg c]
    · simp only [billetlaw05_Flow.j1]; rw [if_neg (by simp)]
  | succ d ih =>
    intro i F hi hi2 hd hg
    have n0 := hg.1.net.n0
    have n1 := hg.1.net.n1
    have hx := hs _ (List.getElem_mem (show i < raw.length by omega))
    rw [← rdG] at hx
    have hw : WInv N l F [] ((List.replicate N.toNat false).set 0 true) 0 := ⟨by simp, by omega, Fl.Way.nil, fun j hj => (by cases hj), by simp⟩
    obtain ⟨r, h1, h2⟩ := l1_ev (raw := raw) (i := i) hg (R := G01 N l) (fun F' hF' => by
      obtain ⟨r, h1, h2⟩ := ih (i + 1) F' (by omega) (by omega) (by omega) hF'
      refine ⟨r, Ev.congr (fun k => ?_) h1, h2⟩
      rw [w64 (n := (i : Int) + 1) (by omega) (by omega)]; rfl) _ [] _ 0 (pk (rd raw i) 1048576) (Nat.le_refl _) hw (pk_bd _ (by omega))
    refine ⟨r, Ev.step (f := fun k => billetlaw05_Flow.j1 k raw F (i : Int) true N l) (fun k => ?_) (Ev.step (fun k => ?_) h1), h2⟩
    · simp only [billetlaw05_Flow.l0]
      rw [if_pos (show (i : Int) < (raw.length : Int) by omega), decide_eq_true (show (i : Int) < 30 by omega)]
    · simp only [billetlaw05_Flow.j1]
      rw [if_pos trivial, if_pos (show 0 ≤ N by omega), if_pos (show N.toNat ≤ 281474976710656 by omega), Option.bind_some, if_pos (by simp; omega), if_pos (show (0 : Int) ≤ (i : Int) by omega), if_pos (show (i : Int) < (raw.length : Int) by omega), pick_ev hx (by omega), Option.bind_some]; rfl
theorem flow_ev {N : Int} {l : List S41} {raw : List Int} (hN : NetOk N l) (hs : ∀ x ∈ raw, I64 x) : ∃ F, Ev (fun k => billetlaw05_Flow.f k N l raw) F ∧ G01 N l F := by
  have n0 := hN.n0
  obtain ⟨g, hb⟩ := zero_good hN (s := 0) (t := 1) (by omega) (by omega) (by omega)
  obtain ⟨r, h1, h2⟩ := flow_loop hs (min raw.length 30) 0 _ (by omega) (by omega) (by omega) (⟨g, by rw [hb]; exact Int.le_refl _⟩ : G01 N l (List.replicate l.length 0))
  refine ⟨r, Ev.congr (fun k => ?_) h1, h2⟩
  have := hN.len
  simp only [billetlaw05_Flow.f]
  rw [if_pos (by omega), if_pos (by omega)]; rfl
#print axioms flow_ev
end Go.Proofs.Ytfmfojogcghkkaa.Fw
