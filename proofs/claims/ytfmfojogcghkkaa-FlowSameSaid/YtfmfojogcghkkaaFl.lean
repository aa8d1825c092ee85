/- Flows in networks, in plain terms: sums, balances, cuts, what can be reached, and what a way adds. No program in sight. -/
namespace Go.Proofs.Ytfmfojogcghkkaa.Fl

/-- The sum of g over the numbers below n. -/
def sm (g : Nat → Int) : Nat → Int
  | 0 => 0
  | n + 1 => sm g n + g n
theorem sm_congr {g h : Nat → Int} : ∀ {n : Nat}, (∀ i, i < n → g i = h i) → sm g n = sm h n
  | 0, _ => rfl
  | n + 1, e => by simp only [sm]; rw [sm_congr (n := n) fun i hi => e i (by omega), e n (by omega)]
theorem sm_add (g h : Nat → Int) : ∀ n : Nat, sm (fun i => g i + h i) n = sm g n + sm h n
  | 0 => rfl
  | n + 1 => by simp only [sm]; rw [sm_add g h n]; omega
theorem sm_sub (g h : Nat → Int) : ∀ n : Nat, sm (fun i => g i - h i) n = sm g n - sm h n
  | 0 => rfl
  | n + 1 => by simp only [sm]; rw [sm_sub g h n]; omega
theorem sm_neg (g : Nat → Int) : ∀ n : Nat, sm (fun i => - g i) n = - sm g n
  | 0 => rfl
  | n + 1 => by simp only [sm]; rw [sm_neg g n]; omega
theorem sm_mul (c : Int) (g : Nat → Int) : ∀ n : Nat, sm (fun i => c * g i) n = c * sm g n
  | 0 => by simp [sm]
  | n + 1 => by simp only [sm]; rw [sm_mul c g n, Int.mul_add]
theorem sm_zero : ∀ n : Nat, sm (fun _ => 0) n = 0
  | 0 => rfl
  | n + 1 => by simp only [sm]; rw [sm_zero n]; rfl
theorem sm_all0 {g : Nat → Int} {n : Nat} (h : ∀ i, i < n → g i = 0) : sm g n = 0 := by rw [sm_congr h, sm_zero]
theorem sm_le {g h : Nat → Int} : ∀ {n : Nat}, (∀ i, i < n → g i ≤ h i) → sm g n ≤ sm h n
  | 0, _ => Int.le_refl _
  | n + 1, e => by
    have := sm_le (n := n) fun i hi => e i (by omega)
    have := e n (by omega)
    simp only [sm]; omega
theorem sm_nn {g : Nat → Int} {n : Nat} (h : ∀ i, i < n → 0 ≤ g i) : 0 ≤ sm g n := by
  have := sm_le h
  rwa [sm_zero] at this
theorem sm_bd {g : Nat → Int} {B : Int} : ∀ {n : Nat}, (∀ i, i < n → g i ≤ B) → sm g n ≤ B * n
  | 0, _ => by simp [sm]
  | n + 1, h => by
    have := sm_bd (n := n) fun i hi => h i (by omega)
    have := h n (by omega)
    have e : B * ((n + 1 : Nat) : Int) = B * n + B := by rw [Int.natCast_add, Int.mul_add]; simp
    rw [e]; simp only [sm]; omega
theorem sm_swap (g : Nat → Nat → Int) (m : Nat) : ∀ n : Nat, sm (fun i => sm (fun j => g i j) m) n = sm (fun j => sm (fun i => g i j) n) m
  | 0 => by simp only [sm]; rw [sm_zero]
  | n + 1 => by simp only [sm]; rw [sm_swap g m n, ← sm_add]
theorem sm_one {v : Nat} (x : Int) : ∀ {n : Nat}, sm (fun u => if u = v then x else 0) n = if v < n then x else 0
  | 0 => by simp [sm]
  | n + 1 => by
    simp only [sm]; rw [sm_one x (n := n)]
    by_cases c1 : v < n
    · rw [if_pos c1, if_neg (by omega), if_pos (by omega)]; omega
    · by_cases c2 : n = v
      · rw [if_neg c1, if_pos c2, if_pos (by omega)]; omega
      · rw [if_neg c1, if_neg c2, if_neg (by omega)]; omega
/-- A sum whose terms but one are the same. -/
theorem sm_upd (g h : Nat → Int) (k : Nat) : ∀ {n : Nat}, (∀ i, i < n → i ≠ k → g i = h i) → k < n → sm g n = sm h n + (g k - h k)
  | 0, _, hk => by omega
  | n + 1, e, hk => by
    simp only [sm]
    by_cases c : k = n
    · subst c
      rw [sm_congr (n := k) fun i hi => e i (by omega) (by omega)]; omega
    · rw [sm_upd g h k (n := n) (fun i hi => e i (by omega)) (by omega), e n (by omega) (fun h => c h.symm)]; omega

/-- A network: N vertices, m edges. -/
structure Nw where
  N : Nat
  m : Nat
  src : Nat → Nat
  dst : Nat → Nat
  cap : Nat → Int
/-- It may be. -/
structure Nw.Ok (G : Nw) : Prop where
  src : ∀ i, i < G.m → G.src i < G.N
  dst : ∀ i, i < G.m → G.dst i < G.N
  ne : ∀ i, i < G.m → G.src i ≠ G.dst i
  cap : ∀ i, i < G.m → 0 ≤ G.cap i

def bal (G : Nw) (f : Nat → Int) (v : Nat) : Int := sm (fun i => (if G.src i = v then f i else 0) - (if G.dst i = v then f i else 0)) G.m
def Fits (G : Nw) (f : Nat → Int) : Prop := ∀ i, i < G.m → 0 ≤ f i ∧ f i ≤ G.cap i
structure Good (G : Nw) (f : Nat → Int) (s t : Nat) : Prop where
  ok : G.Ok
  fits : Fits G f
  sN : s < G.N
  tN : t < G.N
  ne : s ≠ t
  bal : ∀ v, v < G.N → v ≠ s → v ≠ t → bal G f v = 0
def cut (G : Nw) (S : Nat → Bool) : Int := sm (fun i => if S (G.src i) = true ∧ S (G.dst i) = false then G.cap i else 0) G.m

theorem bal_congr {G : Nw} {f g : Nat → Int} {v : Nat} (h : ∀ i, i < G.m → f i = g i) : bal G f v = bal G g v := sm_congr fun i hi => by rw [h i hi]
theorem side_sum {G : Nw} (hG : G.Ok) (f : Nat → Int) (S : Nat → Bool) :
    sm (fun v => if S v then bal G f v else 0) G.N = sm (fun i => (if S (G.src i) then f i else 0) - (if S (G.dst i) then f i else 0)) G.m := by
  have e1 : ∀ v, (if S v then bal G f v else 0) = sm (fun i => if S v then (if G.src i = v then f i else 0) - (if G.dst i = v then f i else 0) else 0) G.m := fun v => by
    cases S v
    · simp [sm_zero]
    · simp [bal]
  rw [sm_congr fun v _ => e1 v, sm_swap]
  refine sm_congr fun i hi => ?_
  have hne := hG.ne i hi
  have e2 : ∀ v, (if S v then (if G.src i = v then f i else 0) - (if G.dst i = v then f i else 0) else 0) = (if v = G.src i then (if S (G.src i) then f i else 0) else 0) - (if v = G.dst i then (if S (G.dst i) then f i else 0) else 0) := fun v => by
    by_cases c1 : v = G.src i
    · have c2 : ¬ G.dst i = v := fun h => hne (by rw [h, c1])
      have c3 : ¬ v = G.dst i := fun h => c2 h.symm
      rw [if_pos c1.symm, if_neg c2, if_pos c1, if_neg c3, ← c1, Int.sub_zero, Int.sub_zero]
    · have c0 : ¬ G.src i = v := fun h => c1 h.symm
      rw [if_neg c0, if_neg c1]
      by_cases c2 : v = G.dst i
      · rw [if_pos c2.symm, if_pos c2, ← c2]; split <;> omega
      · have c3 : ¬ G.dst i = v := fun h => c2 h.symm
        rw [if_neg c3, if_neg c2]; simp
  rw [sm_congr fun v _ => e2 v, sm_sub, sm_one, sm_one, if_pos (hG.src i hi), if_pos (hG.dst i hi)]
/-- All together neither win nor lose. -/
theorem bal_all {G : Nw} (hG : G.Ok) (f : Nat → Int) : sm (fun v => bal G f v) G.N = 0 := by
  have := side_sum hG f (fun _ => true)
  simp only [if_true] at this
  rw [this]
  exact sm_all0 fun i _ => by omega
theorem two_bal {G : Nw} {f : Nat → Int} {s t : Nat} (h : Good G f s t) (S : Nat → Bool) : sm (fun v => if S v then bal G f v else 0) G.N = (if S s then bal G f s else 0) + (if S t then bal G f t else 0) := by
  have e : ∀ v, v < G.N → (if S v then bal G f v else 0) = (if v = s then (if S s then bal G f s else 0) else 0) + (if v = t then (if S t then bal G f t else 0) else 0) := fun v hv => by
    by_cases c1 : v = s
    · subst c1; rw [if_pos rfl, if_neg h.ne]; omega
    · by_cases c2 : v = t
      · subst c2; rw [if_neg c1, if_pos rfl]; omega
      · rw [if_neg c1, if_neg c2, h.bal v hv c1 c2]; split <;> rfl
  rw [sm_congr e, sm_add, sm_one, sm_one, if_pos h.sN, if_pos h.tN]
theorem bal_end {G : Nw} {f : Nat → Int} {s t : Nat} (h : Good G f s t) : bal G f t = - bal G f s := by
  have h1 := two_bal h (fun _ => true)
  have h2 := bal_all h.ok f
  simp only [if_true] at h1
  omega
theorem val_side {G : Nw} {f : Nat → Int} {s t : Nat} (h : Good G f s t) {S : Nat → Bool} (hs : S s = true) (ht : S t = false) :
    bal G f s = sm (fun i => (if S (G.src i) then f i else 0) - (if S (G.dst i) then f i else 0)) G.m := by
  rw [← side_sum h.ok, two_bal h, hs, ht]
  simp
theorem val_le_cut {G : Nw} {f : Nat → Int} {s t : Nat} (h : Good G f s t) {S : Nat → Bool} (hs : S s = true) (ht : S t = false) : bal G f s ≤ cut G S := by
  rw [val_side h hs ht]
  refine sm_le fun i hi => ?_
  have := h.fits i hi
  cases S (G.src i) <;> cases S (G.dst i) <;> simp <;> omega
theorem val_eq_cut {G : Nw} {f : Nat → Int} {s t : Nat} (h : Good G f s t) {S : Nat → Bool} (hs : S s = true) (ht : S t = false)
    (h1 : ∀ i, i < G.m → S (G.src i) = true → S (G.dst i) = false → f i = G.cap i) (h2 : ∀ i, i < G.m → S (G.src i) = false → S (G.dst i) = true → f i = 0) : bal G f s = cut G S := by
  rw [val_side h hs ht]
  refine sm_congr fun i hi => ?_
  have h1 := h1 i hi
  have h2 := h2 i hi
  cases c1 : S (G.src i) <;> cases c2 : S (G.dst i) <;> simp_all
theorem cut_bd {G : Nw} (hG : G.Ok) {B : Int} (hB : ∀ i, i < G.m → G.cap i ≤ B) (S : Nat → Bool) : 0 ≤ cut G S ∧ cut G S ≤ B * G.m := by
  refine ⟨sm_nn fun i hi => ?_, sm_bd fun i hi => ?_⟩
  · have := hG.cap i hi; split <;> omega
  · have := hG.cap i hi; have := hB i hi; split <;> omega
theorem bal_bd {G : Nw} {f : Nat → Int} {B : Int} (hf : ∀ i, i < G.m → 0 ≤ f i ∧ f i ≤ B) (v : Nat) : -(B * G.m) ≤ bal G f v ∧ bal G f v ≤ B * G.m := by
  have a := sm_bd (g := fun i => (if G.src i = v then f i else 0) - (if G.dst i = v then f i else 0)) (B := B) (n := G.m) fun i hi => by have := hf i hi; split <;> split <;> omega
  have b := sm_bd (g := fun i => - ((if G.src i = v then f i else 0) - (if G.dst i = v then f i else 0))) (B := B) (n := G.m) fun i hi => by have := hf i hi; split <;> split <;> omega
  rw [sm_neg] at b
  unfold bal; omega

/-- There is room by edge i from u to v. -/
def Res (G : Nw) (f : Nat → Int) (u v i : Nat) : Prop := i < G.m ∧ ((G.src i = u ∧ G.dst i = v ∧ f i < G.cap i) ∨ (G.dst i = u ∧ G.src i = v ∧ 0 < f i))
inductive Rch (G : Nw) (f : Nat → Int) (s : Nat) : Nat → Prop
  | base : Rch G f s s
  | step {u v i : Nat} (h : Rch G f s u) (r : Res G f u v i) : Rch G f s v
/-- A set that has s and from which nothing leads out has all that can be reached. -/
theorem Rch.sub {G : Nw} {f : Nat → Int} {s : Nat} {S : Nat → Bool} (hs : S s = true) (hc : ∀ u v i, S u = true → Res G f u v i → S v = true) {v : Nat} (h : Rch G f s v) : S v = true := by
  induction h with
  | base => exact hs
  | step _ r ih => exact hc _ _ _ ih r
theorem Rch.lt {G : Nw} (hG : G.Ok) {f : Nat → Int} {s v : Nat} (hs : s < G.N) (h : Rch G f s v) : v < G.N := by
  induction h with
  | base => exact hs
  | step _ r ih =>
    obtain ⟨hi, ⟨_, h, _⟩ | ⟨_, h, _⟩⟩ := r
    · exact h ▸ hG.dst _ hi
    · exact h ▸ hG.src _ hi
/-- Where t cannot be reached the cut of what can be is just what flows. -/
theorem reach_cut {G : Nw} {f : Nat → Int} {s t : Nat} (h : Good G f s t) {S : Nat → Bool} (hS : ∀ v, v < G.N → (S v = true ↔ Rch G f s v)) (ht : S t = false) : bal G f s = cut G S := by
  have hs : S s = true := (hS s h.sN).2 .base
  refine val_eq_cut h hs ht (fun i hi a b => ?_) (fun i hi a b => ?_)
  · by_cases c : f i < G.cap i
    · have := (hS _ (h.ok.dst i hi)).2 (Rch.step ((hS _ (h.ok.src i hi)).1 a) ⟨hi, .inl ⟨rfl, rfl, c⟩⟩)
      rw [b] at this; cases this
    · have := h.fits i hi; omega
  · by_cases c : 0 < f i
    · have := (hS _ (h.ok.src i hi)).2 (Rch.step ((hS _ (h.ok.dst i hi)).1 b) ⟨hi, .inr ⟨rfl, rfl, c⟩⟩)
      rw [a] at this; cases this
    · have := h.fits i hi; omega
/-- .. and no good flow has more. -/
theorem reach_most {G : Nw} {f g : Nat → Int} {s t : Nat} (h : Good G f s t) (k : Good G g s t) (hr : ¬ Rch G f s t) : bal G g s ≤ bal G f s := by
  classical
  rw [reach_cut h (S := fun v => decide (Rch G f s v)) (fun v _ => by simp) (by simpa using hr)]
  exact val_le_cut k (by simpa using Rch.base) (by simpa using hr)

/-! ### A way, and what it adds -/
/-- Steps from the end on: each an edge, and whether against it. -/
inductive Way (G : Nw) (f : Nat → Int) (s : Nat) : Nat → List (Nat × Bool) → Prop
  | nil : Way G f s s []
  | cons {u v i : Nat} {b : Bool} {l : List (Nat × Bool)} (h : Way G f s u l) (hi : i < G.m) (r : if b then G.dst i = u ∧ G.src i = v else G.src i = u ∧ G.dst i = v) : Way G f s v ((i, b) :: l)
def room (G : Nw) (f : Nat → Int) (p : Nat × Bool) : Int := if p.2 then f p.1 else G.cap p.1 - f p.1
def push1 (f : Nat → Int) (c : Int) (p : Nat × Bool) : Nat → Int := fun i => if i = p.1 then (if p.2 then f i - c else f i + c) else f i
def push (f : Nat → Int) (c : Int) : List (Nat × Bool) → Nat → Int
  | [] => f
  | p :: l => push (push1 f c p) c l

theorem bal_push1 {G : Nw} (f : Nat → Int) (c : Int) {i u v : Nat} {b : Bool} (hi : i < G.m) (hne : G.src i ≠ G.dst i) (r : if b then G.dst i = u ∧ G.src i = v else G.src i = u ∧ G.dst i = v) (x : Nat) :
    bal G (push1 f c (i, b)) x = bal G f x + (if x = u then c else 0) - (if x = v then c else 0) := by
  unfold bal
  rw [sm_upd (fun j => (if G.src j = x then push1 f c (i, b) j else 0) - (if G.dst j = x then push1 f c (i, b) j else 0)) (fun j => (if G.src j = x then f j else 0) - (if G.dst j = x then f j else 0)) i (fun j _ hj => by simp [push1, hj]) hi]
  have e : push1 f c (i, b) i = if b then f i - c else f i + c := by simp [push1]
  rw [e]
  clear e
  generalize sm (fun j => (if G.src j = x then f j else 0) - (if G.dst j = x then f j else 0)) G.m = z
  have key : ∀ y : Int, ((if G.src i = x then y else 0) - (if G.dst i = x then y else 0)) - ((if G.src i = x then f i else 0) - (if G.dst i = x then f i else 0)) = (if x = G.src i then y - f i else 0) - (if x = G.dst i then y - f i else 0) := fun y => by
    by_cases c1 : G.src i = x
    · have c2 : ¬ G.dst i = x := fun h => hne (by rw [h, c1])
      rw [if_pos c1, if_pos c1, if_neg c2, if_neg c2, if_pos c1.symm, if_neg (show ¬ x = G.dst i from fun h => c2 h.symm)]; omega
    · rw [if_neg c1, if_neg c1, if_neg (show ¬ x = G.src i from fun h => c1 h.symm)]
      by_cases c2 : G.dst i = x
      · rw [if_pos c2, if_pos c2, if_pos c2.symm]; omega
      · rw [if_neg c2, if_neg c2, if_neg (show ¬ x = G.dst i from fun h => c2 h.symm)]; omega
  rw [key]
  cases b
  · simp only [Bool.false_eq_true, if_false] at r ⊢
    obtain ⟨rfl, rfl⟩ := r
    rw [show f i + c - f i = c by omega]; omega
  · simp only [if_true] at r ⊢
    obtain ⟨rfl, rfl⟩ := r
    rw [show f i - c - f i = -c by omega]
    by_cases c1 : x = G.src i
    · rw [if_pos c1, if_pos c1]; by_cases c2 : x = G.dst i
      · rw [if_pos c2, if_pos c2]; omega
      · rw [if_neg c2, if_neg c2]; omega
    · rw [if_neg c1, if_neg c1]; by_cases c2 : x = G.dst i
      · rw [if_pos c2, if_pos c2]; omega
      · rw [if_neg c2, if_neg c2]; omega
theorem bal_push {G : Nw} (hG : G.Ok) {h : Nat → Int} {s v : Nat} {l : List (Nat × Bool)} (hw : Way G h s v l) (c : Int) (x : Nat) : ∀ f, bal G (push f c l) x = bal G f x + (if x = s then c else 0) - (if x = v then c else 0) := by
  induction hw with
  | nil => intro f; simp only [push]; omega
  | @cons u v i b l _ hi r ih =>
    intro f
    simp only [push]
    rw [ih, bal_push1 f c hi (hG.ne i hi) r]
    omega
theorem push_other {c : Int} {i : Nat} : ∀ {l : List (Nat × Bool)} (f : Nat → Int), (∀ p ∈ l, p.1 ≠ i) → push f c l i = f i
  | [], _, _ => rfl
  | p :: l, f, h => by
    simp only [push]
    rw [push_other (l := l) _ (fun q hq => h q (List.mem_cons_of_mem _ hq))]
    simp only [push1]; rw [if_neg (fun e => h p (List.mem_cons_self) e.symm)]
theorem push_at {c : Int} {i : Nat} {b : Bool} : ∀ {l : List (Nat × Bool)} (f : Nat → Int), (l.map (·.1)).Nodup → (i, b) ∈ l → push f c l i = if b then f i - c else f i + c
  | p :: l, f, hn, hm => by
    simp only [List.map_cons, List.nodup_cons] at hn
    simp only [push]
    rcases List.mem_cons.1 hm with e | hm'
    · subst e
      rw [push_other _ (fun q hq e => hn.1 (by rw [← e]; exact List.mem_map_of_mem (f := (·.1)) hq))]
      simp [push1]
    · rw [push_at (l := l) _ hn.2 hm']
      have : i ≠ p.1 := fun e => hn.1 (by rw [← e]; exact List.mem_map_of_mem (f := (·.1)) hm')
      simp [push1, this]
theorem push_fits {G : Nw} {f : Nat → Int} {c : Int} {l : List (Nat × Bool)} (hf : Fits G f) (h0 : 0 ≤ c) (hn : (l.map (·.1)).Nodup) (hr : ∀ p ∈ l, c ≤ room G f p) : Fits G (push f c l) := by
  intro i hi
  have h := hf i hi
  by_cases hm : ∃ p ∈ l, p.1 = i
  · obtain ⟨⟨j, b⟩, hp, rfl⟩ := hm
    have := hr _ hp
    rw [push_at f hn hp]
    have h : 0 ≤ f j ∧ f j ≤ G.cap j := h
    show 0 ≤ _ ∧ _ ≤ G.cap j
    cases b <;> simp [room] at this ⊢ <;> omega
  · rw [push_other f (fun p hp e => hm ⟨p, hp, e⟩)]; exact h
theorem push_good {G : Nw} {f : Nat → Int} {s t : Nat} {c : Int} {l : List (Nat × Bool)} (h : Good G f s t) (hw : Way G f s t l) (h0 : 0 ≤ c) (hn : (l.map (·.1)).Nodup) (hr : ∀ p ∈ l, c ≤ room G f p) :
    Good G (push f c l) s t ∧ bal G (push f c l) s = bal G f s + c := by
  refine ⟨⟨h.ok, push_fits h.fits h0 hn hr, h.sN, h.tN, h.ne, fun v hv h1 h2 => ?_⟩, ?_⟩
  · rw [bal_push h.ok hw, h.bal v hv h1 h2, if_neg h1, if_neg h2]; omega
  · rw [bal_push h.ok hw, if_pos rfl, if_neg h.ne]; omega
theorem Way.reach {G : Nw} {f : Nat → Int} {s t : Nat} {l : List (Nat × Bool)} (hw : Way G f s t l) (hr : ∀ p ∈ l, 0 < room G f p) : Rch G f s t := by
  induction hw with
  | nil => exact .base
  | @cons u v i b l _ hi r ih =>
    have h1 := hr (i, b) (List.mem_cons_self)
    refine .step (ih fun p hp => hr p (List.mem_cons_of_mem _ hp)) (i := i) ⟨hi, ?_⟩
    cases b
    · simp [room] at r h1; exact .inl ⟨r.1, r.2, by omega⟩
    · simp [room] at r h1; exact .inr ⟨r.1, r.2, h1⟩
end Go.Proofs.Ytfmfojogcghkkaa.Fl
