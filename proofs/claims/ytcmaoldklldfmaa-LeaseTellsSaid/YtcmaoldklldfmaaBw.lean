/- The book's calls that draw no closure: Held, Known, Sent, New, Learn. -/
import Derived.Test.YtcmaoldklldfmaaBo
import Derived.Test.YtcmaoldklldfmaaB
import Derived.Deep.QuietTactic
import Derived.BigQuiet
import Derived.StillTailTactics
import Derived.Deep.RegionWith
namespace Go.Proofs.Ytcmaoldklldfmaa.P
open Go.RowKit Go.Proofs.YtcmaoldklldfmaaW.PrintWords Go.Proofs.YtcmaoldklldfmaaW.PrintLast Go.Proofs.YtcmaoldklldfmaaW.PrintMore
attribute [local go_sem] max2_int min2_int
set_option linter.unusedSimpArgs false
set_option linter.unusedVariables false

def heldK (gs : List Gr) (s : ByteArray) : Nat → Int
  | 0 => 0
  | k + 1 => mx (heldK gs s k) ((rdG gs k).cnt s)
def heldB (u : Bool) (gs : List Gr) (s : ByteArray) : Int := if u then -1 else heldK gs s gs.length
def HeldPost (w : World) (r : Int) (e : Ending) (w' : World) : Prop := e = .returned (.int .i64 r) ∧ Below w.heap.size w w'

set_option maxHeartbeats 800000 in
theorem Held_any {N b : Nat} {u : Bool} {t : Int} {v : Value} {gs : List Gr} {w : World} (s : ByteArray) (hs : s.size ≤ maxLen) (h : Bk N b u t v gs w) :
    Calls Try.prog 32 #[.pointer (some ⟨b, 0, none⟩), .string s] w (HeldPost w (heldB u gs s)) := by
  obtain ⟨c0, c1, c2, _, _, _⟩ := h.cells
  cases u
  · obtain ⟨A, c, rfl, hlc, hC⟩ := Kd.R_reads h.row
    have hm := Kd.C_max hC
    have HC := Lib.hid hC
    have HB := Lib.hid h
    have HS := Lib.hid hs
    clear h hC hs
    go_enter Try.func32, Try.ntmps32
    go_wp2_with fail
    clear c0 c1 c2
    go_loopw [5, 17] (fun i5 i17 wr => ∃ k : Nat, k ≤ gs.length ∧ i17 = .int .i64 k ∧ i5 = .int .i64 (heldK gs s k) ∧ Hid (Below w.heap.size w wr)) (fun _ i17 _ => gs.length - (intOf i17).toNat)
    case atStart => exact ⟨0, Nat.zero_le _, rfl, rfl, Below.refl _ _⟩
    case round =>
      obtain ⟨k, hk, rfl, rfl, HW⟩ := hrel
      by_cases hlt : k < gs.length
      · obtain ⟨ad, rfl, hx0, hx1, hx2⟩ := at_G (Kd.C_below HC.out HW.out) (k : Int) (by omega) (by omega)
        rw [Int.toNat_natCast] at hx0 hx1 hx2
        have hmem : rdG gs k ∈ gs := by unfold rdG; rw [Int.toNat_natCast, List.getD_eq_getElem?_getD, List.getElem?_eq_getElem hlt]; exact List.getElem_mem _
        obtain ⟨_, nm, f, hI, hL⟩ := (HB.out.below HW.out).gr _ hmem
        have HK : Hid (heldK gs s (k + 1) = mx (heldK gs s k) ((rdG gs k).cnt s)) := Lib.hid rfl
        generalize rdG gs k = g at *
        have hl : (Instr.lookup 54 (.map (some g.m)) (.string s) false).run Try.prog (wr.alloc (.cells #[.int .i64 g.ver, .int .i64 g.til, .map (some g.m)] 56)) = .ok (.int .i64 (g.cnt s)) (wr.alloc (.cells #[.int .i64 g.ver, .int .i64 g.til, .map (some g.m)] 56)) := by
          have hq := (hI.kept (World.grownBy_alloc wr (.cells #[.int .i64 g.ver, .int .i64 g.til, .map (some g.m)] 56) none) (by simp)).look law9 Try.underlying54 (zero3 _) (key9 HS.out)
          rwa [hL s] at hq
        have HI := Lib.hid hI
        have HL := Lib.hid hL
        clear hI hL hmem
        go_wp2_with fail
        go_roundw
        case rel => exact ⟨k + 1, by omega, by go_num, by rw [HK.out]; rfl, HW.out.alloc HW.out.size _⟩
        case measure => simp [intOf]; omega
      · obtain rfl : k = gs.length := by omega
        go_wp2
        go_ret
        exact ⟨rfl, HW.out⟩
  · clear h
    go_enter Try.func32, Try.ntmps32
    go_wp2
    go_ret
    exact ⟨rfl, Below.refl _ _⟩

theorem Known_b {N b : Nat} {u : Bool} {t : Int} {v : Value} {gs : List Gr} {w : World} (h : Bk N b u t v gs w) :
    Calls Try.prog 17 #[.pointer (some ⟨b, 0, none⟩)] w fun e w' => e = .returned (.bool (!u)) ∧ w = w' := by
  obtain ⟨c0, c1, c2, _, _, _⟩ := h.cells
  clear h
  go_enter Try.func17, Try.ntmps17
  go_wp2_with fail
  go_ret
  exact ⟨rfl, rfl⟩

/-- What Sent counts. -/
def num (n : Int) : Int := mn (mx n 0) 1000
theorem num_bd (n : Int) : 0 ≤ num n ∧ num n ≤ 1000 := by unfold num mn mx; split <;> (try split) <;> omega
def cntK (l : List S42) : Nat → ByteArray → Int
  | 0 => fun _ => 0
  | k + 1 => fun s => if s = (rd_T42 l k).f0 then cntK l k s + num (rd_T42 l k).f2 else cntK l k s
theorem cntK_bd (l : List S42) : ∀ (k : Nat) (s : ByteArray), 0 ≤ cntK l k s ∧ cntK l k s ≤ 1000 * k
  | 0, s => by simp [cntK]
  | k + 1, s => by
    have := cntK_bd l k s
    have := num_bd (rd_T42 l k).f2
    simp only [cntK]
    split <;> omega

structure SW (w0 : World) (bg m : Nat) (ver til : Int) (nm : Nat) (f : Value → Option Value) (W : World) : Prop where
  bel : Below w0.heap.size w0 W
  lo : w0.heap.size ≤ bg ∧ w0.heap.size ≤ m
  bx : W.heap[bg]? = some (Obj.cells #[.int .i64 ver, .int .i64 til, .map (some m)] 56 (0, 0))
  mp : Mp.Is Try.prog 9 W m nm f

set_option maxHeartbeats 1600000 in
theorem Sent_any {N b : Nat} {u : Bool} {t : Int} {v : Value} {gs : List Gr} {w : World} (ver til : Int) (A : Option Addr) (c : Nat) (l : List S42) (hl : Kd.C k42 w A l.length l) (hs : ∀ i : Nat, (rd_T42 l i).f0.size ≤ maxLen) (hll : l.length ≤ 1000000) (hgl : gs.length ≤ 1000000) (hN : N ≤ w.heap.size) (h : Bk N b u t v gs w) :
    Calls Try.prog 26 #[.pointer (some ⟨b, 0, none⟩), .int .i64 ver, .int .i64 til, .slice A l.length c] w fun e w' => e = .returned (.tuple #[]) ∧ ∃ v' m, Bk N b u t v' (gs ++ [⟨ver, til, cntK l l.length, m⟩]) w' ∧ Ch N w w' := by
  have HL := Lib.hid hl
  have HS := Lib.hid hs
  have HLL := Lib.hid hll
  have HGL := Lib.hid hgl
  have HN := Lib.hid hN
  have HB := Lib.hid h
  clear hl hs hgl hN h
  have run_mm := @run_makeMap Try.prog
  go_enter Try.func26, Try.ntmps26
  go_wp2_with fail
  clear run_mm
  obtain ⟨M, HM⟩ : ∃ M, Hid (M = w.heap.size) := ⟨_, rfl⟩
  have hMs : M + 1 < 9223372036854775807 + M := by omega
  go_loopw [17] (fun i17 wr => ∃ (k : Nat) (f : Value → Option Value), k ≤ l.length ∧ i17 = .int .i64 k ∧ Hid (SW w (w.heap.size + 1) w.heap.size ver til k f wr) ∧ Hid (LV f (cntK l k))) (fun i17 _ => l.length - (intOf i17).toNat)
  case atStart =>
    refine ⟨0, fun _ => none, Nat.zero_le _, rfl, ⟨((Below.refl _ _).alloc (Nat.le_refl _) _).alloc (by simp) _, by omega, ?_, ?_⟩, fun s => rfl⟩
    · have := heap_alloc_new (w.alloc (.map #[] 0)) (Obj.cells #[Value.int IntKind.i64 ver, Value.int IntKind.i64 til, Value.map (some w.heap.size)] 56)
      simpa using this
    · exact (Mp.Is.made w Try.prog 9).kept (World.grownBy_alloc _ _ none) (by simp)
  case round =>
    obtain ⟨k, f, hk, rfl, HW, HF⟩ := hrel
    have hm := Kd.C_max HL.out
    by_cases hlt : k < l.length
    · obtain ⟨ad, rfl, hx0, hx1, hx2⟩ := at_T42 (Kd.C_below HL.out HW.out.bel) (k : Int) (by omega) (by omega)
      rw [Int.toNat_natCast] at hx0 hx1 hx2
      have hs0 := HS.out k
      have HK : Hid (cntK l (k + 1) = fun s => if s = (rd_T42 l k).f0 then cntK l k s + num (rd_T42 l k).f2 else cntK l k s) := Lib.hid rfl
      generalize hx : rd_T42 l k = x at *
      clear hx
      have hcb := cntK_bd l k x.f0
      have hnb := num_bd x.f2
      have hll := HLL.out
      have hwr : wrap64 (cntK l k x.f0 + num x.f2) = cntK l k x.f0 + num x.f2 := by unfold wrap64; omega
      have hbx : wr.cell? ⟨w.heap.size + 1, 2, none⟩ = some (.map (some w.heap.size)) := by simp [World.cell?, HW.out.bx]
      have hl : (Instr.lookup 54 (.map (some w.heap.size)) (.string x.f0) false).run Try.prog (wr.alloc (.cells #[.string x.f0, .string x.f1, .int .i64 x.f2] 42)) = .ok (.int .i64 (cntK l k x.f0)) (wr.alloc (.cells #[.string x.f0, .string x.f1, .int .i64 x.f2] 42)) := by
        have hq := (HW.out.mp.kept (World.grownBy_alloc wr (.cells #[.string x.f0, .string x.f1, .int .i64 x.f2] 42) none) (by simp)).look law9 Try.underlying54 (zero3 _) (key9 hs0)
        rwa [HF.out x.f0] at hq
      have HS0 := Lib.hid hs0
      have HWR := Lib.hid hwr
      have hsz := lt_of_some HW.out.bx
      have HMP := Lib.hid (HW.out.mp.kept (World.grownBy_alloc wr (.cells #[.string x.f0, .string x.f1, .int .i64 x.f2] 42) none) (by simp))
      have HNum : Hid (num x.f2 = mn (mx x.f2 0) 1000) := Lib.hid rfl
      have hkm : k < maxLen := by unfold maxLen; omega
      have fin : ∀ (y : Int) (w1 : World), y = num x.f2 → Mp.Is Try.prog 9 w1 w.heap.size (k + 1) (Mp.up f (.string x.f0) (.int .i64 (wrap64 (cntK l k x.f0 + y)))) → (wr.alloc (.cells #[.string x.f0, .string x.f1, .int .i64 x.f2] 42)).grownBy w1 (some w.heap.size) →
          SW w (w.heap.size + 1) w.heap.size ver til (k + 1) (Mp.up f (.string x.f0) (.int .i64 (wrap64 (cntK l k x.f0 + y)))) w1 ∧ LV (Mp.up f (.string x.f0) (.int .i64 (wrap64 (cntK l k x.f0 + y)))) (cntK l (k + 1)) := by
        intro y w1 hy hI hg
        subst hy
        rw [HWR.out] at hI ⊢
        refine ⟨⟨?_, HW.out.lo, ?_, hI⟩, ?_⟩
        · exact (HW.out.bel.alloc HW.out.bel.size _).grown hg (by simp; omega) (fun k hk => by cases hk; exact Nat.le_refl _)
        · exact (hg.block _ (by simp; omega) (by simp)).trans ((Below.heap_alloc _ _ _ hsz).trans HW.out.bx)
        · rw [HK.out]
          have := HF.out.up x.f0 (cntK l k x.f0 + num x.f2)
          intro s
          rw [this s]
          by_cases e : s = x.f0
          · subst e; simp
          · simp [e]
      have FIN := Lib.hid fin
      clear hs0 hwr hcb hnb fin HW HF HK
      by_cases h1 : x.f2 < 0
      · have e1 : Hid ((0 : Int) = num x.f2) := Lib.hid (by rw [HNum.out]; unfold mx mn; simp [h1])
        have FI0 := FIN.out 0
        rw [Int.add_zero] at FI0
        have FI := Lib.hid FI0
        clear FI0
        go_wp2_with (at_mapUpdate; refine Mp.wpList_up rfl _ _ _ 54 rfl 9 3 law9 Try.underlying54 w.heap.size _ _ rfl HMP.out hkm (.string x.f0) (.int .i64 (wrap64 (cntK l k x.f0))) _ rfl (by rfl) (key9 HS0.out) ?_; intro w1 hIs hg1)
        go_roundw
        case rel => exact ⟨k + 1, _, by omega, by go_num, FI.out _ e1.out hIs hg1⟩
        case measure => simp [intOf]; omega
      · by_cases h2 : 1000 < x.f2
        · have e1 : Hid ((1000 : Int) = num x.f2) := Lib.hid (by rw [HNum.out]; unfold mx mn; simp [h1, h2])
          go_wp2_with (at_mapUpdate; refine Mp.wpList_up rfl _ _ _ 54 rfl 9 3 law9 Try.underlying54 w.heap.size _ _ rfl HMP.out hkm (.string x.f0) (.int .i64 (wrap64 (cntK l k x.f0 + 1000))) _ rfl (by rfl) (key9 HS0.out) ?_; intro w1 hIs hg1)
          go_roundw
          case rel => exact ⟨k + 1, _, by omega, by go_num, FIN.out _ _ e1.out hIs hg1⟩
          case measure => simp [intOf]; omega
        · have e1 : Hid ((x.f2 : Int) = num x.f2) := Lib.hid (by rw [HNum.out]; unfold mx mn; simp [h1, h2])
          go_wp2_with (at_mapUpdate; refine Mp.wpList_up rfl _ _ _ 54 rfl 9 3 law9 Try.underlying54 w.heap.size _ _ rfl HMP.out hkm (.string x.f0) (.int .i64 (wrap64 (cntK l k x.f0 + x.f2))) _ rfl (by rfl) (key9 HS0.out) ?_; intro w1 hIs hg1)
          go_roundw
          case rel => exact ⟨k + 1, _, by omega, by go_num, FIN.out _ _ e1.out hIs hg1⟩
          case measure => simp [intOf]; omega
    · obtain rfl : k = l.length := by omega
      have HW8 : Hid (SW w (w.heap.size + 1) w.heap.size ver til l.length f wr.drew) := Lib.hid ⟨HW.out.bel.drew, HW.out.lo, HW.out.bx, HW.out.mp.of_block rfl⟩
      have HB8 : Hid (Bk N b u t v gs wr.drew) := Lib.hid ((HB.out.below HW.out.bel).drew)
      have HN8 : Hid (N ≤ wr.drew.heap.size) := Lib.hid (Nat.le_trans HN.out HW.out.bel.size)
      have t0 : wr.drew.cell? ⟨b, 2, none⟩ = some v := HB8.out.cells.2.2.1
      have t1 : wr.drew.cell? ⟨w.heap.size + 1, 0, none⟩ = some (.int .i64 ver) := by simp [World.cell?, HW8.out.bx]
      have t2 : wr.drew.cell? ⟨w.heap.size + 1, 1, none⟩ = some (.int .i64 til) := by simp [World.cell?, HW8.out.bx]
      have t3 : wr.drew.cell? ⟨w.heap.size + 1, 2, none⟩ = some (.map (some w.heap.size)) := by simp [World.cell?, HW8.out.bx]
      go_wp2_with fail
      refine start_ (n := 11) (S := fun w' => w'.cell? ⟨b, 2, none⟩ = some v ∧ w'.cell? ⟨w.heap.size + 1, 0, none⟩ = some (.int .i64 ver) ∧ w'.cell? ⟨w.heap.size + 1, 1, none⟩ = some (.int .i64 til) ∧ w'.cell? ⟨w.heap.size + 1, 2, none⟩ = some (.map (some w.heap.size))) (ds := [7,10]) #[false, false, false, false, false, false, false, false, false, false, false] (by kernel_rfl) rfl rfl ⟨t0, t1, t2, t3⟩ (fun hHeld => ?_)
      clear t0 t1 t2 t3 HL HS HLL
      generalize wr.drew = w8 at HW8 HB8 HN8 hHeld ⊢
      refine pure_ (i := 0) (N := (some 32)) (v := ?_) (a' := ?_) #[true, false, false, false, false, false, false, false, false, false, false] rfl rfl (by kernel_rfl) (fun _ _ _ h => h) (Or.inl ⟨by rfl, ?_⟩) ?_ ?_
      rotate_left
      · intro w'
        go_simp
        with_reducible rfl
      rotate_left
      · simp only [Act.put, List.setIfInBounds_toArray, List.set_cons_zero, List.set_cons_succ, i64_w, i32_w]
        rfl
      refine pure_ (i := 1) (N := (some 33)) (v := ?_) (a' := ?_) #[true, true, false, false, false, false, false, false, false, false, false] rfl rfl (by kernel_rfl) (fun _ _ _ h => h) (Or.inl ⟨by rfl, ?_⟩) ?_ ?_
      rotate_left
      · intro w'
        go_simp
        with_reducible rfl
      rotate_left
      · simp only [Act.put, List.setIfInBounds_toArray, List.set_cons_zero, List.set_cons_succ, i64_w, i32_w]
        rfl
      refine pure_ (i := 2) (N := (some 34)) (v := ?_) (a' := ?_) #[true, true, true, false, false, false, false, false, false, false, false] rfl rfl (by kernel_rfl) (fun _ _ _ h => h) (Or.inl ⟨by rfl, ?_⟩) ?_ ?_
      rotate_left
      · intro w'
        go_simp
        with_reducible rfl
      rotate_left
      · simp only [Act.put, List.setIfInBounds_toArray, List.set_cons_zero, List.set_cons_succ, i64_w, i32_w]
        rfl
      refine pure_ (i := 3) (N := (some 35)) (v := ?_) (a' := ?_) #[true, true, true, true, false, false, false, false, false, false, false] rfl rfl (by kernel_rfl) (fun _ _ _ h => h) (Or.inl ⟨by rfl, ?_⟩) ?_ ?_
      rotate_left
      · intro w'
        go_simp
        with_reducible rfl
      rotate_left
      · simp only [Act.put, List.setIfInBounds_toArray, List.set_cons_zero, List.set_cons_succ, i64_w, i32_w]
        rfl
      refine take_ (i := 4) (N := (some 36)) (v := ?_) (a' := ?_) #[true, true, true, true, true, false, false, false, false, false, false] rfl rfl (by kernel_rfl) (fun _ _ _ h => h) (Or.inl ⟨by rfl, ?_⟩) hHeld ?_ ?_
      rotate_left
      · rintro w' ⟨e0, e1, e2, e3⟩
        go_simp
        with_reducible rfl
      rotate_left
      · simp only [Act.put, List.setIfInBounds_toArray, List.set_cons_zero, List.set_cons_succ, i64_w, i32_w]
        rfl
      refine take_ (i := 5) (N := (some 37)) (v := ?_) (a' := ?_) #[true, true, true, true, true, true, false, false, false, false, false] rfl rfl (by kernel_rfl) (fun _ _ _ h => h) (Or.inl ⟨by rfl, ?_⟩) hHeld ?_ ?_
      rotate_left
      · rintro w' ⟨e0, e1, e2, e3⟩
        go_simp
        with_reducible rfl
      rotate_left
      · simp only [Act.put, List.setIfInBounds_toArray, List.set_cons_zero, List.set_cons_succ, i64_w, i32_w]
        rfl
      refine one_ (i := 6) (N := (some 38)) #[true, true, true, true, true, true, true, false, false, false, false] rfl rfl (by kernel_rfl) (by decide) (fun K hK => ?_)
      refine value_ (w1 := ?_) (v := ?_) (by rfl) rfl ?_ ?_
      rotate_left 2
      · go_simp
        first | done | rfl | (constructor <;> rfl)
      refine hK.out _ _ ?_ (fun _ => ?_)
      · exact ⟨Lib.cell?_alloc_some _ hHeld.1, Lib.cell?_alloc_some _ hHeld.2.1, Lib.cell?_alloc_some _ hHeld.2.2.1, Lib.cell?_alloc_some _ hHeld.2.2.2⟩
      clear hK K
      refine norm_ (a' := ?_) ?_ ?_
      rotate_left
      · show Act.put _ (some 38) _ = _
        simp only [Act.put, List.setIfInBounds_toArray, List.set_cons_zero, List.set_cons_succ, i64_w, i32_w]
        rfl
      clear hHeld
      refine last_ (i := 7) (N := (some 39)) #[true, true, true, true, true, true, true, true, false, false, false] rfl rfl (by kernel_rfl) (by decide) (fun K hK => ?_)
      refine Kd.R_append_step kG (w0 := w8) N (by rfl) (.tmp 36) (.tmp 38) 50 56 (.agg #[.int .i64 0, .int .i64 0, .map none]) 24 rfl Try.underlying50 info56 rfl (by decide) (by omega) v gs (⟨ver, til, cntK l l.length, w.heap.size⟩ : Gr) [.int .i64 ver, .int .i64 til, .map (some w.heap.size)] (fun _ => True) (fun _ => False) rfl rfl (kG_mkM _ _ _ (⟨ver, til, cntK l l.length, w.heap.size⟩ : Gr)) (fun _ hk => hk.elim) (fun _ _ => trivial) HB8.out.row (Below.refl _ _) HN8.out (by have := HGL.out; omega) ?_
      intro v1 w1 ho1 hb1 hg1 hat1
      have HO1 := Lib.hid ho1
      have HG1 := Lib.hid hg1
      clear ho1 hb1 hg1 hat1
      refine hK.out _ _ ?_
      clear hK K
      refine norm_ (a' := ?_) ?_ ?_
      rotate_left
      · show Act.put _ (some 39) _ = _
        simp only [Act.put, List.setIfInBounds_toArray, List.set_cons_zero, List.set_cons_succ, i64_w, i32_w]
        rfl
      refine pure_ (i := 8) (N := (some 40)) (v := ?_) (a' := ?_) #[true, true, true, true, true, true, true, true, true, false, false] rfl rfl (by kernel_rfl) (fun _ _ _ h => h) (Or.inl ⟨by rfl, ?_⟩) ?_ ?_
      rotate_left
      · intro w'
        go_simp
        with_reducible rfl
      rotate_left
      · simp only [Act.put, List.setIfInBounds_toArray, List.set_cons_zero, List.set_cons_succ, i64_w, i32_w]
        rfl
      refine pure_ (i := 9) (N := (some 41)) (v := ?_) (a' := ?_) #[true, true, true, true, true, true, true, true, true, true, false] rfl rfl (by kernel_rfl) (fun _ _ _ h => h) (Or.inl ⟨by rfl, ?_⟩) ?_ ?_
      rotate_left
      · intro w'
        go_simp
        with_reducible rfl
      rotate_left
      · simp only [Act.put, List.setIfInBounds_toArray, List.set_cons_zero, List.set_cons_succ, i64_w, i32_w]
        rfl
      obtain ⟨hbx1, _, _, _⟩ := HB8.out.row_grown HG1.out
      have f1 : w1.frozen? ⟨b, 2, none⟩ = false := by simp [World.frozen?, hbx1]
      have f2 : w1.cell? ⟨b, 2, none⟩ = some v := by simp [World.cell?, hbx1]
      have HBX1 := Lib.hid hbx1
      clear hbx1
      have HO2 := Lib.hid HO1.out
      obtain ⟨A1, c1, hv1⟩ := Kd.R_slice HO2.out
      rw [List.length_append] at hv1
      subst hv1
      refine last_ (i := 10) (N := none) #[true, true, true, true, true, true, true, true, true, true, true] rfl rfl (by kernel_rfl) (by decide) (fun K hK => ?_)
      refine skip_ (w1 := ?_) (by rfl) rfl ?_ ?_
      rotate_left
      · go_simp
        first | done | rfl
      refine hK.out _ _ ?_
      clear hK K
      refine done_ (by kernel_rfl) ?_
      obtain ⟨_, hgr1, hch1, hmp1⟩ := HB8.out.row_grown HG1.out
      have hM1 : Mp.Is Try.prog 9 w1 w.heap.size l.length f := by
        obtain ⟨es, cc, hm⟩ := HW8.out.mp.isMap
        exact HW8.out.mp.of_block ((hmp1 _ _ _ hm).trans hm.symm)
      have lo8 := HB8.out.lo
      have hgl2 : (gs ++ [(⟨ver, til, cntK l l.length, w.heap.size⟩ : Gr)]).length = gs.length + 1 := by simp
      have HO := Lib.hid HO1.out
      go_end0
      refine ⟨rfl, _, w.heap.size, Bk.setV lo8 HBX1.out HO1.out (fun g hg => ?_), ((Ch.of_below (HW8.out.bel)).trans hch1).trans (ch_set lo8 HBX1.out _ _)⟩
      rcases List.mem_append.1 hg with hg | hg
      · exact hgr1 g hg
      · rw [List.mem_singleton] at hg
        subst hg
        exact ⟨HN.out, _, _, hM1, HF.out⟩
end Go.Proofs.Ytcmaoldklldfmaa.P
