/- share.Trim: its two measures, and the keys of its maps. -/
import Derived.Test.YtpdgdogcfmfakaaPx0
import Derived.Test.YtpdgdogcfmfakaaMp
import Derived.Lib.Hide
import Derived.Deep.QuietTactic
import Derived.BigQuiet
import Derived.StillTailTactics
namespace Go.Proofs.Ytpdgdogcfmfakaa.P
open Go.RowKit Go.Proofs.YtpdgdogcfmfakaaW.PrintWords Go.Proofs.YtpdgdogcfmfakaaW.PrintLast Go.Proofs.YtpdgdogcfmfakaaW.PrintMore
open Go.Proofs.Ytpdgdogcfmfakaa.Mp
set_option linter.unusedSimpArgs false
set_option linter.unusedVariables false

def num (n : Int) : Int := mn (mx n 0) 1000
theorem num_bd (n : Int) : 0 ≤ num n ∧ num n ≤ 1000 := by unfold num mn mx; split <;> (try split) <;> omega

set_option maxHeartbeats 400000 in
theorem num_any (n : Int) (w : World) : Calls Try.prog 22 #[.int .i64 n] w fun e w' => e = .returned (.int .i64 (num n)) ∧ w = w' := by
  unfold num mn mx
  by_cases h1 : n < 0
  · go_enter Try.func22, Try.ntmps22
    go_wp2
    all_goals (go_ret; exact ⟨by simp [h1], rfl⟩)
  · by_cases h2 : 1000 < n
    · go_enter Try.func22, Try.ntmps22
      go_wp2
      all_goals (go_ret; exact ⟨by simp [h1, h2], rfl⟩)
    · go_enter Try.func22, Try.ntmps22
      go_wp2
      all_goals (go_ret; exact ⟨by simp [h1, h2], rfl⟩)

def Quiet1 (v : Value) (w : World) (e : Ending) (w' : World) : Prop := e = .returned v ∧ ∃ m, w' = w.drewN m

set_option maxHeartbeats 400000 in
theorem most3_any (i : Nat) (Bt Bp g : Nat) (A : Option Addr) (c : Nat) (l : List S40) (part : List Int) (w : World) (hi : i < l.length) (hpl : part.length = l.length)
    (hA : Kd.C k40 w A l.length l) (ht : w.cell? ⟨Bt, 0, none⟩ = some (.slice A l.length c)) (hp : w.cell? ⟨Bp, 0, none⟩ = some (.slice (some ⟨g, 0, none⟩) l.length l.length))
    (hg : w.cell? ⟨g, i, none⟩ = some (.int .i64 (rd part i))) :
    Calls Try.prog 28 #[.int .i64 i, .pointer (some ⟨Bt, 0, none⟩), .pointer (some ⟨Bp, 0, none⟩)] w (Quiet1 (.int .i64 (wrap64 (num (rd_T40 l i).f2 - rd part i))) w) := by
  have hm := Kd.C_max hA
  obtain ⟨ad, rfl, hx0, hx1, hx2⟩ := at_T40 hA (i : Int) (by omega) (by omega)
  rw [Int.toNat_natCast] at hx0 hx1 hx2
  clear hA
  go_enter Try.func28, Try.ntmps28
  go_wp2_with fail
  go_quiet ((go_at_call 22; exact Calls.quiet_of_same ((num_any _ _).mono fun _ _ h => ⟨h.1, h.2.symm⟩)))
  go_wp2
  go_ret
  exact ⟨by simp [i64_w], nq, rfl⟩

open Go.Maps (Keyed string_keyed)
theorem law9 : Keyed Try.prog 9 := string_keyed Try.underlying9
theorem law51 : Keyed Try.prog 51 := Keyed.of_law (deep_law_laid (by kernel_rfl) (m := 3) (by decide) (of_decide_eq_true (by kernel_rfl)) (by kernel_rfl) (by kernel_rfl))
theorem zero3 (w : World) : (zeroValue 3).run Try.prog w = .ok (.int .i64 0) w := by kernel_rfl
def spotV (a b : ByteArray) : Value := .agg #[.string a, .string b]
theorem key9 {s : ByteArray} (h : s.size ≤ maxLen) : keyOf Try.prog 9 (.string s) = some (.string s.data.toList) := Go.WideMaps.keyOf_string_mk Try.underlying9 h
theorem lits9 (d : Nat) {s : ByteArray} (h : s.size ≤ maxLen) : Try.prog.keyLits (d + 1) 9 [.string s] = some [.string s.data.toList] := by
  simp only [Program.keyLits, Try.underlying9]; rw [if_pos h]
theorem key51 (a b : ByteArray) (ha : a.size ≤ maxLen) (hb : b.size ≤ maxLen) : ∃ kl, keyOf Try.prog 51 (spotV a b) = some kl := by
  have hk : Try.prog.keyType 51 = true := by kernel_rfl
  have hc9 : Try.prog.cellsOf 9 = 1 := by kernel_rfl
  have hc51 : Try.prog.cellsOf 51 = 2 := by kernel_rfl
  obtain ⟨d, hd⟩ : ∃ d, Try.prog.types.size = d + 1 := ⟨Try.prog.types.size - 1, by have : 0 < Try.prog.types.size := of_decide_eq_true (by kernel_rfl); omega⟩
  have hf : Value.formed Try.prog 51 (spotV a b) = true := by simp [Value.formed, spotV, Try.underlying51, hc51]
  have hl : Try.prog.keyLits (Try.prog.types.size + 1) 51 (spotV a b).cells.toList = some [.string a.data.toList, .string b.data.toList] := by
    rw [hd]
    have e1 := lits9 d ha
    have e2 := lits9 d hb
    unfold Program.keyLits
    simp [Try.underlying51, spotV, Value.cells, hc51, hc9, e1, e2]
  refine ⟨.string (keyBytes [.string a.data.toList, .string b.data.toList]), ?_⟩
  unfold keyOf
  rw [Try.underlying51]
  simp only [hk, hf, hl, Bool.and_self, if_true, Option.map_some]

set_option maxHeartbeats 800000 in
theorem most2_any (i : Nat) (Bt Bm M n : Nat) (A : Option Addr) (c : Nat) (l : List S40) (fW : Value → Option Value) (x : Int) (w : World) (hi : i < l.length)
    (hA : Kd.C k40 w A l.length l) (ht : w.cell? ⟨Bt, 0, none⟩ = some (.slice A l.length c)) (hp : w.cell? ⟨Bm, 0, none⟩ = some (.map (some M)))
    (h1 : (rd_T40 l i).f0.size ≤ maxLen) (h2 : (rd_T40 l i).f1.size ≤ maxLen) (hM : Is Try.prog 51 w M n fW) (hx : (fW (spotV (rd_T40 l i).f0 (rd_T40 l i).f1)).getD (.int .i64 0) = .int .i64 x) :
    Calls Try.prog 27 #[.int .i64 i, .pointer (some ⟨Bt, 0, none⟩), .pointer (some ⟨Bm, 0, none⟩)] w (Quiet1 (.int .i64 (mn (num (rd_T40 l i).f2) x)) w) := by
  have hm := Kd.C_max hA
  obtain ⟨kl, hkl⟩ := key51 _ _ h1 h2
  have hlook : ∀ m, (Instr.lookup 49 (.map (some M)) (.agg #[.string (rd_T40 l i).f0, .string (rd_T40 l i).f1]) false).run Try.prog (w.drewN m) = .ok (.int .i64 x) (w.drewN m) := fun m => by
    have hM' : Is Try.prog 51 (w.drewN m) M n fW := hM.of_block rfl
    rw [← hx]
    exact hM'.look law51 Try.underlying49 (zero3 _) hkl
  obtain ⟨ad, rfl, hx0, hx1, hx2⟩ := at_T40 hA (i : Int) (by omega) (by omega)
  rw [Int.toNat_natCast] at hx0 hx1 hx2
  clear hA hx hM hkl h1 h2
  generalize (rd_T40 l i).f0 = s0 at *
  generalize (rd_T40 l i).f1 = s1 at *
  generalize (rd_T40 l i).f2 = v2 at *
  by_cases hmn : x < num v2
  · have e : mn (num v2) x = x := by unfold mn; rw [if_pos hmn]
    rw [e]
    clear e
    go_enter Try.func27, Try.ntmps27
    go_wp2_with fail
    go_quiet ((go_at_call 22; exact Calls.quiet_of_same ((num_any _ _).mono fun _ _ h => ⟨h.1, h.2.symm⟩)))
    go_wp2
    go_ret
    exact ⟨rfl, nq, rfl⟩
  · have e : mn (num v2) x = num v2 := by unfold mn; rw [if_neg hmn]
    rw [e]
    clear e
    go_enter Try.func27, Try.ntmps27
    go_wp2_with fail
    go_quiet ((go_at_call 22; exact Calls.quiet_of_same ((num_any _ _).mono fun _ _ h => ⟨h.1, h.2.symm⟩)))
    go_wp2
    go_ret
    exact ⟨rfl, nq, rfl⟩
end Go.Proofs.Ytpdgdogcfmfakaa.P
