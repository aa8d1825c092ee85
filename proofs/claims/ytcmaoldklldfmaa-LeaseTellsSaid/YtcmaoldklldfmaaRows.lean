/-
  No cell of these rows narrows 'for every input' (looked for: loops, veiled, ifaces, maps, wideKeys, modest, calm, conditions, laid).
  DERIVED. THE GIVEN ROWS OF THIS SEAT. 6 by the template 'for every input the law returns true; each argument reads behind the call as it read before'; 0 by the template 'total and deterministic' (their statements: YtcmaoldklldfmaaTotals.lean).
  GIVEN WITH THE SEED: the statements are not yours to turn. If you find one false, say at which input.
  Laid BY PROGRAM, IN A SANDBOX (cutbox-rows.mjs): the forced cells as the released guide's own fill.sh prints them over the translation 6f949be72080ec6d… (all of the seat's roots in one cut). By AI agents, Wed Nov 11 2026. No macro, syntax, notation, axiom, sorry.
-/
import Derived.Test.YtcmaoldklldfmaaChecked
import GoSem.Claim
import GoSem.ClaimJoined
import GoSem.ClaimMapViews
import Derived.JoinedTies
import Derived.KernelRfl
namespace Go.Proofs.Ytcmaoldklldfmaa
/- THE CELL 'sum', in the pinned program and in every row, IS THE sha256 OF THE DUMP (.gsa) THAT YtcmaoldklldfmaaProg.lean LOADS. Nothing in Lean hashes anything: it is a label: what it is worth is what the hold of that sum in a sandbox is worth. -/
noncomputable def Try.pinned : Pinned := { name := "ytcmaoldklldfmaa", sum := "6f949be72080ec6d6415216c5e25436910e028d18ef7e8e36788b99a1210239c", checked := Try.checked }
namespace Rows
def none {H : Type} : Left H := { results := [], args := [] }

/-- 'billetlaw14.LeaseSafe': WHATEVER THE INPUT: true; the input reads as it did. -/
def leaseSafeSpec : ChangeSpec := { name := "leaseSafe", fn := fun _ => fun
  | [d1, d2, d3, d4, d5, d6] => { results := [.lit (.bool true)], args := [d1, d2, d3, d4, d5, d6] }
  | _ => none }
def leaseSafeRow : OpenClaim := { program := "ytcmaoldklldfmaa", sum := "6f949be72080ec6d6415216c5e25436910e028d18ef7e8e36788b99a1210239c", func := "billet/billetlaw14.LeaseSafe", spec := "leaseSafe", unfollowed := true, recurses := true, apart := false }
def LeaseSafeSaid : Prop := leaseSafeRow.holds Try.pinned (OpenSpec.ofChange leaseSafeSpec)

/-- ITS FALSE NEIGHBOUR: 'it returns false'. Refute it at one input. -/
def leaseSafeWrong : ChangeSpec := { name := "leaseSafe", fn := fun _ => fun
  | [d1, d2, d3, d4, d5, d6] => { results := [.lit (.bool false)], args := [d1, d2, d3, d4, d5, d6] }
  | _ => none }
def LeaseSafeWrongFalsely : Prop := leaseSafeRow.holds Try.pinned (OpenSpec.ofChange leaseSafeWrong)

/-- 'billetlaw14.LeaseKnown': WHATEVER THE INPUT: true; the input reads as it did. -/
def leaseKnownSpec : ChangeSpec := { name := "leaseKnown", fn := fun _ => fun
  | [d1, d2, d3, d4, d5, d6, d7] => { results := [.lit (.bool true)], args := [d1, d2, d3, d4, d5, d6, d7] }
  | _ => none }
def leaseKnownRow : OpenClaim := { program := "ytcmaoldklldfmaa", sum := "6f949be72080ec6d6415216c5e25436910e028d18ef7e8e36788b99a1210239c", func := "billet/billetlaw14.LeaseKnown", spec := "leaseKnown", unfollowed := true, recurses := true, apart := false }
def LeaseKnownSaid : Prop := leaseKnownRow.holds Try.pinned (OpenSpec.ofChange leaseKnownSpec)

/-- ITS FALSE NEIGHBOUR: 'it returns false'. Refute it at one input. -/
def leaseKnownWrong : ChangeSpec := { name := "leaseKnown", fn := fun _ => fun
  | [d1, d2, d3, d4, d5, d6, d7] => { results := [.lit (.bool false)], args := [d1, d2, d3, d4, d5, d6, d7] }
  | _ => none }
def LeaseKnownWrongFalsely : Prop := leaseKnownRow.holds Try.pinned (OpenSpec.ofChange leaseKnownWrong)

/-- 'billetlaw14.LeaseOrder': WHATEVER THE INPUT: true; the input reads as it did. -/
def leaseOrderSpec : ChangeSpec := { name := "leaseOrder", fn := fun _ => fun
  | [d1, d2, d3] => { results := [.lit (.bool true)], args := [d1, d2, d3] }
  | _ => none }
def leaseOrderRow : OpenClaim := { program := "ytcmaoldklldfmaa", sum := "6f949be72080ec6d6415216c5e25436910e028d18ef7e8e36788b99a1210239c", func := "billet/billetlaw14.LeaseOrder", spec := "leaseOrder", unfollowed := true, recurses := true, apart := false }
def LeaseOrderSaid : Prop := leaseOrderRow.holds Try.pinned (OpenSpec.ofChange leaseOrderSpec)

/-- ITS FALSE NEIGHBOUR: 'it returns false'. Refute it at one input. -/
def leaseOrderWrong : ChangeSpec := { name := "leaseOrder", fn := fun _ => fun
  | [d1, d2, d3] => { results := [.lit (.bool false)], args := [d1, d2, d3] }
  | _ => none }
def LeaseOrderWrongFalsely : Prop := leaseOrderRow.holds Try.pinned (OpenSpec.ofChange leaseOrderWrong)

/-- 'billetlaw14.LeaseTells': WHATEVER THE INPUT: true; the input reads as it did. -/
def leaseTellsSpec : ChangeSpec := { name := "leaseTells", fn := fun _ => fun
  | [d1, d2, d3, d4] => { results := [.lit (.bool true)], args := [d1, d2, d3, d4] }
  | _ => none }
def leaseTellsRow : OpenClaim := { program := "ytcmaoldklldfmaa", sum := "6f949be72080ec6d6415216c5e25436910e028d18ef7e8e36788b99a1210239c", func := "billet/billetlaw14.LeaseTells", spec := "leaseTells", unfollowed := true, recurses := true, apart := false }
def LeaseTellsSaid : Prop := leaseTellsRow.holds Try.pinned (OpenSpec.ofChange leaseTellsSpec)

/-- ITS FALSE NEIGHBOUR: 'it returns false'. Refute it at one input. -/
def leaseTellsWrong : ChangeSpec := { name := "leaseTells", fn := fun _ => fun
  | [d1, d2, d3, d4] => { results := [.lit (.bool false)], args := [d1, d2, d3, d4] }
  | _ => none }
def LeaseTellsWrongFalsely : Prop := leaseTellsRow.holds Try.pinned (OpenSpec.ofChange leaseTellsWrong)

/-- 'billetlaw14.LeaseHeld': WHATEVER THE INPUT: true; the input reads as it did. -/
def leaseHeldSpec : ChangeSpec := { name := "leaseHeld", fn := fun _ => fun
  | [d1, d2, d3] => { results := [.lit (.bool true)], args := [d1, d2, d3] }
  | _ => none }
def leaseHeldRow : OpenClaim := { program := "ytcmaoldklldfmaa", sum := "6f949be72080ec6d6415216c5e25436910e028d18ef7e8e36788b99a1210239c", func := "billet/billetlaw14.LeaseHeld", spec := "leaseHeld", unfollowed := true, recurses := true, apart := false }
def LeaseHeldSaid : Prop := leaseHeldRow.holds Try.pinned (OpenSpec.ofChange leaseHeldSpec)

/-- ITS FALSE NEIGHBOUR: 'it returns false'. Refute it at one input. -/
def leaseHeldWrong : ChangeSpec := { name := "leaseHeld", fn := fun _ => fun
  | [d1, d2, d3] => { results := [.lit (.bool false)], args := [d1, d2, d3] }
  | _ => none }
def LeaseHeldWrongFalsely : Prop := leaseHeldRow.holds Try.pinned (OpenSpec.ofChange leaseHeldWrong)

/-- 'billetlaw14.LeaseMoves': WHATEVER THE INPUT: true; the input reads as it did. -/
def leaseMovesSpec : ChangeSpec := { name := "leaseMoves", fn := fun _ => fun
  | [d] => { results := [.lit (.bool true)], args := [d] }
  | _ => none }
def leaseMovesRow : OpenClaim := { program := "ytcmaoldklldfmaa", sum := "6f949be72080ec6d6415216c5e25436910e028d18ef7e8e36788b99a1210239c", func := "billet/billetlaw14.LeaseMoves", spec := "leaseMoves", unfollowed := true, recurses := true, apart := false }
def LeaseMovesSaid : Prop := leaseMovesRow.holds Try.pinned (OpenSpec.ofChange leaseMovesSpec)

/-- ITS FALSE NEIGHBOUR: 'it returns false'. Refute it at one input. -/
def leaseMovesWrong : ChangeSpec := { name := "leaseMoves", fn := fun _ => fun
  | [d] => { results := [.lit (.bool false)], args := [d] }
  | _ => none }
def LeaseMovesWrongFalsely : Prop := leaseMovesRow.holds Try.pinned (OpenSpec.ofChange leaseMovesWrong)

/- THE SECOND FORM. 'bulk': how many values and letters a reading holds, each counted each time it is reached (what is shared counts as often as it is met; a slice's spare places count too). A statement '..UptoSaid' is the law's where the arguments, and the package variables that the reading takes, are together of bulk at most 1048576: NARROWER than '..Said'. Prove '..Said' where nothing that the law and all that it calls make is longer than what came in: it says more and counts as full. Else prove '..UptoSaid'. A law counts once. -/
mutual
def uptoBulk {H : Type} : DataW H → Nat
  | .lit (.string bytes) => bytes.length + 1
  | .lit _ => 1
  | .nil => 1
  | .ptr d => uptoBulk d + 1
  | .slice elems spare => uptoBulkAll elems + uptoBulkAll spare + 1
  | .agg parts => uptoBulkAll parts + 1
  | .iface _ d => uptoBulk d + 1
  | .map entries => uptoBulkEntries entries + 1
  | .held _ => 1
def uptoBulkAll {H : Type} : List (DataW H) → Nat
  | [] => 0
  | d :: r => uptoBulk d + uptoBulkAll r
def uptoBulkEntries {H : Type} : List (Lit × DataW H) → Nat
  | [] => 0
  | x :: r => uptoBulkEntry x + uptoBulkEntries r
def uptoBulkEntry {H : Type} : Lit × DataW H → Nat
  | (.string bytes, d) => bytes.length + uptoBulk d + 1
  | (_, d) => uptoBulk d + 1
 end
def uptoSmall : (H : Type) → List (DataW H) → Bool := fun _ ds => decide (uptoBulkAll ds ≤ 1048576)
def OpenSpec.upto (s : _root_.Go.ChangeSpec) : _root_.Go.OpenSpec := { _root_.Go.OpenSpec.ofChange s with cond := some uptoSmall }

/-- 'billetlaw14.LeaseSafe', WHERE WHAT IT READS IS OF BULK AT MOST 1048576: true; the input reads as it did. -/
def leaseSafeUptoRow : OpenClaim := { program := "ytcmaoldklldfmaa", sum := "6f949be72080ec6d6415216c5e25436910e028d18ef7e8e36788b99a1210239c", func := "billet/billetlaw14.LeaseSafe", spec := "leaseSafe", unfollowed := true, recurses := true, apart := false, narrowed := true }
def LeaseSafeUptoSaid : Prop := leaseSafeUptoRow.holds Try.pinned (OpenSpec.upto leaseSafeSpec)

/-- 'billetlaw14.LeaseKnown', WHERE WHAT IT READS IS OF BULK AT MOST 1048576: true; the input reads as it did. -/
def leaseKnownUptoRow : OpenClaim := { program := "ytcmaoldklldfmaa", sum := "6f949be72080ec6d6415216c5e25436910e028d18ef7e8e36788b99a1210239c", func := "billet/billetlaw14.LeaseKnown", spec := "leaseKnown", unfollowed := true, recurses := true, apart := false, narrowed := true }
def LeaseKnownUptoSaid : Prop := leaseKnownUptoRow.holds Try.pinned (OpenSpec.upto leaseKnownSpec)

/-- 'billetlaw14.LeaseOrder', WHERE WHAT IT READS IS OF BULK AT MOST 1048576: true; the input reads as it did. -/
def leaseOrderUptoRow : OpenClaim := { program := "ytcmaoldklldfmaa", sum := "6f949be72080ec6d6415216c5e25436910e028d18ef7e8e36788b99a1210239c", func := "billet/billetlaw14.LeaseOrder", spec := "leaseOrder", unfollowed := true, recurses := true, apart := false, narrowed := true }
def LeaseOrderUptoSaid : Prop := leaseOrderUptoRow.holds Try.pinned (OpenSpec.upto leaseOrderSpec)

/-- 'billetlaw14.LeaseTells', WHERE WHAT IT READS IS OF BULK AT MOST 1048576: true; the input reads as it did. -/
def leaseTellsUptoRow : OpenClaim := { program := "ytcmaoldklldfmaa", sum := "6f949be72080ec6d6415216c5e25436910e028d18ef7e8e36788b99a1210239c", func := "billet/billetlaw14.LeaseTells", spec := "leaseTells", unfollowed := true, recurses := true, apart := false, narrowed := true }
def LeaseTellsUptoSaid : Prop := leaseTellsUptoRow.holds Try.pinned (OpenSpec.upto leaseTellsSpec)

/-- 'billetlaw14.LeaseHeld', WHERE WHAT IT READS IS OF BULK AT MOST 1048576: true; the input reads as it did. -/
def leaseHeldUptoRow : OpenClaim := { program := "ytcmaoldklldfmaa", sum := "6f949be72080ec6d6415216c5e25436910e028d18ef7e8e36788b99a1210239c", func := "billet/billetlaw14.LeaseHeld", spec := "leaseHeld", unfollowed := true, recurses := true, apart := false, narrowed := true }
def LeaseHeldUptoSaid : Prop := leaseHeldUptoRow.holds Try.pinned (OpenSpec.upto leaseHeldSpec)

/-- 'billetlaw14.LeaseMoves', WHERE WHAT IT READS IS OF BULK AT MOST 1048576: true; the input reads as it did. -/
def leaseMovesUptoRow : OpenClaim := { program := "ytcmaoldklldfmaa", sum := "6f949be72080ec6d6415216c5e25436910e028d18ef7e8e36788b99a1210239c", func := "billet/billetlaw14.LeaseMoves", spec := "leaseMoves", unfollowed := true, recurses := true, apart := false, narrowed := true }
def LeaseMovesUptoSaid : Prop := leaseMovesUptoRow.holds Try.pinned (OpenSpec.upto leaseMovesSpec)

end Rows
end Go.Proofs.Ytcmaoldklldfmaa
