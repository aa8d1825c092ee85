/-
  No cell of these rows narrows 'for every input' (looked for: loops, veiled, ifaces, maps, wideKeys, modest, calm, conditions, laid).
  DERIVED. THE GIVEN ROWS OF THIS SEAT. 7 by the template 'for every input the law returns true; each argument reads behind the call as it read before'; 0 by the template 'total and deterministic' (their statements: YtpdgdogcfmfakaaTotals.lean).
  GIVEN WITH THE SEED: the statements are not yours to turn. If you find one false, say at which input.
  Laid BY PROGRAM, IN A SANDBOX (cutbox-rows.mjs): the forced cells as the released guide's own fill.sh prints them over the translation df1431674aba3322… (all of the seat's roots in one cut). By AI agents, Wed Nov 11 2026. No macro, syntax, notation, axiom, sorry.
-/
import Derived.Test.YtpdgdogcfmfakaaChecked
import GoSem.Claim
import GoSem.ClaimJoined
import GoSem.ClaimMapViews
import Derived.JoinedTies
import Derived.KernelRfl
namespace Go.Proofs.Ytpdgdogcfmfakaa
/- THE CELL 'sum', in the pinned program and in every row, IS THE sha256 OF THE DUMP (.gsa) THAT YtpdgdogcfmfakaaProg.lean LOADS. Nothing in Lean hashes anything: it is a label: what it is worth is what the hold of that sum in a sandbox is worth. -/
noncomputable def Try.pinned : Pinned := { name := "ytpdgdogcfmfakaa", sum := "df1431674aba33220e3664f6a007cb97fc7be1340a6d260cb6424b08bcbec51f", checked := Try.checked }
namespace Rows
def none {H : Type} : Left H := { results := [], args := [] }

/-- 'billetlaw15.ShareTells': WHATEVER THE INPUT: true; the input reads as it did. -/
def shareTellsSpec : ChangeSpec := { name := "shareTells", fn := fun _ => fun
  | [d1, d2, d3, d4, d5, d6, d7] => { results := [.lit (.bool true)], args := [d1, d2, d3, d4, d5, d6, d7] }
  | _ => none }
def shareTellsRow : OpenClaim := { program := "ytpdgdogcfmfakaa", sum := "df1431674aba33220e3664f6a007cb97fc7be1340a6d260cb6424b08bcbec51f", func := "billet/billetlaw15.ShareTells", spec := "shareTells", unfollowed := true, recurses := true, plainKeys := false, apart := false }
def ShareTellsSaid : Prop := shareTellsRow.holds Try.pinned (OpenSpec.ofChange shareTellsSpec)

/-- ITS FALSE NEIGHBOUR: 'it returns false'. Refute it at one input. -/
def shareTellsWrong : ChangeSpec := { name := "shareTells", fn := fun _ => fun
  | [d1, d2, d3, d4, d5, d6, d7] => { results := [.lit (.bool false)], args := [d1, d2, d3, d4, d5, d6, d7] }
  | _ => none }
def ShareTellsWrongFalsely : Prop := shareTellsRow.holds Try.pinned (OpenSpec.ofChange shareTellsWrong)

/-- 'billetlaw15.ShareSafe': WHATEVER THE INPUT: true; the input reads as it did. -/
def shareSafeSpec : ChangeSpec := { name := "shareSafe", fn := fun _ => fun
  | [d1, d2] => { results := [.lit (.bool true)], args := [d1, d2] }
  | _ => none }
def shareSafeRow : OpenClaim := { program := "ytpdgdogcfmfakaa", sum := "df1431674aba33220e3664f6a007cb97fc7be1340a6d260cb6424b08bcbec51f", func := "billet/billetlaw15.ShareSafe", spec := "shareSafe", unfollowed := true, recurses := true, plainKeys := false, apart := false }
def ShareSafeSaid : Prop := shareSafeRow.holds Try.pinned (OpenSpec.ofChange shareSafeSpec)

/-- ITS FALSE NEIGHBOUR: 'it returns false'. Refute it at one input. -/
def shareSafeWrong : ChangeSpec := { name := "shareSafe", fn := fun _ => fun
  | [d1, d2] => { results := [.lit (.bool false)], args := [d1, d2] }
  | _ => none }
def ShareSafeWrongFalsely : Prop := shareSafeRow.holds Try.pinned (OpenSpec.ofChange shareSafeWrong)

/-- 'billetlaw15.ShareAll': WHATEVER THE INPUT: true; the input reads as it did. -/
def shareAllSpec : ChangeSpec := { name := "shareAll", fn := fun _ => fun
  | [d1, d2] => { results := [.lit (.bool true)], args := [d1, d2] }
  | _ => none }
def shareAllRow : OpenClaim := { program := "ytpdgdogcfmfakaa", sum := "df1431674aba33220e3664f6a007cb97fc7be1340a6d260cb6424b08bcbec51f", func := "billet/billetlaw15.ShareAll", spec := "shareAll", unfollowed := true, recurses := true, plainKeys := false, apart := false }
def ShareAllSaid : Prop := shareAllRow.holds Try.pinned (OpenSpec.ofChange shareAllSpec)

/-- ITS FALSE NEIGHBOUR: 'it returns false'. Refute it at one input. -/
def shareAllWrong : ChangeSpec := { name := "shareAll", fn := fun _ => fun
  | [d1, d2] => { results := [.lit (.bool false)], args := [d1, d2] }
  | _ => none }
def ShareAllWrongFalsely : Prop := shareAllRow.holds Try.pinned (OpenSpec.ofChange shareAllWrong)

/-- 'billetlaw15.ShareTrims': WHATEVER THE INPUT: true; the input reads as it did. -/
def shareTrimsSpec : ChangeSpec := { name := "shareTrims", fn := fun _ => fun
  | [d1, d2, d3] => { results := [.lit (.bool true)], args := [d1, d2, d3] }
  | _ => none }
def shareTrimsRow : OpenClaim := { program := "ytpdgdogcfmfakaa", sum := "df1431674aba33220e3664f6a007cb97fc7be1340a6d260cb6424b08bcbec51f", func := "billet/billetlaw15.ShareTrims", spec := "shareTrims", unfollowed := true, recurses := true, plainKeys := false, apart := false }
def ShareTrimsSaid : Prop := shareTrimsRow.holds Try.pinned (OpenSpec.ofChange shareTrimsSpec)

/-- ITS FALSE NEIGHBOUR: 'it returns false'. Refute it at one input. -/
def shareTrimsWrong : ChangeSpec := { name := "shareTrims", fn := fun _ => fun
  | [d1, d2, d3] => { results := [.lit (.bool false)], args := [d1, d2, d3] }
  | _ => none }
def ShareTrimsWrongFalsely : Prop := shareTrimsRow.holds Try.pinned (OpenSpec.ofChange shareTrimsWrong)

/-- 'billetlaw15.ShareSame': WHATEVER THE INPUT: true; the input reads as it did. -/
def shareSameSpec : ChangeSpec := { name := "shareSame", fn := fun _ => fun
  | [d] => { results := [.lit (.bool true)], args := [d] }
  | _ => none }
def shareSameRow : OpenClaim := { program := "ytpdgdogcfmfakaa", sum := "df1431674aba33220e3664f6a007cb97fc7be1340a6d260cb6424b08bcbec51f", func := "billet/billetlaw15.ShareSame", spec := "shareSame", unfollowed := true, recurses := true, plainKeys := false, apart := false }
def ShareSameSaid : Prop := shareSameRow.holds Try.pinned (OpenSpec.ofChange shareSameSpec)

/-- ITS FALSE NEIGHBOUR: 'it returns false'. Refute it at one input. -/
def shareSameWrong : ChangeSpec := { name := "shareSame", fn := fun _ => fun
  | [d] => { results := [.lit (.bool false)], args := [d] }
  | _ => none }
def ShareSameWrongFalsely : Prop := shareSameRow.holds Try.pinned (OpenSpec.ofChange shareSameWrong)

/-- 'billetlaw15.ShareRoom': WHATEVER THE INPUT: true; the input reads as it did. -/
def shareRoomSpec : ChangeSpec := { name := "shareRoom", fn := fun _ => fun
  | [d1, d2, d3, d4] => { results := [.lit (.bool true)], args := [d1, d2, d3, d4] }
  | _ => none }
def shareRoomRow : OpenClaim := { program := "ytpdgdogcfmfakaa", sum := "df1431674aba33220e3664f6a007cb97fc7be1340a6d260cb6424b08bcbec51f", func := "billet/billetlaw15.ShareRoom", spec := "shareRoom", unfollowed := true, recurses := true, plainKeys := false, apart := false }
def ShareRoomSaid : Prop := shareRoomRow.holds Try.pinned (OpenSpec.ofChange shareRoomSpec)

/-- ITS FALSE NEIGHBOUR: 'it returns false'. Refute it at one input. -/
def shareRoomWrong : ChangeSpec := { name := "shareRoom", fn := fun _ => fun
  | [d1, d2, d3, d4] => { results := [.lit (.bool false)], args := [d1, d2, d3, d4] }
  | _ => none }
def ShareRoomWrongFalsely : Prop := shareRoomRow.holds Try.pinned (OpenSpec.ofChange shareRoomWrong)

/-- 'billettop.Names': WHATEVER THE INPUT: true; the input reads as it did. -/
def namesSpec : ChangeSpec := { name := "names", fn := fun _ => fun
  | [] => { results := [.lit (.bool true)], args := [] }
  | _ => none }
def namesRow : OpenClaim := { program := "ytpdgdogcfmfakaa", sum := "df1431674aba33220e3664f6a007cb97fc7be1340a6d260cb6424b08bcbec51f", func := "billet/billettop.Names", spec := "names", plainKeys := false, apart := false }
def NamesSaid : Prop := namesRow.holds Try.pinned (OpenSpec.ofChange namesSpec)

/-- ITS FALSE NEIGHBOUR: 'it returns false'. Refute it at one input. -/
def namesWrong : ChangeSpec := { name := "names", fn := fun _ => fun
  | [] => { results := [.lit (.bool false)], args := [] }
  | _ => none }
def NamesWrongFalsely : Prop := namesRow.holds Try.pinned (OpenSpec.ofChange namesWrong)

/- THE SECOND FORM. 'bulk': how many values and letters a reading holds, each counted each time it is reached (what is shared counts as often as it is met; a slice's spare places count too). A statement '..UptoSaid' is the law's where the arguments, and the package variables that the reading takes, are together of bulk at most 1048576: NARROWER than '..Said'. Prove '..Said' where nothing that the law and all that it calls make is longer than what came in: it says more and counts as full. Else prove '..UptoSaid'. A law counts once. -/
mutual
def uptoBulk {H : Type} : DataW H → Nat
  | .lit (.string bytes) => bytes.length + 1
  | .lit _ => 1
  | .nil => 1
  | .ptr d => uptoBulk d + 1
  | .slice elems spare => uptoBulkAll elems + uptoBulkAll spare + 1
  | .agg parts => uptoBulkAll parts + 1
  | .iface _ d => uptoBulk d + 1
  | .map entries => uptoBulkEntries entries + 1
  | .held _ => 1
def uptoBulkAll {H : Type} : List (DataW H) → Nat
  | [] => 0
  | d :: r => uptoBulk d + uptoBulkAll r
def uptoBulkEntries {H : Type} : List (Lit × DataW H) → Nat
  | [] => 0
  | x :: r => uptoBulkEntry x + uptoBulkEntries r
def uptoBulkEntry {H : Type} : Lit × DataW H → Nat
  | (.string bytes, d) => bytes.length + uptoBulk d + 1
  | (_, d) => uptoBulk d + 1
 end
def uptoSmall : (H : Type) → List (DataW H) → Bool := fun _ ds => decide (uptoBulkAll ds ≤ 1048576)
def OpenSpec.upto (s : _root_.Go.ChangeSpec) : _root_.Go.OpenSpec := { _root_.Go.OpenSpec.ofChange s with cond := some uptoSmall }

/-- 'billetlaw15.ShareTells', WHERE WHAT IT READS IS OF BULK AT MOST 1048576: true; the input reads as it did. -/
def shareTellsUptoRow : OpenClaim := { program := "ytpdgdogcfmfakaa", sum := "df1431674aba33220e3664f6a007cb97fc7be1340a6d260cb6424b08bcbec51f", func := "billet/billetlaw15.ShareTells", spec := "shareTells", unfollowed := true, recurses := true, plainKeys := false, apart := false, narrowed := true }
def ShareTellsUptoSaid : Prop := shareTellsUptoRow.holds Try.pinned (OpenSpec.upto shareTellsSpec)

/-- 'billetlaw15.ShareSafe', WHERE WHAT IT READS IS OF BULK AT MOST 1048576: true; the input reads as it did. -/
def shareSafeUptoRow : OpenClaim := { program := "ytpdgdogcfmfakaa", sum := "df1431674aba33220e3664f6a007cb97fc7be1340a6d260cb6424b08bcbec51f", func := "billet/billetlaw15.ShareSafe", spec := "shareSafe", unfollowed := true, recurses := true, plainKeys := false, apart := false, narrowed := true }
def ShareSafeUptoSaid : Prop := shareSafeUptoRow.holds Try.pinned (OpenSpec.upto shareSafeSpec)

/-- 'billetlaw15.ShareAll', WHERE WHAT IT READS IS OF BULK AT MOST 1048576: true; the input reads as it did. -/
def shareAllUptoRow : OpenClaim := { program := "ytpdgdogcfmfakaa", sum := "df1431674aba33220e3664f6a007cb97fc7be1340a6d260cb6424b08bcbec51f", func := "billet/billetlaw15.ShareAll", spec := "shareAll", unfollowed := true, recurses := true, plainKeys := false, apart := false, narrowed := true }
def ShareAllUptoSaid : Prop := shareAllUptoRow.holds Try.pinned (OpenSpec.upto shareAllSpec)

/-- 'billetlaw15.ShareTrims', WHERE WHAT IT READS IS OF BULK AT MOST 1048576: true; the input reads as it did. -/
def shareTrimsUptoRow : OpenClaim := { program := "ytpdgdogcfmfakaa", sum := "df1431674aba33220e3664f6a007cb97fc7be1340a6d260cb6424b08bcbec51f", func := "billet/billetlaw15.ShareTrims", spec := "shareTrims", unfollowed := true, recurses := true, plainKeys := false, apart := false, narrowed := true }
def ShareTrimsUptoSaid : Prop := shareTrimsUptoRow.holds Try.pinned (OpenSpec.upto shareTrimsSpec)

/-- 'billetlaw15.ShareSame', WHERE WHAT IT READS IS OF BULK AT MOST 1048576: true; the input reads as it did. -/
def shareSameUptoRow : OpenClaim := { program := "ytpdgdogcfmfakaa", sum := "df1431674aba33220e3664f6a007cb97fc7be1340a6d260cb6424b08bcbec51f", func := "billet/billetlaw15.ShareSame", spec := "shareSame", unfollowed := true, recurses := true, plainKeys := false, apart := false, narrowed := true }
def ShareSameUptoSaid : Prop := shareSameUptoRow.holds Try.pinned (OpenSpec.upto shareSameSpec)

/-- 'billetlaw15.ShareRoom', WHERE WHAT IT READS IS OF BULK AT MOST 1048576: true; the input reads as it did. -/
def shareRoomUptoRow : OpenClaim := { program := "ytpdgdogcfmfakaa", sum := "df1431674aba33220e3664f6a007cb97fc7be1340a6d260cb6424b08bcbec51f", func := "billet/billetlaw15.ShareRoom", spec := "shareRoom", unfollowed := true, recurses := true, plainKeys := false, apart := false, narrowed := true }
def ShareRoomUptoSaid : Prop := shareRoomUptoRow.holds Try.pinned (OpenSpec.upto shareRoomSpec)

/-- 'billettop.Names', WHERE WHAT IT READS IS OF BULK AT MOST 1048576: true; the input reads as it did. -/
def namesUptoRow : OpenClaim := { program := "ytpdgdogcfmfakaa", sum := "df1431674aba33220e3664f6a007cb97fc7be1340a6d260cb6424b08bcbec51f", func := "billet/billettop.Names", spec := "names", plainKeys := false, apart := false, narrowed := true }
def NamesUptoSaid : Prop := namesUptoRow.holds Try.pinned (OpenSpec.upto namesSpec)

end Rows
end Go.Proofs.Ytpdgdogcfmfakaa
