/-
  No cell of these rows narrows 'for every input' (looked for: loops, veiled, ifaces, maps, wideKeys, modest, calm, conditions, laid).
  DERIVED. THE GIVEN ROWS OF THIS SEAT. 15 by the template 'for every input the law returns true; each argument reads behind the call as it read before'; 0 by the template 'total and deterministic' (their statements: YtfmfojogcghkkaaTotals.lean).
  GIVEN WITH THE SEED: the statements are not yours to turn. If you find one false, say at which input.
  Laid BY PROGRAM, IN A SANDBOX (cutbox-rows.mjs): the forced cells as the released guide's own fill.sh prints them over the translation d66b2ba62f66972b… (all of the seat's roots in one cut). By AI agents, Wed Nov 11 2026. No macro, syntax, notation, axiom, sorry.
-/
import Derived.Test.YtfmfojogcghkkaaChecked
import GoSem.Claim
import GoSem.ClaimJoined
import GoSem.ClaimMapViews
import Derived.JoinedTies
import Derived.KernelRfl
namespace Go.Proofs.Ytfmfojogcghkkaa
/- THE CELL 'sum', in the pinned program and in every row, IS THE sha256 OF THE DUMP (.gsa) THAT YtfmfojogcghkkaaProg.lean LOADS. Nothing in Lean hashes anything: it is a label: what it is worth is what the hold of that sum in a sandbox is worth. -/
noncomputable def Try.pinned : Pinned := { name := "ytfmfojogcghkkaa", sum := "d66b2ba62f66972b183fad7b63113c132d44cec94bef2479c0ed063fec23b938", checked := Try.checked }
namespace Rows
def none {H : Type} : Left H := { results := [], args := [] }

/-- 'billetlaw05.GraphTells': WHATEVER THE INPUT: true; the input reads as it did. -/
def graphTellsSpec : ChangeSpec := { name := "graphTells", fn := fun _ => fun
  | [d1, d2, d3, d4, d5] => { results := [.lit (.bool true)], args := [d1, d2, d3, d4, d5] }
  | _ => none }
def graphTellsRow : OpenClaim := { program := "ytfmfojogcghkkaa", sum := "d66b2ba62f66972b183fad7b63113c132d44cec94bef2479c0ed063fec23b938", func := "billet/billetlaw05.GraphTells", spec := "graphTells", unfollowed := true, recurses := true, apart := false }
def GraphTellsSaid : Prop := graphTellsRow.holds Try.pinned (OpenSpec.ofChange graphTellsSpec)

/-- ITS FALSE NEIGHBOUR: 'it returns false'. Refute it at one input. -/
def graphTellsWrong : ChangeSpec := { name := "graphTells", fn := fun _ => fun
  | [d1, d2, d3, d4, d5] => { results := [.lit (.bool false)], args := [d1, d2, d3, d4, d5] }
  | _ => none }
def GraphTellsWrongFalsely : Prop := graphTellsRow.holds Try.pinned (OpenSpec.ofChange graphTellsWrong)

/-- 'billetlaw05.GraphFlows': WHATEVER THE INPUT: true; the input reads as it did. -/
def graphFlowsSpec : ChangeSpec := { name := "graphFlows", fn := fun _ => fun
  | [d1, d2, d3, d4] => { results := [.lit (.bool true)], args := [d1, d2, d3, d4] }
  | _ => none }
def graphFlowsRow : OpenClaim := { program := "ytfmfojogcghkkaa", sum := "d66b2ba62f66972b183fad7b63113c132d44cec94bef2479c0ed063fec23b938", func := "billet/billetlaw05.GraphFlows", spec := "graphFlows", unfollowed := true, recurses := true, apart := false }
def GraphFlowsSaid : Prop := graphFlowsRow.holds Try.pinned (OpenSpec.ofChange graphFlowsSpec)

/-- ITS FALSE NEIGHBOUR: 'it returns false'. Refute it at one input. -/
def graphFlowsWrong : ChangeSpec := { name := "graphFlows", fn := fun _ => fun
  | [d1, d2, d3, d4] => { results := [.lit (.bool false)], args := [d1, d2, d3, d4] }
  | _ => none }
def GraphFlowsWrongFalsely : Prop := graphFlowsRow.holds Try.pinned (OpenSpec.ofChange graphFlowsWrong)

/-- 'billetlaw05.GraphCuts': WHATEVER THE INPUT: true; the input reads as it did. -/
def graphCutsSpec : ChangeSpec := { name := "graphCuts", fn := fun _ => fun
  | [d1, d2, d3] => { results := [.lit (.bool true)], args := [d1, d2, d3] }
  | _ => none }
def graphCutsRow : OpenClaim := { program := "ytfmfojogcghkkaa", sum := "d66b2ba62f66972b183fad7b63113c132d44cec94bef2479c0ed063fec23b938", func := "billet/billetlaw05.GraphCuts", spec := "graphCuts", unfollowed := true, recurses := true, apart := false }
def GraphCutsSaid : Prop := graphCutsRow.holds Try.pinned (OpenSpec.ofChange graphCutsSpec)

/-- ITS FALSE NEIGHBOUR: 'it returns false'. Refute it at one input. -/
def graphCutsWrong : ChangeSpec := { name := "graphCuts", fn := fun _ => fun
  | [d1, d2, d3] => { results := [.lit (.bool false)], args := [d1, d2, d3] }
  | _ => none }
def GraphCutsWrongFalsely : Prop := graphCutsRow.holds Try.pinned (OpenSpec.ofChange graphCutsWrong)

/-- 'billetlaw05.GraphEnds': WHATEVER THE INPUT: true; the input reads as it did. -/
def graphEndsSpec : ChangeSpec := { name := "graphEnds", fn := fun _ => fun
  | [d1, d2] => { results := [.lit (.bool true)], args := [d1, d2] }
  | _ => none }
def graphEndsRow : OpenClaim := { program := "ytfmfojogcghkkaa", sum := "d66b2ba62f66972b183fad7b63113c132d44cec94bef2479c0ed063fec23b938", func := "billet/billetlaw05.GraphEnds", spec := "graphEnds", unfollowed := true, recurses := true, apart := false }
def GraphEndsSaid : Prop := graphEndsRow.holds Try.pinned (OpenSpec.ofChange graphEndsSpec)

/-- ITS FALSE NEIGHBOUR: 'it returns false'. Refute it at one input. -/
def graphEndsWrong : ChangeSpec := { name := "graphEnds", fn := fun _ => fun
  | [d1, d2] => { results := [.lit (.bool false)], args := [d1, d2] }
  | _ => none }
def GraphEndsWrongFalsely : Prop := graphEndsRow.holds Try.pinned (OpenSpec.ofChange graphEndsWrong)

/-- 'billetlaw05.GraphMirror': WHATEVER THE INPUT: true; the input reads as it did. -/
def graphMirrorSpec : ChangeSpec := { name := "graphMirror", fn := fun _ => fun
  | [d1, d2, d3] => { results := [.lit (.bool true)], args := [d1, d2, d3] }
  | _ => none }
def graphMirrorRow : OpenClaim := { program := "ytfmfojogcghkkaa", sum := "d66b2ba62f66972b183fad7b63113c132d44cec94bef2479c0ed063fec23b938", func := "billet/billetlaw05.GraphMirror", spec := "graphMirror", unfollowed := true, recurses := true, apart := false }
def GraphMirrorSaid : Prop := graphMirrorRow.holds Try.pinned (OpenSpec.ofChange graphMirrorSpec)

/-- ITS FALSE NEIGHBOUR: 'it returns false'. Refute it at one input. -/
def graphMirrorWrong : ChangeSpec := { name := "graphMirror", fn := fun _ => fun
  | [d1, d2, d3] => { results := [.lit (.bool false)], args := [d1, d2, d3] }
  | _ => none }
def GraphMirrorWrongFalsely : Prop := graphMirrorRow.holds Try.pinned (OpenSpec.ofChange graphMirrorWrong)

/-- 'billetlaw05.GraphAdds': WHATEVER THE INPUT: true; the input reads as it did. -/
def graphAddsSpec : ChangeSpec := { name := "graphAdds", fn := fun _ => fun
  | [d1, d2] => { results := [.lit (.bool true)], args := [d1, d2] }
  | _ => none }
def graphAddsRow : OpenClaim := { program := "ytfmfojogcghkkaa", sum := "d66b2ba62f66972b183fad7b63113c132d44cec94bef2479c0ed063fec23b938", func := "billet/billetlaw05.GraphAdds", spec := "graphAdds", unfollowed := true, recurses := true, apart := false }
def GraphAddsSaid : Prop := graphAddsRow.holds Try.pinned (OpenSpec.ofChange graphAddsSpec)

/-- ITS FALSE NEIGHBOUR: 'it returns false'. Refute it at one input. -/
def graphAddsWrong : ChangeSpec := { name := "graphAdds", fn := fun _ => fun
  | [d1, d2] => { results := [.lit (.bool false)], args := [d1, d2] }
  | _ => none }
def GraphAddsWrongFalsely : Prop := graphAddsRow.holds Try.pinned (OpenSpec.ofChange graphAddsWrong)

/-- 'billetlaw05.GraphMore': WHATEVER THE INPUT: true; the input reads as it did. -/
def graphMoreSpec : ChangeSpec := { name := "graphMore", fn := fun _ => fun
  | [d1, d2, d3] => { results := [.lit (.bool true)], args := [d1, d2, d3] }
  | _ => none }
def graphMoreRow : OpenClaim := { program := "ytfmfojogcghkkaa", sum := "d66b2ba62f66972b183fad7b63113c132d44cec94bef2479c0ed063fec23b938", func := "billet/billetlaw05.GraphMore", spec := "graphMore", unfollowed := true, recurses := true, apart := false }
def GraphMoreSaid : Prop := graphMoreRow.holds Try.pinned (OpenSpec.ofChange graphMoreSpec)

/-- ITS FALSE NEIGHBOUR: 'it returns false'. Refute it at one input. -/
def graphMoreWrong : ChangeSpec := { name := "graphMore", fn := fun _ => fun
  | [d1, d2, d3] => { results := [.lit (.bool false)], args := [d1, d2, d3] }
  | _ => none }
def GraphMoreWrongFalsely : Prop := graphMoreRow.holds Try.pinned (OpenSpec.ofChange graphMoreWrong)

/-- 'billetlaw06.FlowTells': WHATEVER THE INPUT: true; the input reads as it did. -/
def flowTellsSpec : ChangeSpec := { name := "flowTells", fn := fun _ => fun
  | [d1, d2, d3, d4, d5] => { results := [.lit (.bool true)], args := [d1, d2, d3, d4, d5] }
  | _ => none }
def flowTellsRow : OpenClaim := { program := "ytfmfojogcghkkaa", sum := "d66b2ba62f66972b183fad7b63113c132d44cec94bef2479c0ed063fec23b938", func := "billet/billetlaw06.FlowTells", spec := "flowTells", unfollowed := true, recurses := true, apart := false }
def FlowTellsSaid : Prop := flowTellsRow.holds Try.pinned (OpenSpec.ofChange flowTellsSpec)

/-- ITS FALSE NEIGHBOUR: 'it returns false'. Refute it at one input. -/
def flowTellsWrong : ChangeSpec := { name := "flowTells", fn := fun _ => fun
  | [d1, d2, d3, d4, d5] => { results := [.lit (.bool false)], args := [d1, d2, d3, d4, d5] }
  | _ => none }
def FlowTellsWrongFalsely : Prop := flowTellsRow.holds Try.pinned (OpenSpec.ofChange flowTellsWrong)

/-- 'billetlaw06.FlowPushes': WHATEVER THE INPUT: true; the input reads as it did. -/
def flowPushesSpec : ChangeSpec := { name := "flowPushes", fn := fun _ => fun
  | [d1, d2, d3] => { results := [.lit (.bool true)], args := [d1, d2, d3] }
  | _ => none }
def flowPushesRow : OpenClaim := { program := "ytfmfojogcghkkaa", sum := "d66b2ba62f66972b183fad7b63113c132d44cec94bef2479c0ed063fec23b938", func := "billet/billetlaw06.FlowPushes", spec := "flowPushes", unfollowed := true, recurses := true, apart := false }
def FlowPushesSaid : Prop := flowPushesRow.holds Try.pinned (OpenSpec.ofChange flowPushesSpec)

/-- ITS FALSE NEIGHBOUR: 'it returns false'. Refute it at one input. -/
def flowPushesWrong : ChangeSpec := { name := "flowPushes", fn := fun _ => fun
  | [d1, d2, d3] => { results := [.lit (.bool false)], args := [d1, d2, d3] }
  | _ => none }
def FlowPushesWrongFalsely : Prop := flowPushesRow.holds Try.pinned (OpenSpec.ofChange flowPushesWrong)

/-- 'billetlaw06.FlowMost': WHATEVER THE INPUT: true; the input reads as it did. -/
def flowMostSpec : ChangeSpec := { name := "flowMost", fn := fun _ => fun
  | [d1, d2, d3, d4] => { results := [.lit (.bool true)], args := [d1, d2, d3, d4] }
  | _ => none }
def flowMostRow : OpenClaim := { program := "ytfmfojogcghkkaa", sum := "d66b2ba62f66972b183fad7b63113c132d44cec94bef2479c0ed063fec23b938", func := "billet/billetlaw06.FlowMost", spec := "flowMost", unfollowed := true, recurses := true, apart := false }
def FlowMostSaid : Prop := flowMostRow.holds Try.pinned (OpenSpec.ofChange flowMostSpec)

/-- ITS FALSE NEIGHBOUR: 'it returns false'. Refute it at one input. -/
def flowMostWrong : ChangeSpec := { name := "flowMost", fn := fun _ => fun
  | [d1, d2, d3, d4] => { results := [.lit (.bool false)], args := [d1, d2, d3, d4] }
  | _ => none }
def FlowMostWrongFalsely : Prop := flowMostRow.holds Try.pinned (OpenSpec.ofChange flowMostWrong)

/-- 'billetlaw06.FlowAdds': WHATEVER THE INPUT: true; the input reads as it did. -/
def flowAddsSpec : ChangeSpec := { name := "flowAdds", fn := fun _ => fun
  | [d1, d2, d3] => { results := [.lit (.bool true)], args := [d1, d2, d3] }
  | _ => none }
def flowAddsRow : OpenClaim := { program := "ytfmfojogcghkkaa", sum := "d66b2ba62f66972b183fad7b63113c132d44cec94bef2479c0ed063fec23b938", func := "billet/billetlaw06.FlowAdds", spec := "flowAdds", unfollowed := true, recurses := true, apart := false }
def FlowAddsSaid : Prop := flowAddsRow.holds Try.pinned (OpenSpec.ofChange flowAddsSpec)

/-- ITS FALSE NEIGHBOUR: 'it returns false'. Refute it at one input. -/
def flowAddsWrong : ChangeSpec := { name := "flowAdds", fn := fun _ => fun
  | [d1, d2, d3] => { results := [.lit (.bool false)], args := [d1, d2, d3] }
  | _ => none }
def FlowAddsWrongFalsely : Prop := flowAddsRow.holds Try.pinned (OpenSpec.ofChange flowAddsWrong)

/-- 'billetlaw06.FlowSame': WHATEVER THE INPUT: true; the input reads as it did. -/
def flowSameSpec : ChangeSpec := { name := "flowSame", fn := fun _ => fun
  | [d1, d2, d3] => { results := [.lit (.bool true)], args := [d1, d2, d3] }
  | _ => none }
def flowSameRow : OpenClaim := { program := "ytfmfojogcghkkaa", sum := "d66b2ba62f66972b183fad7b63113c132d44cec94bef2479c0ed063fec23b938", func := "billet/billetlaw06.FlowSame", spec := "flowSame", unfollowed := true, recurses := true, apart := false }
def FlowSameSaid : Prop := flowSameRow.holds Try.pinned (OpenSpec.ofChange flowSameSpec)

/-- ITS FALSE NEIGHBOUR: 'it returns false'. Refute it at one input. -/
def flowSameWrong : ChangeSpec := { name := "flowSame", fn := fun _ => fun
  | [d1, d2, d3] => { results := [.lit (.bool false)], args := [d1, d2, d3] }
  | _ => none }
def FlowSameWrongFalsely : Prop := flowSameRow.holds Try.pinned (OpenSpec.ofChange flowSameWrong)

/-- 'billetlaw06.FlowMirror': WHATEVER THE INPUT: true; the input reads as it did. -/
def flowMirrorSpec : ChangeSpec := { name := "flowMirror", fn := fun _ => fun
  | [d] => { results := [.lit (.bool true)], args := [d] }
  | _ => none }
def flowMirrorRow : OpenClaim := { program := "ytfmfojogcghkkaa", sum := "d66b2ba62f66972b183fad7b63113c132d44cec94bef2479c0ed063fec23b938", func := "billet/billetlaw06.FlowMirror", spec := "flowMirror", unfollowed := true, recurses := true, apart := false }
def FlowMirrorSaid : Prop := flowMirrorRow.holds Try.pinned (OpenSpec.ofChange flowMirrorSpec)

/-- ITS FALSE NEIGHBOUR: 'it returns false'. Refute it at one input. -/
def flowMirrorWrong : ChangeSpec := { name := "flowMirror", fn := fun _ => fun
  | [d] => { results := [.lit (.bool false)], args := [d] }
  | _ => none }
def FlowMirrorWrongFalsely : Prop := flowMirrorRow.holds Try.pinned (OpenSpec.ofChange flowMirrorWrong)

/-- 'billetlaw06.FlowParts': WHATEVER THE INPUT: true; the input reads as it did. -/
def flowPartsSpec : ChangeSpec := { name := "flowParts", fn := fun _ => fun
  | [d1, d2, d3] => { results := [.lit (.bool true)], args := [d1, d2, d3] }
  | _ => none }
def flowPartsRow : OpenClaim := { program := "ytfmfojogcghkkaa", sum := "d66b2ba62f66972b183fad7b63113c132d44cec94bef2479c0ed063fec23b938", func := "billet/billetlaw06.FlowParts", spec := "flowParts", unfollowed := true, recurses := true, apart := false }
def FlowPartsSaid : Prop := flowPartsRow.holds Try.pinned (OpenSpec.ofChange flowPartsSpec)

/-- ITS FALSE NEIGHBOUR: 'it returns false'. Refute it at one input. -/
def flowPartsWrong : ChangeSpec := { name := "flowParts", fn := fun _ => fun
  | [d1, d2, d3] => { results := [.lit (.bool false)], args := [d1, d2, d3] }
  | _ => none }
def FlowPartsWrongFalsely : Prop := flowPartsRow.holds Try.pinned (OpenSpec.ofChange flowPartsWrong)

/-- 'billetlaw06.FlowTwice': WHATEVER THE INPUT: true; the input reads as it did. -/
def flowTwiceSpec : ChangeSpec := { name := "flowTwice", fn := fun _ => fun
  | [d1, d2, d3, d4] => { results := [.lit (.bool true)], args := [d1, d2, d3, d4] }
  | _ => none }
def flowTwiceRow : OpenClaim := { program := "ytfmfojogcghkkaa", sum := "d66b2ba62f66972b183fad7b63113c132d44cec94bef2479c0ed063fec23b938", func := "billet/billetlaw06.FlowTwice", spec := "flowTwice", unfollowed := true, recurses := true, apart := false }
def FlowTwiceSaid : Prop := flowTwiceRow.holds Try.pinned (OpenSpec.ofChange flowTwiceSpec)

/-- ITS FALSE NEIGHBOUR: 'it returns false'. Refute it at one input. -/
def flowTwiceWrong : ChangeSpec := { name := "flowTwice", fn := fun _ => fun
  | [d1, d2, d3, d4] => { results := [.lit (.bool false)], args := [d1, d2, d3, d4] }
  | _ => none }
def FlowTwiceWrongFalsely : Prop := flowTwiceRow.holds Try.pinned (OpenSpec.ofChange flowTwiceWrong)

/- THE SECOND FORM. 'bulk': how many values and letters a reading holds, each counted each time it is reached (what is shared counts as often as it is met; a slice's spare places count too). A statement '..UptoSaid' is the law's where the arguments, and the package variables that the reading takes, are together of bulk at most 1048576: NARROWER than '..Said'. Prove '..Said' where nothing that the law and all that it calls make is longer than what came in: it says more and counts as full. Else prove '..UptoSaid'. A law counts once. -/
mutual
def uptoBulk {H : Type} : DataW H → Nat
  | .lit (.string bytes) => bytes.length + 1
  | .lit _ => 1
  | .nil => 1
  | .ptr d => uptoBulk d + 1
  | .slice elems spare => uptoBulkAll elems + uptoBulkAll spare + 1
  | .agg parts => uptoBulkAll parts + 1
  | .iface _ d => uptoBulk d + 1
  | .map entries => uptoBulkEntries entries + 1
  | .held _ => 1
def uptoBulkAll {H : Type} : List (DataW H) → Nat
  | [] => 0
  | d :: r => uptoBulk d + uptoBulkAll r
def uptoBulkEntries {H : Type} : List (Lit × DataW H) → Nat
  | [] => 0
  | x :: r => uptoBulkEntry x + uptoBulkEntries r
def uptoBulkEntry {H : Type} : Lit × DataW H → Nat
  | (.string bytes, d) => bytes.length + uptoBulk d + 1
  | (_, d) => uptoBulk d + 1
 end
def uptoSmall : (H : Type) → List (DataW H) → Bool := fun _ ds => decide (uptoBulkAll ds ≤ 1048576)
def OpenSpec.upto (s : _root_.Go.ChangeSpec) : _root_.Go.OpenSpec := { _root_.Go.OpenSpec.ofChange s with cond := some uptoSmall }

/-- 'billetlaw05.GraphTells', WHERE WHAT IT READS IS OF BULK AT MOST 1048576: true; the input reads as it did. -/
def graphTellsUptoRow : OpenClaim := { program := "ytfmfojogcghkkaa", sum := "d66b2ba62f66972b183fad7b63113c132d44cec94bef2479c0ed063fec23b938", func := "billet/billetlaw05.GraphTells", spec := "graphTells", unfollowed := true, recurses := true, apart := false, narrowed := true }
def GraphTellsUptoSaid : Prop := graphTellsUptoRow.holds Try.pinned (OpenSpec.upto graphTellsSpec)

/-- 'billetlaw05.GraphFlows', WHERE WHAT IT READS IS OF BULK AT MOST 1048576: true; the input reads as it did. -/
def graphFlowsUptoRow : OpenClaim := { program := "ytfmfojogcghkkaa", sum := "d66b2ba62f66972b183fad7b63113c132d44cec94bef2479c0ed063fec23b938", func := "billet/billetlaw05.GraphFlows", spec := "graphFlows", unfollowed := true, recurses := true, apart := false, narrowed := true }
def GraphFlowsUptoSaid : Prop := graphFlowsUptoRow.holds Try.pinned (OpenSpec.upto graphFlowsSpec)

/-- 'billetlaw05.GraphCuts', WHERE WHAT IT READS IS OF BULK AT MOST 1048576: true; the input reads as it did. -/
def graphCutsUptoRow : OpenClaim := { program := "ytfmfojogcghkkaa", sum := "d66b2ba62f66972b183fad7b63113c132d44cec94bef2479c0ed063fec23b938", func := "billet/billetlaw05.GraphCuts", spec := "graphCuts", unfollowed := true, recurses := true, apart := false, narrowed := true }
def GraphCutsUptoSaid : Prop := graphCutsUptoRow.holds Try.pinned (OpenSpec.upto graphCutsSpec)

/-- 'billetlaw05.GraphEnds', WHERE WHAT IT READS IS OF BULK AT MOST 1048576: true; the input reads as it did. -/
def graphEndsUptoRow : OpenClaim := { program := "ytfmfojogcghkkaa", sum := "d66b2ba62f66972b183fad7b63113c132d44cec94bef2479c0ed063fec23b938", func := "billet/billetlaw05.GraphEnds", spec := "graphEnds", unfollowed := true, recurses := true, apart := false, narrowed := true }
def GraphEndsUptoSaid : Prop := graphEndsUptoRow.holds Try.pinned (OpenSpec.upto graphEndsSpec)

/-- 'billetlaw05.GraphMirror', WHERE WHAT IT READS IS OF BULK AT MOST 1048576: true; the input reads as it did. -/
def graphMirrorUptoRow : OpenClaim := { program := "ytfmfojogcghkkaa", sum := "d66b2ba62f66972b183fad7b63113c132d44cec94bef2479c0ed063fec23b938", func := "billet/billetlaw05.GraphMirror", spec := "graphMirror", unfollowed := true, recurses := true, apart := false, narrowed := true }
def GraphMirrorUptoSaid : Prop := graphMirrorUptoRow.holds Try.pinned (OpenSpec.upto graphMirrorSpec)

/-- 'billetlaw05.GraphAdds', WHERE WHAT IT READS IS OF BULK AT MOST 1048576: true; the input reads as it did. -/
def graphAddsUptoRow : OpenClaim := { program := "ytfmfojogcghkkaa", sum := "d66b2ba62f66972b183fad7b63113c132d44cec94bef2479c0ed063fec23b938", func := "billet/billetlaw05.GraphAdds", spec := "graphAdds", unfollowed := true, recurses := true, apart := false, narrowed := true }
def GraphAddsUptoSaid : Prop := graphAddsUptoRow.holds Try.pinned (OpenSpec.upto graphAddsSpec)

/-- 'billetlaw05.GraphMore', WHERE WHAT IT READS IS OF BULK AT MOST 1048576: true; the input reads as it did. -/
def graphMoreUptoRow : OpenClaim := { program := "ytfmfojogcghkkaa", sum := "d66b2ba62f66972b183fad7b63113c132d44cec94bef2479c0ed063fec23b938", func := "billet/billetlaw05.GraphMore", spec := "graphMore", unfollowed := true, recurses := true, apart := false, narrowed := true }
def GraphMoreUptoSaid : Prop := graphMoreUptoRow.holds Try.pinned (OpenSpec.upto graphMoreSpec)

/-- 'billetlaw06.FlowTells', WHERE WHAT IT READS IS OF BULK AT MOST 1048576: true; the input reads as it did. -/
def flowTellsUptoRow : OpenClaim := { program := "ytfmfojogcghkkaa", sum := "d66b2ba62f66972b183fad7b63113c132d44cec94bef2479c0ed063fec23b938", func := "billet/billetlaw06.FlowTells", spec := "flowTells", unfollowed := true, recurses := true, apart := false, narrowed := true }
def FlowTellsUptoSaid : Prop := flowTellsUptoRow.holds Try.pinned (OpenSpec.upto flowTellsSpec)

/-- 'billetlaw06.FlowPushes', WHERE WHAT IT READS IS OF BULK AT MOST 1048576: true; the input reads as it did. -/
def flowPushesUptoRow : OpenClaim := { program := "ytfmfojogcghkkaa", sum := "d66b2ba62f66972b183fad7b63113c132d44cec94bef2479c0ed063fec23b938", func := "billet/billetlaw06.FlowPushes", spec := "flowPushes", unfollowed := true, recurses := true, apart := false, narrowed := true }
def FlowPushesUptoSaid : Prop := flowPushesUptoRow.holds Try.pinned (OpenSpec.upto flowPushesSpec)

/-- 'billetlaw06.FlowMost', WHERE WHAT IT READS IS OF BULK AT MOST 1048576: true; the input reads as it did. -/
def flowMostUptoRow : OpenClaim := { program := "ytfmfojogcghkkaa", sum := "d66b2ba62f66972b183fad7b63113c132d44cec94bef2479c0ed063fec23b938", func := "billet/billetlaw06.FlowMost", spec := "flowMost", unfollowed := true, recurses := true, apart := false, narrowed := true }
def FlowMostUptoSaid : Prop := flowMostUptoRow.holds Try.pinned (OpenSpec.upto flowMostSpec)

/-- 'billetlaw06.FlowAdds', WHERE WHAT IT READS IS OF BULK AT MOST 1048576: true; the input reads as it did. -/
def flowAddsUptoRow : OpenClaim := { program := "ytfmfojogcghkkaa", sum := "d66b2ba62f66972b183fad7b63113c132d44cec94bef2479c0ed063fec23b938", func := "billet/billetlaw06.FlowAdds", spec := "flowAdds", unfollowed := true, recurses := true, apart := false, narrowed := true }
def FlowAddsUptoSaid : Prop := flowAddsUptoRow.holds Try.pinned (OpenSpec.upto flowAddsSpec)

/-- 'billetlaw06.FlowSame', WHERE WHAT IT READS IS OF BULK AT MOST 1048576: true; the input reads as it did. -/
def flowSameUptoRow : OpenClaim := { program := "ytfmfojogcghkkaa", sum := "d66b2ba62f66972b183fad7b63113c132d44cec94bef2479c0ed063fec23b938", func := "billet/billetlaw06.FlowSame", spec := "flowSame", unfollowed := true, recurses := true, apart := false, narrowed := true }
def FlowSameUptoSaid : Prop := flowSameUptoRow.holds Try.pinned (OpenSpec.upto flowSameSpec)

/-- 'billetlaw06.FlowMirror', WHERE WHAT IT READS IS OF BULK AT MOST 1048576: true; the input reads as it did. -/
def flowMirrorUptoRow : OpenClaim := { program := "ytfmfojogcghkkaa", sum := "d66b2ba62f66972b183fad7b63113c132d44cec94bef2479c0ed063fec23b938", func := "billet/billetlaw06.FlowMirror", spec := "flowMirror", unfollowed := true, recurses := true, apart := false, narrowed := true }
def FlowMirrorUptoSaid : Prop := flowMirrorUptoRow.holds Try.pinned (OpenSpec.upto flowMirrorSpec)

/-- 'billetlaw06.FlowParts', WHERE WHAT IT READS IS OF BULK AT MOST 1048576: true; the input reads as it did. -/
def flowPartsUptoRow : OpenClaim := { program := "ytfmfojogcghkkaa", sum := "d66b2ba62f66972b183fad7b63113c132d44cec94bef2479c0ed063fec23b938", func := "billet/billetlaw06.FlowParts", spec := "flowParts", unfollowed := true, recurses := true, apart := false, narrowed := true }
def FlowPartsUptoSaid : Prop := flowPartsUptoRow.holds Try.pinned (OpenSpec.upto flowPartsSpec)

/-- 'billetlaw06.FlowTwice', WHERE WHAT IT READS IS OF BULK AT MOST 1048576: true; the input reads as it did. -/
def flowTwiceUptoRow : OpenClaim := { program := "ytfmfojogcghkkaa", sum := "d66b2ba62f66972b183fad7b63113c132d44cec94bef2479c0ed063fec23b938", func := "billet/billetlaw06.FlowTwice", spec := "flowTwice", unfollowed := true, recurses := true, apart := false, narrowed := true }
def FlowTwiceUptoSaid : Prop := flowTwiceUptoRow.holds Try.pinned (OpenSpec.upto flowTwiceSpec)

end Rows
end Go.Proofs.Ytfmfojogcghkkaa
