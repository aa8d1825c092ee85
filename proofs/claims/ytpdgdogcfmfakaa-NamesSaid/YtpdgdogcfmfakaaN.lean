/- Names of billettop: its walk. -/
import Derived.Test.YtpdgdogcfmfakaaRows
import Derived.WalkKit
namespace Go.Proofs.Ytpdgdogcfmfakaa
open Go.RowKit
theorem Names_any (w : World) : Calls Try.prog 9 #[] w fun e w' => e = .returned (.bool true) ∧ Below w.heap.size w w' := by
  go_enter Try.func9, Try.ntmps9
  go_wp2
  go_ret
  exact ⟨rfl, Below.refl _ _⟩
end Go.Proofs.Ytpdgdogcfmfakaa
