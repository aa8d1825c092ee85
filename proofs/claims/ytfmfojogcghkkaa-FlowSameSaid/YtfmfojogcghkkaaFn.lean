/- pick of chapter 6. -/
import Derived.Test.YtfmfojogcghkkaaFm
import Derived.Test.YtfmfojogcghkkaaFw
import Derived.Test.YtfmfojogcghkkaaPx39
namespace Go.Proofs.Ytfmfojogcghkkaa.Fm
open Go.RowKit Go.Proofs.Ytfmfojogcghkkaa.P Go.Proofs.YtfmfojogcghkkaaW.PrintWords Go.Proofs.YtfmfojogcghkkaaW.PrintLast
open Go.Proofs.Ytfmfojogcghkkaa.Fl Go.Proofs.Ytfmfojogcghkkaa.Bf Go.Proofs.Ytfmfojogcghkkaa.Pp Go.Proofs.Ytfmfojogcghkkaa.Gp Go.Proofs.Ytfmfojogcghkkaa.Fw
theorem pick6 {a n : Int} (ha : I64 a) (hn : 0 < n) : Ev (fun _ => billetlaw06_pick.f a n) (pk a n) := ⟨0, fun _ _ => pick_ev ha hn⟩
end Go.Proofs.Ytfmfojogcghkkaa.Fm
