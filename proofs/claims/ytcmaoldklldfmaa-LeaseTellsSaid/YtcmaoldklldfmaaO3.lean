/- What comes in, opened: acts. -/
import Derived.Test.YtcmaoldklldfmaaOp
import Derived.Test.YtcmaoldklldfmaaLm
namespace Go.Proofs.Ytcmaoldklldfmaa.P
open Go.RowKit Go.ChangeShapes Go.WideShapes Go.Deep Go.Proofs.YtcmaoldklldfmaaW.PrintWords Go.Proofs.Ytcmaoldklldfmaa.Op
theorem opensInts {H : Type} {enc : TypeId × Value → H} {w : World} {base : Nat} {spare : Nat → Bool} {held : Bool} : Opens enc Try.prog w base spare held 36 (Kd.slice 3 (Kd.int .i64)) (fun xs => ∀ x ∈ xs, (Lit.int .i64 x).wf = true) :=
  opens_slice Try.underlying36 (by kernel_rfl) (opens_int Try.underlying3)
theorem opens38 {H : Type} {enc : TypeId × Value → H} {w : World} {base : Nat} {spare : Nat → Bool} {held : Bool} : Opens enc Try.prog w base spare held 38 k38 Wf38 :=
  opens_imp (opens_iso (opens_struct4 Try.underlying38 (by kernel_rfl) rfl rfl rfl rfl (by kernel_rfl) (by kernel_rfl) (by kernel_rfl) (by kernel_rfl) (opens_int Try.underlying3) (opens_int Try.underlying3) (opens_int Try.underlying3) opensInts) (fun x : S38 => (x.f0, x.f1, x.f2, x.f3)) (fun y => ⟨y.1, y.2.1, y.2.2.1, y.2.2.2⟩) (fun _ => rfl)) (fun x h => h)
end Go.Proofs.Ytcmaoldklldfmaa.P
