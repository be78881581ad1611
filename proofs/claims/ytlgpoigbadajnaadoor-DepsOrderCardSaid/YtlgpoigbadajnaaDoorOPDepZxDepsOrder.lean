/- DepsOrder as the row asks for it. -/
import Derived.Test.YtlgpoigbadajnaaDoorODepBA
set_option linter.unusedVariables false
namespace Go.Proofs.YtlgpoigbadajnaaDoor.PDepZ
open Go.RowKit Go.Proofs.YtlgpoigbadajnaaDoorW.PrintWords Go.Proofs.YtlgpoigbadajnaaDoorW.PrintLast Go.Proofs.YtlgpoigbadajnaaDoor.PDepA Go.Proofs.YtlgpoigbadajnaaDoor.DepA Go.Proofs.YtlgpoigbadajnaaDoor.DepA.Z
theorem DepsOrder.walk (P : True) (ls0 : List S56) (fs0 : List S34) (A0d A0f : Option Addr) (c0d c0f : Nat) (w : World) (w0d : ls0.length ≤ BL ∧ ∀ x ∈ ls0, RD x) (w0f : fs0.length ≤ BL ∧ ∀ x ∈ fs0, RF x) (g0d : Kd.C k56 w A0d ls0.length ls0) (m0d : ls0.length ≤ c0d) (g0f : Kd.C k34 w A0f fs0.length fs0) (m0f : fs0.length ≤ c0f) (hGG : GG w) : Calls Tryd.prog 5 #[.agg #[.slice A0d ls0.length c0d, .slice A0f fs0.length c0f]] w fun e w' => e = .returned (.bool true) ∧ Below w.heap.size w w' :=
 DepA.Z.order_row ls0 fs0 w hGG w0d w0f g0d m0d g0f m0f
end Go.Proofs.YtlgpoigbadajnaaDoor.PDepZ
namespace Go.Proofs.YtlgpoigbadajnaaDoor.Pure
theorem DepsOrder : True := trivial
end Go.Proofs.YtlgpoigbadajnaaDoor.Pure

