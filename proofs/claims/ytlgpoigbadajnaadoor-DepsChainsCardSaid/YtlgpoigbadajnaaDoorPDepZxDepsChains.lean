/- DepsChains as the row asks for it. -/
import Derived.Test.YtlgpoigbadajnaaDoorDepQ
set_option linter.unusedVariables false
namespace Go.Proofs.YtlgpoigbadajnaaDoor.PDepZ
open Go.RowKit Go.Proofs.YtlgpoigbadajnaaDoorW.PrintWords Go.Proofs.YtlgpoigbadajnaaDoorW.PrintLast
def DepsChains.f (a0 : Int) (a1 : Bool) : Option Bool := some true
theorem DepsChains.calls (a0 : Int) (a1 : Bool) (r : Bool) (w : World) (h : DepsChains.f a0 a1 = some r) : Calls Tryd.prog 3 #[.int .i64 a0, .bool a1] w fun e w' => e = .returned (.bool r) ∧ Below w.heap.size w w' := by
  obtain rfl := Option.some.inj h
  exact DepA.chains_walk a0 a1 w
end Go.Proofs.YtlgpoigbadajnaaDoor.PDepZ
