/- DepsHides as the row asks for it. -/
import Derived.Test.YtlgpoigbadajnaaDepN
set_option linter.unusedVariables false
namespace Go.Proofs.Ytlgpoigbadajnaa.PDepZ
open Go.RowKit Go.Proofs.YtlgpoigbadajnaaW.PrintWords Go.Proofs.YtlgpoigbadajnaaW.PrintLast
def DepsHides.f (a0 : Int) : Option Bool := some true
theorem DepsHides.calls (a0 : Int) (r : Bool) (w : World) (h : DepsHides.f a0 = some r) : Calls Try.prog 3 #[.int .i64 a0] w fun e w' => e = .returned (.bool r) ∧ Below w.heap.size w w' := by
  obtain rfl := Option.some.inj h
  exact DepA.hides_walk a0 w
end Go.Proofs.Ytlgpoigbadajnaa.PDepZ
