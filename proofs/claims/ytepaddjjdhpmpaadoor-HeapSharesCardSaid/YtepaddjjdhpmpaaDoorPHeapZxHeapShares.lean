/- HeapShares as the row asks for it. -/
import Derived.Test.YtepaddjjdhpmpaaDoorHeapShares
set_option linter.unusedVariables false
namespace Go.Proofs.YtepaddjjdhpmpaaDoor.PHeapZ
open Go.RowKit Go.Proofs.YtepaddjjdhpmpaaDoorW.PrintWords Go.Proofs.YtepaddjjdhpmpaaDoorW.PrintLast
def HeapShares.f (a0 a1 : Int) : Option Bool := some true
theorem HeapShares.calls (a0 a1 : Int) (r : Bool) (w : World) (h : HeapShares.f a0 a1 = some r) : Calls Tryd.prog 5 #[.int .i64 a0, .int .i64 a1] w fun e w' => e = .returned (.bool r) ∧ Below w.heap.size w w' := by
  obtain rfl := Option.some.inj h
  exact HeapA.shares_walk a0 a1 w
end Go.Proofs.YtepaddjjdhpmpaaDoor.PHeapZ
