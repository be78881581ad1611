/- HeapLinks as the row asks for it. -/
import Derived.Test.YtepaddjjdhpmpaaDoorHeapLinks
set_option linter.unusedVariables false
namespace Go.Proofs.YtepaddjjdhpmpaaDoor.PHeapZ
open Go.RowKit Go.Proofs.YtepaddjjdhpmpaaDoorW.PrintWords Go.Proofs.YtepaddjjdhpmpaaDoorW.PrintLast
def HeapLinks.f (a0 a1 : Int) : Option Bool := some true
theorem HeapLinks.calls (a0 a1 : Int) (r : Bool) (w : World) (h : HeapLinks.f a0 a1 = some r) : Calls Tryd.prog 6 #[.int .i64 a0, .int .i64 a1] w fun e w' => e = .returned (.bool r) ∧ Below w.heap.size w w' := by
  obtain rfl := Option.some.inj h
  exact HeapA.links_walk a0 a1 w
end Go.Proofs.YtepaddjjdhpmpaaDoor.PHeapZ
