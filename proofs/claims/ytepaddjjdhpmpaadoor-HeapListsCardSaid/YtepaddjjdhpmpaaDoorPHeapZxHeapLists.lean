/- HeapLists as the row asks for it. -/
import Derived.Test.YtepaddjjdhpmpaaDoorHeapLists
set_option linter.unusedVariables false
namespace Go.Proofs.YtepaddjjdhpmpaaDoor.PHeapZ
open Go.RowKit Go.Proofs.YtepaddjjdhpmpaaDoorW.PrintWords Go.Proofs.YtepaddjjdhpmpaaDoorW.PrintLast
def HeapLists.f (a0 a1 : Int) (a2 : Bool) : Option Bool := some true
theorem HeapLists.calls (a0 a1 : Int) (a2 : Bool) (r : Bool) (w : World) (h : HeapLists.f a0 a1 a2 = some r) : Calls Tryd.prog 4 #[.int .i64 a0, .int .i64 a1, .bool a2] w fun e w' => e = .returned (.bool r) ∧ Below w.heap.size w w' := by
  obtain rfl := Option.some.inj h
  exact HeapA.lists_walk a0 a1 a2 w
end Go.Proofs.YtepaddjjdhpmpaaDoor.PHeapZ
