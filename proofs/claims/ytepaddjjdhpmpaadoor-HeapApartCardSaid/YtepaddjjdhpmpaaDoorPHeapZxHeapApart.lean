/- HeapApart as the row asks for it. -/
import Derived.Test.YtepaddjjdhpmpaaDoorHeapApart
set_option linter.unusedVariables false
namespace Go.Proofs.YtepaddjjdhpmpaaDoor.PHeapZ
open Go.RowKit Go.Proofs.YtepaddjjdhpmpaaDoorW.PrintWords Go.Proofs.YtepaddjjdhpmpaaDoorW.PrintLast
def HeapApart.f (a0 : Int) : Option Bool := some true
theorem HeapApart.calls (a0 : Int) (r : Bool) (w : World) (h : HeapApart.f a0 = some r) : Calls Tryd.prog 7 #[.int .i64 a0] w fun e w' => e = .returned (.bool r) ∧ Below w.heap.size w w' := by
  obtain rfl := Option.some.inj h
  exact HeapA.apart_walk a0 w
end Go.Proofs.YtepaddjjdhpmpaaDoor.PHeapZ
