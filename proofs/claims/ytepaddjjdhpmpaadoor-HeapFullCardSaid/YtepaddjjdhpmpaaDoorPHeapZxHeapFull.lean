/- HeapFull as the row asks for it. -/
import Derived.Test.YtepaddjjdhpmpaaDoorHeapFull
set_option linter.unusedVariables false
namespace Go.Proofs.YtepaddjjdhpmpaaDoor.PHeapZ
open Go.RowKit Go.Proofs.YtepaddjjdhpmpaaDoorW.PrintWords Go.Proofs.YtepaddjjdhpmpaaDoorW.PrintLast
def HeapFull.f (a0 a1 : Int) : Option Bool := some true
theorem HeapFull.calls (a0 a1 : Int) (r : Bool) (w : World) (h : HeapFull.f a0 a1 = some r) : Calls Tryd.prog 3 #[.int .i64 a0, .int .i64 a1] w fun e w' => e = .returned (.bool r) ∧ Below w.heap.size w w' := by
  obtain rfl := Option.some.inj h
  exact HeapA.full_walk a0 a1 w
end Go.Proofs.YtepaddjjdhpmpaaDoor.PHeapZ
