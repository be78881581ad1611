import Derived.Test.YtepaddjjdhpmpaaDoorPHeapZxHeapFull
namespace Go.Proofs.YtepaddjjdhpmpaaDoor.Pure
open Go.RowKit Go.Proofs.YtepaddjjdhpmpaaDoor.PHeapZ Go.Proofs.YtepaddjjdhpmpaaDoorW.PrintWords Go.Proofs.YtepaddjjdhpmpaaDoorW.PrintLast
open Go.Proofs.YtepaddjjdhpmpaaDoor
theorem HeapFull : ∀ (a0 : Int) (a1 : Int), (Lit.int .i64 a0).wf = true → (Lit.int .i64 a1).wf = true → PHeapZ.HeapFull.f a0 a1 = some true := by
  intros
  rfl
end Go.Proofs.YtepaddjjdhpmpaaDoor.Pure
