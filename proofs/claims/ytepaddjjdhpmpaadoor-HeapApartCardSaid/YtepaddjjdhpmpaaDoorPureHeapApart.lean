import Derived.Test.YtepaddjjdhpmpaaDoorPHeapZxHeapApart
namespace Go.Proofs.YtepaddjjdhpmpaaDoor.Pure
open Go.RowKit Go.Proofs.YtepaddjjdhpmpaaDoor.PHeapZ Go.Proofs.YtepaddjjdhpmpaaDoorW.PrintWords Go.Proofs.YtepaddjjdhpmpaaDoorW.PrintLast
open Go.Proofs.YtepaddjjdhpmpaaDoor
theorem HeapApart : ∀ (a0 : Int), (Lit.int .i64 a0).wf = true → PHeapZ.HeapApart.f a0 = some true := by
  intros
  rfl
end Go.Proofs.YtepaddjjdhpmpaaDoor.Pure
