import Derived.Test.YtlgpoigbadajnaaDoorPDepZxDepsChains
namespace Go.Proofs.YtlgpoigbadajnaaDoor.Pure
open Go.RowKit Go.Proofs.YtlgpoigbadajnaaDoor.PDepZ Go.Proofs.YtlgpoigbadajnaaDoorW.PrintWords Go.Proofs.YtlgpoigbadajnaaDoorW.PrintLast
open Go.Proofs.YtlgpoigbadajnaaDoor
theorem DepsChains : ∀ (a0 : Int) (a1 : Bool), (Lit.int .i64 a0).wf = true → PDepZ.DepsChains.f a0 a1 = some true := by
  intros
  rfl
end Go.Proofs.YtlgpoigbadajnaaDoor.Pure
