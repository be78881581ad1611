import Derived.Test.YtlgpoigbadajnaaPDepZxDepsHides
namespace Go.Proofs.Ytlgpoigbadajnaa.Pure
open Go.RowKit Go.Proofs.Ytlgpoigbadajnaa.PDepZ Go.Proofs.YtlgpoigbadajnaaW.PrintWords Go.Proofs.YtlgpoigbadajnaaW.PrintLast
open Go.Proofs.Ytlgpoigbadajnaa
theorem DepsHides : ∀ (a0 : Int), (Lit.int .i64 a0).wf = true → PDepZ.DepsHides.f a0 = some true := by
  intros
  rfl
end Go.Proofs.Ytlgpoigbadajnaa.Pure
