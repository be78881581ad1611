/- For each Go function that the laws of this group reach: a plain function with the same answers, and the proof that the call comes to them wherever the plain function has an answer. No other condition. (Laid by a program of this session.) -/
import Derived.Test.YtlgpoigbadajnaaDoorOPDepAx0
import Derived.Test.YtlgpoigbadajnaaDoorOPX
namespace Go.Proofs.YtlgpoigbadajnaaDoor.PDepA
open Go.RowKit Go.Proofs.YtlgpoigbadajnaaDoorW.PrintWords Go.Proofs.YtlgpoigbadajnaaDoorW.PrintLast Go.Proofs.YtlgpoigbadajnaaDoorW.PrintMore
attribute [local go_sem] ZG ZP ZY Ve ZC ZB ZQ ZO   -- for this text's walks alone
set_option linter.unusedVariables false
set_option linter.unusedSimpArgs false
end Go.Proofs.YtlgpoigbadajnaaDoor.PDepA

