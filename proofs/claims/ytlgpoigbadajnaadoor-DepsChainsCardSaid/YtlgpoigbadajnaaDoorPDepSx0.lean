/- For each Go function that the laws of this group reach: a plain function with the same answers, and the proof that the call comes to them wherever the plain function has an answer. No other condition. (Laid by a program of this session.) -/
import Derived.Test.YtlgpoigbadajnaaDoorProg
import Derived.Below
import Derived.Deep.Draws
import Derived.Deep.AppendLies
import Derived.Maps.AppendAt
import Derived.OwnWalk
import Derived.Laws.BytesArg
import Derived.Laws.MakeOwn
import Derived.Laws.OwnMore
import Derived.Deep.OwnRows
import Derived.Tactics
import Derived.Lib.ConvBytes
import Derived.Laws.Slices
import Derived.WalkKit
import Derived.KernelRfl
import Derived.RowKit3
import Derived.Deep.LoopGhost
import Derived.Deep.QuietTactic
import Derived.BigQuiet
import Derived.WideLaws
import Derived.Deep.DeepCutAuto
import Derived.Deep.CutBlock
import Derived.Deep.RegionHeld3
import Derived.Laws.Rows
import Derived.Lib.AppendStr
import Derived.ArgAppend
import Derived.Laws.IdiomCopy
import Derived.OrdersHeld
import Derived.Laws.BitsLemmas
import Derived.RowKit
import Derived.Test.YtlgpoigbadajnaaDoorWWords
import Derived.Test.YtlgpoigbadajnaaDoorWLast
import Derived.Test.YtlgpoigbadajnaaDoorWTab
import Derived.Test.YtlgpoigbadajnaaDoorWFour
import Derived.Test.YtlgpoigbadajnaaDoorWQPut
import Derived.Test.YtlgpoigbadajnaaDoorWApart
import Derived.Test.YtlgpoigbadajnaaDoorWArr
import Derived.Test.YtlgpoigbadajnaaDoorWZeros
import Derived.Test.YtlgpoigbadajnaaDoorWFoot
import Derived.Test.YtlgpoigbadajnaaDoorWKept
import Derived.Test.YtlgpoigbadajnaaDoorWShare
import Derived.Test.YtlgpoigbadajnaaDoorWN
import Derived.Test.YtlgpoigbadajnaaDoorWFootNe
import Derived.Test.YtlgpoigbadajnaaDoorWAt
import Derived.Test.YtlgpoigbadajnaaDoorWEqStruct
import Derived.Test.YtlgpoigbadajnaaDoorWRepsOne
import Derived.Test.YtlgpoigbadajnaaDoorWInv
import Derived.Test.YtlgpoigbadajnaaDoorWInvWords
import Derived.Test.YtlgpoigbadajnaaDoorWGuard
import Derived.Test.YtlgpoigbadajnaaDoorWNEv
import Derived.Test.YtlgpoigbadajnaaDoorWMore
namespace Go.Proofs.YtlgpoigbadajnaaDoor.PDepS
open Go.RowKit Go.Proofs.YtlgpoigbadajnaaDoorW.PrintWords Go.Proofs.YtlgpoigbadajnaaDoorW.PrintLast Go.Proofs.YtlgpoigbadajnaaDoorW.PrintMore
attribute [local go_sem] max2_int min2_int max_two min_two max_three min_three max_four min_four   -- for this text's walks alone
set_option linter.unusedVariables false
set_option linter.unusedSimpArgs false



def errW : Option Int → Value
  | none => .nilIface
  | some c => .iface 0 (.int .i64 c)
theorem errW_none : errW none = .nilIface := rfl
theorem errW_some (c : Int) : errW (some c) = .iface 0 (.int .i64 c) := rfl

-- the values' own types

end Go.Proofs.YtlgpoigbadajnaaDoor.PDepS
