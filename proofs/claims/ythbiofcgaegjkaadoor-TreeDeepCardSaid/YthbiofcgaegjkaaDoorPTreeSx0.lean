/- For each Go function that the laws of this group reach: a plain function with the same answers, and the proof that the call comes to them wherever the plain function has an answer. No other condition. (Laid by a program of this session.) -/
import Derived.Test.YthbiofcgaegjkaaDoorProg
import Derived.Below
import Derived.Deep.Draws
import Derived.Deep.AppendLies
import Derived.Maps.AppendAt
import Derived.OwnWalk
import Derived.Laws.BytesArg
import Derived.Laws.MakeOwn
import Derived.Laws.OwnMore
import Derived.Deep.OwnRows
import Derived.Tactics
import Derived.Lib.ConvBytes
import Derived.Laws.Slices
import Derived.WalkKit
import Derived.KernelRfl
import Derived.RowKit3
import Derived.Deep.LoopGhost
import Derived.Deep.QuietTactic
import Derived.BigQuiet
import Derived.WideLaws
import Derived.Deep.DeepCutAuto
import Derived.Deep.CutBlock
import Derived.Deep.RegionHeld3
import Derived.Laws.Rows
import Derived.Lib.AppendStr
import Derived.ArgAppend
import Derived.Laws.IdiomCopy
import Derived.OrdersHeld
import Derived.Laws.BitsLemmas
import Derived.RowKit
import Derived.Test.YthbiofcgaegjkaaDoorWWords
import Derived.Test.YthbiofcgaegjkaaDoorWLast
import Derived.Test.YthbiofcgaegjkaaDoorWTab
import Derived.Test.YthbiofcgaegjkaaDoorWFour
import Derived.Test.YthbiofcgaegjkaaDoorWQPut
import Derived.Test.YthbiofcgaegjkaaDoorWApart
import Derived.Test.YthbiofcgaegjkaaDoorWArr
import Derived.Test.YthbiofcgaegjkaaDoorWZeros
import Derived.Test.YthbiofcgaegjkaaDoorWFoot
import Derived.Test.YthbiofcgaegjkaaDoorWKept
import Derived.Test.YthbiofcgaegjkaaDoorWShare
import Derived.Test.YthbiofcgaegjkaaDoorWN
import Derived.Test.YthbiofcgaegjkaaDoorWFootNe
import Derived.Test.YthbiofcgaegjkaaDoorWAt
import Derived.Test.YthbiofcgaegjkaaDoorWEqStruct
import Derived.Test.YthbiofcgaegjkaaDoorWRepsOne
import Derived.Test.YthbiofcgaegjkaaDoorWInv
import Derived.Test.YthbiofcgaegjkaaDoorWInvWords
import Derived.Test.YthbiofcgaegjkaaDoorWGuard
import Derived.Test.YthbiofcgaegjkaaDoorWNEv
import Derived.Test.YthbiofcgaegjkaaDoorWMore
namespace Go.Proofs.YthbiofcgaegjkaaDoor.PTreeS
open Go.RowKit Go.Proofs.YthbiofcgaegjkaaDoorW.PrintWords Go.Proofs.YthbiofcgaegjkaaDoorW.PrintLast Go.Proofs.YthbiofcgaegjkaaDoorW.PrintMore
attribute [local go_sem] max2_int min2_int max_two min_two max_three min_three max_four min_four   -- for this text's walks alone
set_option linter.unusedVariables false
set_option linter.unusedSimpArgs false



def errW : Option Int → Value
  | none => .nilIface
  | some c => .iface 0 (.int .i64 c)
theorem errW_none : errW none = .nilIface := rfl
theorem errW_some (c : Int) : errW (some c) = .iface 0 (.int .i64 c) := rfl

-- the values' own types

end Go.Proofs.YthbiofcgaegjkaaDoor.PTreeS
