/- How a slice of texts that came in reads: facts on the data of a row's arguments. No condition. -/
import Derived.Test.YtmoeekidmkhkoaaDoorProg
import Derived.Test.YtmoeekidmkhkoaaDoorCWAll
import Derived.Lib.SmallJoins
import Derived.Deep.Slices
import Derived.SizedLaws
import Derived.ChangeArms
import Derived.RowKit
namespace Go.Proofs.YtmoeekidmkhkoaaDoor.RowStr
open Go.ChangeShapes Go.WideShapes Go.ChangeAt Go.RowKit Go.Deep Go.Joins Go.Proofs.YtmoeekidmkhkoaaDoorW.PrintWords
set_option linter.unusedVariables false
set_option linter.unusedSimpArgs false
variable {H : Type} {enc : TypeId × Value → H} {W : World} {base : Nat} {spare : Nat → Bool} {held : Bool}
end Go.Proofs.YtmoeekidmkhkoaaDoor.RowStr

