/-
  DERIVED. GIVEN WITH THE SEED: THE PROGRAM's TIES (one call each: nine closed facts by the kernel) AND EACH ROW's TIE, after the 31st guide's Derived/Test/Toyas{Tie, Card}.lean. No idea stands in it: it is a product of the set-up. Laid BY PROGRAM, IN A SANDBOX (cutbox-door.mjs). By AI agents, Wed Nov 11 2026. No macro, syntax, notation, axiom, sorry.
-/
import Derived.Test.YthbiofcgaegjkaaDoorRows
import Derived.LaidByTextLater
import Derived.SevenTiedAt
import Derived.LaidSub
import Derived.LaidOnce
namespace Go.Proofs.YthbiofcgaegjkaaDoor
open Go
set_option maxRecDepth 100000
theorem seatTie1 : Tryd.prog.laidByTextLater [("gristmill/api.ErrEnd", Rows.laid_gristmill_api_ErrEnd), ("gristmill/api.ErrShape", Rows.laid_gristmill_api_ErrShape), ("gristmill/api.ErrRange", Rows.laid_gristmill_api_ErrRange), ("gristmill/api.ErrMany", Rows.laid_gristmill_api_ErrMany), ("gristmill/api.ErrDeep", Rows.laid_gristmill_api_ErrDeep), ("gristmill/api.ErrOpen", Rows.laid_gristmill_api_ErrOpen), ("gristmill/api.ErrClose", Rows.laid_gristmill_api_ErrClose), ("gristmill/api.ErrForm", Rows.laid_gristmill_api_ErrForm), ("gristmill/api.ErrName", Rows.laid_gristmill_api_ErrName), ("gristmill/api.ErrTwice", Rows.laid_gristmill_api_ErrTwice), ("gristmill/api.ErrNone", Rows.laid_gristmill_api_ErrNone), ("gristmill/api.ErrArity", Rows.laid_gristmill_api_ErrArity), ("gristmill/api.ErrMain", Rows.laid_gristmill_api_ErrMain), ("gristmill/api.ErrType", Rows.laid_gristmill_api_ErrType), ("gristmill/api.ErrBound", Rows.laid_gristmill_api_ErrBound), ("gristmill/api.ErrTag", Rows.laid_gristmill_api_ErrTag), ("gristmill/api.ErrWord", Rows.laid_gristmill_api_ErrWord), ("gristmill/api.ErrNumber", Rows.laid_gristmill_api_ErrNumber)] [.sentinel, .sentinel, .sentinel, .sentinel, .sentinel, .sentinel, .sentinel, .sentinel, .sentinel, .sentinel, .sentinel, .sentinel, .sentinel, .sentinel, .sentinel, .sentinel, .sentinel, .sentinel] true :=
  Program.laidByTextLater_by_one 351 8 2 (by kernel_rfl) (by kernel_rfl) (by kernel_rfl) (by kernel_rfl) (by kernel_rfl) (by kernel_rfl) (fun _ _ => by kernel_rfl)
theorem noOwnUnsafe : Tryd.pinned.checked.prog.headLifts.contains "ownunsafe" = false := by kernel_rfl
theorem tie : Tryd.prog.laidByTextLater [("gristmill/api.ErrMany", Rows.laid_gristmill_api_ErrMany), ("gristmill/api.ErrDeep", Rows.laid_gristmill_api_ErrDeep), ("gristmill/api.ErrOpen", Rows.laid_gristmill_api_ErrOpen), ("gristmill/api.ErrClose", Rows.laid_gristmill_api_ErrClose)] [.sentinel, .sentinel, .sentinel, .sentinel] true :=
  Program.laidByTextLater.sub seatTie1 ["gristmill/api.ErrMany", "gristmill/api.ErrDeep", "gristmill/api.ErrOpen", "gristmill/api.ErrClose"] (by kernel_rfl) (by kernel_rfl)
theorem treePlaces_row_tie : Rows.treePlacesRow.laidByTextAt .later Tryd.pinned [.sentinel, .sentinel, .sentinel, .sentinel] true :=
  OpenClaim.laidByTextAt_later rfl rfl tie noOwnUnsafe
theorem treeWraps_row_tie : Rows.treeWrapsRow.laidByTextAt .later Tryd.pinned [.sentinel, .sentinel, .sentinel, .sentinel] true :=
  OpenClaim.laidByTextAt_later rfl rfl tie noOwnUnsafe
theorem tie2 : Tryd.prog.laidByTextLater [("gristmill/api.ErrEnd", Rows.laid_gristmill_api_ErrEnd), ("gristmill/api.ErrShape", Rows.laid_gristmill_api_ErrShape), ("gristmill/api.ErrRange", Rows.laid_gristmill_api_ErrRange), ("gristmill/api.ErrMany", Rows.laid_gristmill_api_ErrMany), ("gristmill/api.ErrDeep", Rows.laid_gristmill_api_ErrDeep), ("gristmill/api.ErrOpen", Rows.laid_gristmill_api_ErrOpen), ("gristmill/api.ErrClose", Rows.laid_gristmill_api_ErrClose), ("gristmill/api.ErrForm", Rows.laid_gristmill_api_ErrForm), ("gristmill/api.ErrName", Rows.laid_gristmill_api_ErrName), ("gristmill/api.ErrTwice", Rows.laid_gristmill_api_ErrTwice), ("gristmill/api.ErrNone", Rows.laid_gristmill_api_ErrNone), ("gristmill/api.ErrArity", Rows.laid_gristmill_api_ErrArity), ("gristmill/api.ErrMain", Rows.laid_gristmill_api_ErrMain), ("gristmill/api.ErrType", Rows.laid_gristmill_api_ErrType), ("gristmill/api.ErrBound", Rows.laid_gristmill_api_ErrBound), ("gristmill/api.ErrTag", Rows.laid_gristmill_api_ErrTag), ("gristmill/api.ErrWord", Rows.laid_gristmill_api_ErrWord), ("gristmill/api.ErrNumber", Rows.laid_gristmill_api_ErrNumber)] [.sentinel, .sentinel, .sentinel, .sentinel, .sentinel, .sentinel, .sentinel, .sentinel, .sentinel, .sentinel, .sentinel, .sentinel, .sentinel, .sentinel, .sentinel, .sentinel, .sentinel, .sentinel] true :=
  Program.laidByTextLater.sub seatTie1 ["gristmill/api.ErrEnd", "gristmill/api.ErrShape", "gristmill/api.ErrRange", "gristmill/api.ErrMany", "gristmill/api.ErrDeep", "gristmill/api.ErrOpen", "gristmill/api.ErrClose", "gristmill/api.ErrForm", "gristmill/api.ErrName", "gristmill/api.ErrTwice", "gristmill/api.ErrNone", "gristmill/api.ErrArity", "gristmill/api.ErrMain", "gristmill/api.ErrType", "gristmill/api.ErrBound", "gristmill/api.ErrTag", "gristmill/api.ErrWord", "gristmill/api.ErrNumber"] (by kernel_rfl) (by kernel_rfl)
theorem treeDeep_row_tie : Rows.treeDeepRow.laidByTextAt .later Tryd.pinned [.sentinel, .sentinel, .sentinel, .sentinel, .sentinel, .sentinel, .sentinel, .sentinel, .sentinel, .sentinel, .sentinel, .sentinel, .sentinel, .sentinel, .sentinel, .sentinel, .sentinel, .sentinel] true :=
  OpenClaim.laidByTextAt_later rfl rfl tie2 noOwnUnsafe
theorem treePlacesUpto_row_tie : Rows.treePlacesUptoRow.laidByTextAt .later Tryd.pinned [.sentinel, .sentinel, .sentinel, .sentinel] true :=
  OpenClaim.laidByTextAt_later rfl rfl tie noOwnUnsafe
theorem treeDeepUpto_row_tie : Rows.treeDeepUptoRow.laidByTextAt .later Tryd.pinned [.sentinel, .sentinel, .sentinel, .sentinel, .sentinel, .sentinel, .sentinel, .sentinel, .sentinel, .sentinel, .sentinel, .sentinel, .sentinel, .sentinel, .sentinel, .sentinel, .sentinel, .sentinel] true :=
  OpenClaim.laidByTextAt_later rfl rfl tie2 noOwnUnsafe
theorem treeWrapsUpto_row_tie : Rows.treeWrapsUptoRow.laidByTextAt .later Tryd.pinned [.sentinel, .sentinel, .sentinel, .sentinel] true :=
  OpenClaim.laidByTextAt_later rfl rfl tie noOwnUnsafe
end Go.Proofs.YthbiofcgaegjkaaDoor
