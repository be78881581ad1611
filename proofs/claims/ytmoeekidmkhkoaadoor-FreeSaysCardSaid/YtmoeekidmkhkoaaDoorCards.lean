/-
  DERIVED. GIVEN WITH THE SEED: THE CARDS: each row of YtmoeekidmkhkoaaDoorRows.lean that lists a variable, with what it lists TIED to the program's text (the seventh form; the later family's looks); each row that meets fmt, with fmt's text TOLD by the authors' own Lean function (tested against real Go, not proved from fmt's source: count such statements apart). THE CARD IS WHAT COUNTS. Prove the row's statement (the work); the ties are given (YtmoeekidmkhkoaaDoorTie.lean); close each card by the builder's one call (the guide's Derived/Test/ToyasCard.lean, 'card_holds'). Laid BY PROGRAM, IN A SANDBOX (cutbox-door.mjs). By AI agents, Wed Nov 11 2026. No macro, syntax, notation, axiom, sorry.
-/
import Derived.Test.YtmoeekidmkhkoaaDoorRows
import GoSem.ClaimSeven
namespace Go.Proofs.YtmoeekidmkhkoaaDoor
namespace Rows

/-- THE TIED CARD OF 'gristmilllaw10.FreeFresh'. -/
def freeFreshCard : Claim7 := { stood := { row := freeFreshRow, standIns := [], harness := (true, "285ba18f4959960798d3479a8299ef3ff7a567568d97bc1e6671ef994692d8ef"), looks := false }, kinds := [], alts := [], laidByText := true, laidKinds := [.data, .data, .data], laidTests := true, laidLooks := .later }
def FreeFreshCardSaid : Prop := Claim7.holds Tryd.pinned (.plain (OpenSpec.ofChange freeFreshSpec)) freeFreshCard

/-- THE TIED CARD OF 'gristmilllaw10.FreeLets'. -/
def freeLetsCard : Claim7 := { stood := { row := freeLetsRow, standIns := [], harness := (true, "285ba18f4959960798d3479a8299ef3ff7a567568d97bc1e6671ef994692d8ef"), looks := false }, kinds := [], alts := [], laidByText := true, laidKinds := [.data, .data, .data], laidTests := true, laidLooks := .later }
def FreeLetsCardSaid : Prop := Claim7.holds Tryd.pinned (.plain (OpenSpec.ofChange freeLetsSpec)) freeLetsCard

/-- THE TIED CARD OF 'gristmilllaw10.FreeBinds'. -/
def freeBindsCard : Claim7 := { stood := { row := freeBindsRow, standIns := [], harness := (true, "285ba18f4959960798d3479a8299ef3ff7a567568d97bc1e6671ef994692d8ef"), looks := false }, kinds := [], alts := [], laidByText := true, laidKinds := [.data, .data, .data], laidTests := true, laidLooks := .later }
def FreeBindsCardSaid : Prop := Claim7.holds Tryd.pinned (.plain (OpenSpec.ofChange freeBindsSpec)) freeBindsCard

/-- THE TIED CARD OF 'gristmilllaw10.FreeSays'. -/
def freeSaysCard : Claim7 := { stood := { row := freeSaysRow, standIns := [], harness := (true, "285ba18f4959960798d3479a8299ef3ff7a567568d97bc1e6671ef994692d8ef"), looks := false }, kinds := [], alts := [], laidByText := true, laidKinds := [.data, .data, .data], laidTests := true, laidLooks := .later }
def FreeSaysCardSaid : Prop := Claim7.holds Tryd.pinned (.plain (OpenSpec.ofChange freeSaysSpec)) freeSaysCard

/-- THE SECOND FORM's CARD OF 'gristmilllaw10.FreeFresh'. -/
def freeFreshUptoCard : Claim7 := { stood := { row := freeFreshUptoRow, standIns := [], harness := (true, "285ba18f4959960798d3479a8299ef3ff7a567568d97bc1e6671ef994692d8ef"), looks := false }, kinds := [], alts := [], laidByText := true, laidKinds := [.data, .data, .data], laidTests := true, laidLooks := .later }
def FreeFreshUptoCardSaid : Prop := Claim7.holds Tryd.pinned (.plain (OpenSpec.upto freeFreshSpec)) freeFreshUptoCard

/-- THE SECOND FORM's CARD OF 'gristmilllaw10.FreeLets'. -/
def freeLetsUptoCard : Claim7 := { stood := { row := freeLetsUptoRow, standIns := [], harness := (true, "285ba18f4959960798d3479a8299ef3ff7a567568d97bc1e6671ef994692d8ef"), looks := false }, kinds := [], alts := [], laidByText := true, laidKinds := [.data, .data, .data], laidTests := true, laidLooks := .later }
def FreeLetsUptoCardSaid : Prop := Claim7.holds Tryd.pinned (.plain (OpenSpec.upto freeLetsSpec)) freeLetsUptoCard

/-- THE SECOND FORM's CARD OF 'gristmilllaw10.FreeBinds'. -/
def freeBindsUptoCard : Claim7 := { stood := { row := freeBindsUptoRow, standIns := [], harness := (true, "285ba18f4959960798d3479a8299ef3ff7a567568d97bc1e6671ef994692d8ef"), looks := false }, kinds := [], alts := [], laidByText := true, laidKinds := [.data, .data, .data], laidTests := true, laidLooks := .later }
def FreeBindsUptoCardSaid : Prop := Claim7.holds Tryd.pinned (.plain (OpenSpec.upto freeBindsSpec)) freeBindsUptoCard

/-- THE SECOND FORM's CARD OF 'gristmilllaw10.FreeSays'. -/
def freeSaysUptoCard : Claim7 := { stood := { row := freeSaysUptoRow, standIns := [], harness := (true, "285ba18f4959960798d3479a8299ef3ff7a567568d97bc1e6671ef994692d8ef"), looks := false }, kinds := [], alts := [], laidByText := true, laidKinds := [.data, .data, .data], laidTests := true, laidLooks := .later }
def FreeSaysUptoCardSaid : Prop := Claim7.holds Tryd.pinned (.plain (OpenSpec.upto freeSaysSpec)) freeSaysUptoCard
end Rows
end Go.Proofs.YtmoeekidmkhkoaaDoor
