/-
  DERIVED. GIVEN WITH THE SEED: THE CARDS: each row of YtlgpoigbadajnaaDoorRows.lean that lists a variable, with what it lists TIED to the program's text (the seventh form; the later family's looks); each row that meets fmt, with fmt's text TOLD by the authors' own Lean function (tested against real Go, not proved from fmt's source: count such statements apart). THE CARD IS WHAT COUNTS. Prove the row's statement (the work); the ties are given (YtlgpoigbadajnaaDoorTie.lean); close each card by the builder's one call (the guide's Derived/Test/ToyasCard.lean, 'card_holds'). Laid BY PROGRAM, IN A SANDBOX (cutbox-door.mjs). By AI agents, Wed Nov 11 2026. No macro, syntax, notation, axiom, sorry.
-/
import Derived.Test.YtlgpoigbadajnaaDoorRows
import GoSem.ClaimSeven
namespace Go.Proofs.YtlgpoigbadajnaaDoor
namespace Rows

/-- THE TIED CARD OF 'gristmilllaw7.DepsChains'. -/
def depsChainsCard : Claim7 := { stood := { row := depsChainsRow, standIns := [], harness := (true, "ad6d9192bc67ebd5c032a4d8d8f00811739c3e3ad6b8b2ca29a442512fae1834"), looks := false }, kinds := [], alts := [], laidByText := true, laidKinds := [.data, .data, .data], laidTests := true, laidLooks := .later }
def DepsChainsCardSaid : Prop := Claim7.holds Tryd.pinned (.plain (OpenSpec.ofChange depsChainsSpec)) depsChainsCard

/-- THE TIED CARD OF 'gristmilllaw7.DepsSay'. -/
def depsSayCard : Claim7 := { stood := { row := depsSayRow, standIns := [], harness := (true, "ad6d9192bc67ebd5c032a4d8d8f00811739c3e3ad6b8b2ca29a442512fae1834"), looks := false }, kinds := [], alts := [], laidByText := true, laidKinds := [.data, .data, .data], laidTests := true, laidLooks := .later }
def DepsSayCardSaid : Prop := Claim7.holds Tryd.pinned (.plain (OpenSpec.ofChange depsSaySpec)) depsSayCard

/-- THE TIED CARD OF 'gristmilllaw7.DepsOrder'. -/
def depsOrderCard : Claim7 := { stood := { row := depsOrderRow, standIns := [], harness := (true, "ad6d9192bc67ebd5c032a4d8d8f00811739c3e3ad6b8b2ca29a442512fae1834"), looks := false }, kinds := [], alts := [], laidByText := true, laidKinds := [.data, .data, .data], laidTests := true, laidLooks := .later }
def DepsOrderCardSaid : Prop := Claim7.holds Tryd.pinned (.plain (OpenSpec.ofChange depsOrderSpec)) depsOrderCard

/-- THE SECOND FORM's CARD OF 'gristmilllaw7.DepsChains'. -/
def depsChainsUptoCard : Claim7 := { stood := { row := depsChainsUptoRow, standIns := [], harness := (true, "ad6d9192bc67ebd5c032a4d8d8f00811739c3e3ad6b8b2ca29a442512fae1834"), looks := false }, kinds := [], alts := [], laidByText := true, laidKinds := [.data, .data, .data], laidTests := true, laidLooks := .later }
def DepsChainsUptoCardSaid : Prop := Claim7.holds Tryd.pinned (.plain (OpenSpec.upto depsChainsSpec)) depsChainsUptoCard

/-- THE SECOND FORM's CARD OF 'gristmilllaw7.DepsSay'. -/
def depsSayUptoCard : Claim7 := { stood := { row := depsSayUptoRow, standIns := [], harness := (true, "ad6d9192bc67ebd5c032a4d8d8f00811739c3e3ad6b8b2ca29a442512fae1834"), looks := false }, kinds := [], alts := [], laidByText := true, laidKinds := [.data, .data, .data], laidTests := true, laidLooks := .later }
def DepsSayUptoCardSaid : Prop := Claim7.holds Tryd.pinned (.plain (OpenSpec.upto depsSaySpec)) depsSayUptoCard

/-- THE SECOND FORM's CARD OF 'gristmilllaw7.DepsOrder'. -/
def depsOrderUptoCard : Claim7 := { stood := { row := depsOrderUptoRow, standIns := [], harness := (true, "ad6d9192bc67ebd5c032a4d8d8f00811739c3e3ad6b8b2ca29a442512fae1834"), looks := false }, kinds := [], alts := [], laidByText := true, laidKinds := [.data, .data, .data], laidTests := true, laidLooks := .later }
def DepsOrderUptoCardSaid : Prop := Claim7.holds Tryd.pinned (.plain (OpenSpec.upto depsOrderSpec)) depsOrderUptoCard
end Rows
end Go.Proofs.YtlgpoigbadajnaaDoor
