/-
  DERIVED. GIVEN WITH THE SEED: THE CARDS: each row of YtiacndjjppcaoaaDoorRows.lean that lists a variable, with what it lists TIED to the program's text (the seventh form; the later family's looks); each row that meets fmt, with fmt's text TOLD by the authors' own Lean function (tested against real Go, not proved from fmt's source: count such statements apart). THE CARD IS WHAT COUNTS. Prove the row's statement (the work); the ties are given (YtiacndjjppcaoaaDoorTie.lean); close each card by the builder's one call (the guide's Derived/Test/ToyasCard.lean, 'card_holds'). Laid BY PROGRAM, IN A SANDBOX (cutbox-door.mjs). By AI agents, Wed Nov 11 2026. No macro, syntax, notation, axiom, sorry.
-/
import Derived.Test.YtiacndjjppcaoaaDoorRows
import GoSem.ClaimSeven
namespace Go.Proofs.YtiacndjjppcaoaaDoor
namespace Rows

/-- THE TIED CARD OF 'gristmilllaw3.LexApart'. -/
def lexApartCard : Claim7 := { stood := { row := lexApartRow, standIns := [], harness := (true, "8c6a58ca2b02062936bc65614b96741089d92ffe542ceace368aed614cc7e5d2"), looks := true }, kinds := [], alts := [], laidByText := true, laidKinds := [.sentinel], laidTests := true, laidLooks := .later }
def LexApartCardSaid : Prop := Claim7.holds Tryd.pinned (.plain (OpenSpec.ofChange lexApartSpec)) lexApartCard

/-- THE TIED CARD OF 'gristmilllaw3.LexJoins'. -/
def lexJoinsCard : Claim7 := { stood := { row := lexJoinsRow, standIns := [], harness := (true, "8c6a58ca2b02062936bc65614b96741089d92ffe542ceace368aed614cc7e5d2"), looks := true }, kinds := [], alts := [], laidByText := true, laidKinds := [.sentinel], laidTests := true, laidLooks := .later }
def LexJoinsCardSaid : Prop := Claim7.holds Tryd.pinned (.plain (OpenSpec.ofChange lexJoinsSpec)) lexJoinsCard

/-- THE TIED CARD OF 'gristmilllaw3.LexSays'. -/
def lexSaysCard : Claim7 := { stood := { row := lexSaysRow, standIns := [], harness := (true, "8c6a58ca2b02062936bc65614b96741089d92ffe542ceace368aed614cc7e5d2"), looks := true }, kinds := [], alts := [], laidByText := true, laidKinds := [.sentinel], laidTests := true, laidLooks := .later }
def LexSaysCardSaid : Prop := Claim7.holds Tryd.pinned (.plain (OpenSpec.ofChange lexSaysSpec)) lexSaysCard

/-- THE TIED CARD OF 'gristmilllaw3.LexMany'. -/
def lexManyCard : Claim7 := { stood := { row := lexManyRow, standIns := [], harness := (true, "8c6a58ca2b02062936bc65614b96741089d92ffe542ceace368aed614cc7e5d2"), looks := true }, kinds := [], alts := [], laidByText := true, laidKinds := [.sentinel, .sentinel, .sentinel, .sentinel, .sentinel, .sentinel, .sentinel, .sentinel, .sentinel, .sentinel, .sentinel, .sentinel, .sentinel, .sentinel, .sentinel, .sentinel, .sentinel, .sentinel], laidTests := true, laidLooks := .later }
def LexManyCardSaid : Prop := Claim7.holds Tryd.pinned (.plain (OpenSpec.ofChange lexManySpec)) lexManyCard

/-- THE TIED CARD OF 'gristmilllaw3.LexNames'. -/
def lexNamesCard : Claim7 := { stood := { row := lexNamesRow, standIns := [], harness := (true, "8c6a58ca2b02062936bc65614b96741089d92ffe542ceace368aed614cc7e5d2"), looks := true }, kinds := [], alts := [], laidByText := true, laidKinds := [.sentinel], laidTests := true, laidLooks := .later }
def LexNamesCardSaid : Prop := Claim7.holds Tryd.pinned (.plain (OpenSpec.ofChange lexNamesSpec)) lexNamesCard

/-- THE SECOND FORM's CARD OF 'gristmilllaw3.LexApart'. -/
def lexApartUptoCard : Claim7 := { stood := { row := lexApartUptoRow, standIns := [], harness := (true, "8c6a58ca2b02062936bc65614b96741089d92ffe542ceace368aed614cc7e5d2"), looks := true }, kinds := [], alts := [], laidByText := true, laidKinds := [.sentinel], laidTests := true, laidLooks := .later }
def LexApartUptoCardSaid : Prop := Claim7.holds Tryd.pinned (.plain (OpenSpec.upto lexApartSpec)) lexApartUptoCard

/-- THE SECOND FORM's CARD OF 'gristmilllaw3.LexJoins'. -/
def lexJoinsUptoCard : Claim7 := { stood := { row := lexJoinsUptoRow, standIns := [], harness := (true, "8c6a58ca2b02062936bc65614b96741089d92ffe542ceace368aed614cc7e5d2"), looks := true }, kinds := [], alts := [], laidByText := true, laidKinds := [.sentinel], laidTests := true, laidLooks := .later }
def LexJoinsUptoCardSaid : Prop := Claim7.holds Tryd.pinned (.plain (OpenSpec.upto lexJoinsSpec)) lexJoinsUptoCard

/-- THE SECOND FORM's CARD OF 'gristmilllaw3.LexSays'. -/
def lexSaysUptoCard : Claim7 := { stood := { row := lexSaysUptoRow, standIns := [], harness := (true, "8c6a58ca2b02062936bc65614b96741089d92ffe542ceace368aed614cc7e5d2"), looks := true }, kinds := [], alts := [], laidByText := true, laidKinds := [.sentinel], laidTests := true, laidLooks := .later }
def LexSaysUptoCardSaid : Prop := Claim7.holds Tryd.pinned (.plain (OpenSpec.upto lexSaysSpec)) lexSaysUptoCard

/-- THE SECOND FORM's CARD OF 'gristmilllaw3.LexMany'. -/
def lexManyUptoCard : Claim7 := { stood := { row := lexManyUptoRow, standIns := [], harness := (true, "8c6a58ca2b02062936bc65614b96741089d92ffe542ceace368aed614cc7e5d2"), looks := true }, kinds := [], alts := [], laidByText := true, laidKinds := [.sentinel, .sentinel, .sentinel, .sentinel, .sentinel, .sentinel, .sentinel, .sentinel, .sentinel, .sentinel, .sentinel, .sentinel, .sentinel, .sentinel, .sentinel, .sentinel, .sentinel, .sentinel], laidTests := true, laidLooks := .later }
def LexManyUptoCardSaid : Prop := Claim7.holds Tryd.pinned (.plain (OpenSpec.upto lexManySpec)) lexManyUptoCard

/-- THE SECOND FORM's CARD OF 'gristmilllaw3.LexNames'. -/
def lexNamesUptoCard : Claim7 := { stood := { row := lexNamesUptoRow, standIns := [], harness := (true, "8c6a58ca2b02062936bc65614b96741089d92ffe542ceace368aed614cc7e5d2"), looks := true }, kinds := [], alts := [], laidByText := true, laidKinds := [.sentinel], laidTests := true, laidLooks := .later }
def LexNamesUptoCardSaid : Prop := Claim7.holds Tryd.pinned (.plain (OpenSpec.upto lexNamesSpec)) lexNamesUptoCard
end Rows
end Go.Proofs.YtiacndjjppcaoaaDoor
