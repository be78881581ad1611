/-
  DERIVED. GIVEN WITH THE SEED: THE CARDS: each row of YtkikfkhonjobcaaDoorRows.lean that lists a variable, with what it lists TIED to the program's text (the seventh form; the later family's looks); each row that meets fmt, with fmt's text TOLD by the authors' own Lean function (tested against real Go, not proved from fmt's source: count such statements apart). THE CARD IS WHAT COUNTS. Prove the row's statement (the work); the ties are given (YtkikfkhonjobcaaDoorTie.lean); close each card by the builder's one call (the guide's Derived/Test/ToyasCard.lean, 'card_holds'). Laid BY PROGRAM, IN A SANDBOX (cutbox-door.mjs). By AI agents, Wed Nov 11 2026. No macro, syntax, notation, axiom, sorry.
-/
import Derived.Test.YtkikfkhonjobcaaDoorRows
import GoSem.ClaimSeven
namespace Go.Proofs.YtkikfkhonjobcaaDoor
namespace Rows

/-- THE TIED CARD OF 'gristmilllaw2.NumDivides'. -/
def numDividesCard : Claim7 := { stood := { row := numDividesRow, standIns := [], harness := (true, "be02bbd30c24826a19287e12c400f4df31fa6d629899f35f088a7a00f3422dd6"), looks := true }, kinds := [], alts := [], laidByText := true, laidKinds := [.data, .data, .data], laidTests := true, laidLooks := .later }
def NumDividesCardSaid : Prop := Claim7.holds Tryd.pinned (.plain (OpenSpec.ofChange numDividesSpec)) numDividesCard

/-- THE TIED CARD OF 'gristmilllaw2.NumRing'. -/
def numRingCard : Claim7 := { stood := { row := numRingRow, standIns := [], harness := (true, "be02bbd30c24826a19287e12c400f4df31fa6d629899f35f088a7a00f3422dd6"), looks := true }, kinds := [], alts := [], laidByText := true, laidKinds := [.data, .data, .data], laidTests := true, laidLooks := .later }
def NumRingCardSaid : Prop := Claim7.holds Tryd.pinned (.plain (OpenSpec.ofChange numRingSpec)) numRingCard

/-- THE TIED CARD OF 'gristmilllaw2.NumWords'. -/
def numWordsCard : Claim7 := { stood := { row := numWordsRow, standIns := [], harness := (true, "be02bbd30c24826a19287e12c400f4df31fa6d629899f35f088a7a00f3422dd6"), looks := true }, kinds := [], alts := [], laidByText := true, laidKinds := [.data, .data, .data], laidTests := true, laidLooks := .later }
def NumWordsCardSaid : Prop := Claim7.holds Tryd.pinned (.plain (OpenSpec.ofChange numWordsSpec)) numWordsCard

/-- THE TIED CARD OF 'gristmilllaw2.NumBack'. -/
def numBackCard : Claim7 := { stood := { row := numBackRow, standIns := [], harness := (true, "be02bbd30c24826a19287e12c400f4df31fa6d629899f35f088a7a00f3422dd6"), looks := true }, kinds := [], alts := [], laidByText := true, laidKinds := [.data, .data, .data, .sentinel, .sentinel, .sentinel], laidTests := true, laidLooks := .later }
def NumBackCardSaid : Prop := Claim7.holds Tryd.pinned (.plain (OpenSpec.ofChange numBackSpec)) numBackCard

/-- THE TIED CARD OF 'gristmilllaw2.NumSays'. -/
def numSaysCard : Claim7 := { stood := { row := numSaysRow, standIns := [], harness := (true, "be02bbd30c24826a19287e12c400f4df31fa6d629899f35f088a7a00f3422dd6"), looks := true }, kinds := [], alts := [], laidByText := true, laidKinds := [.data, .data, .data, .sentinel, .sentinel, .sentinel, .sentinel, .sentinel, .sentinel, .sentinel, .sentinel, .sentinel, .sentinel, .sentinel, .sentinel, .sentinel, .sentinel, .sentinel, .sentinel, .sentinel, .sentinel, .sentinel, .sentinel], laidTests := true, laidLooks := .later }
def NumSaysCardSaid : Prop := Claim7.holds Tryd.pinned (.plain (OpenSpec.ofChange numSaysSpec)) numSaysCard

/-- THE SECOND FORM's CARD OF 'gristmilllaw2.NumDivides'. -/
def numDividesUptoCard : Claim7 := { stood := { row := numDividesUptoRow, standIns := [], harness := (true, "be02bbd30c24826a19287e12c400f4df31fa6d629899f35f088a7a00f3422dd6"), looks := true }, kinds := [], alts := [], laidByText := true, laidKinds := [.data, .data, .data], laidTests := true, laidLooks := .later }
def NumDividesUptoCardSaid : Prop := Claim7.holds Tryd.pinned (.plain (OpenSpec.upto numDividesSpec)) numDividesUptoCard

/-- THE SECOND FORM's CARD OF 'gristmilllaw2.NumRing'. -/
def numRingUptoCard : Claim7 := { stood := { row := numRingUptoRow, standIns := [], harness := (true, "be02bbd30c24826a19287e12c400f4df31fa6d629899f35f088a7a00f3422dd6"), looks := true }, kinds := [], alts := [], laidByText := true, laidKinds := [.data, .data, .data], laidTests := true, laidLooks := .later }
def NumRingUptoCardSaid : Prop := Claim7.holds Tryd.pinned (.plain (OpenSpec.upto numRingSpec)) numRingUptoCard

/-- THE SECOND FORM's CARD OF 'gristmilllaw2.NumWords'. -/
def numWordsUptoCard : Claim7 := { stood := { row := numWordsUptoRow, standIns := [], harness := (true, "be02bbd30c24826a19287e12c400f4df31fa6d629899f35f088a7a00f3422dd6"), looks := true }, kinds := [], alts := [], laidByText := true, laidKinds := [.data, .data, .data], laidTests := true, laidLooks := .later }
def NumWordsUptoCardSaid : Prop := Claim7.holds Tryd.pinned (.plain (OpenSpec.upto numWordsSpec)) numWordsUptoCard

/-- THE SECOND FORM's CARD OF 'gristmilllaw2.NumBack'. -/
def numBackUptoCard : Claim7 := { stood := { row := numBackUptoRow, standIns := [], harness := (true, "be02bbd30c24826a19287e12c400f4df31fa6d629899f35f088a7a00f3422dd6"), looks := true }, kinds := [], alts := [], laidByText := true, laidKinds := [.data, .data, .data, .sentinel, .sentinel, .sentinel], laidTests := true, laidLooks := .later }
def NumBackUptoCardSaid : Prop := Claim7.holds Tryd.pinned (.plain (OpenSpec.upto numBackSpec)) numBackUptoCard

/-- THE SECOND FORM's CARD OF 'gristmilllaw2.NumSays'. -/
def numSaysUptoCard : Claim7 := { stood := { row := numSaysUptoRow, standIns := [], harness := (true, "be02bbd30c24826a19287e12c400f4df31fa6d629899f35f088a7a00f3422dd6"), looks := true }, kinds := [], alts := [], laidByText := true, laidKinds := [.data, .data, .data, .sentinel, .sentinel, .sentinel, .sentinel, .sentinel, .sentinel, .sentinel, .sentinel, .sentinel, .sentinel, .sentinel, .sentinel, .sentinel, .sentinel, .sentinel, .sentinel, .sentinel, .sentinel, .sentinel, .sentinel], laidTests := true, laidLooks := .later }
def NumSaysUptoCardSaid : Prop := Claim7.holds Tryd.pinned (.plain (OpenSpec.upto numSaysSpec)) numSaysUptoCard
end Rows
end Go.Proofs.YtkikfkhonjobcaaDoor
