/-
  DERIVED. GIVEN WITH THE SEED: THE CARDS: each row of YtepaddjjdhpmpaaDoorRows.lean that lists a variable, with what it lists TIED to the program's text (the seventh form; the later family's looks); each row that meets fmt, with fmt's text TOLD by the authors' own Lean function (tested against real Go, not proved from fmt's source: count such statements apart). THE CARD IS WHAT COUNTS. Prove the row's statement (the work); the ties are given (YtepaddjjdhpmpaaDoorTie.lean); close each card by the builder's one call (the guide's Derived/Test/ToyasCard.lean, 'card_holds'). Laid BY PROGRAM, IN A SANDBOX (cutbox-door.mjs). By AI agents, Wed Nov 11 2026. No macro, syntax, notation, axiom, sorry.
-/
import Derived.Test.YtepaddjjdhpmpaaDoorRows
import GoSem.ClaimSeven
namespace Go.Proofs.YtepaddjjdhpmpaaDoor
namespace Rows

/-- THE TIED CARD OF 'gristmilllaw22.HeapFull'. -/
def heapFullCard : Claim7 := { stood := { row := heapFullRow, standIns := [], harness := (true, "09f8011f1980a41bd019ba5091e519c33ab097c943a22da95018220ee45bf0f6"), looks := true }, kinds := [], alts := [], laidByText := true, laidKinds := [.sentinel], laidTests := true, laidLooks := .later }
def HeapFullCardSaid : Prop := Claim7.holds Tryd.pinned (.plain (OpenSpec.ofChange heapFullSpec)) heapFullCard

/-- THE TIED CARD OF 'gristmilllaw22.HeapLists'. -/
def heapListsCard : Claim7 := { stood := { row := heapListsRow, standIns := [], harness := (true, "09f8011f1980a41bd019ba5091e519c33ab097c943a22da95018220ee45bf0f6"), looks := true }, kinds := [], alts := [], laidByText := true, laidKinds := [.sentinel], laidTests := true, laidLooks := .later }
def HeapListsCardSaid : Prop := Claim7.holds Tryd.pinned (.plain (OpenSpec.ofChange heapListsSpec)) heapListsCard

/-- THE TIED CARD OF 'gristmilllaw22.HeapShares'. -/
def heapSharesCard : Claim7 := { stood := { row := heapSharesRow, standIns := [], harness := (true, "09f8011f1980a41bd019ba5091e519c33ab097c943a22da95018220ee45bf0f6"), looks := true }, kinds := [], alts := [], laidByText := true, laidKinds := [.sentinel], laidTests := true, laidLooks := .later }
def HeapSharesCardSaid : Prop := Claim7.holds Tryd.pinned (.plain (OpenSpec.ofChange heapSharesSpec)) heapSharesCard

/-- THE TIED CARD OF 'gristmilllaw22.HeapLinks'. -/
def heapLinksCard : Claim7 := { stood := { row := heapLinksRow, standIns := [], harness := (true, "09f8011f1980a41bd019ba5091e519c33ab097c943a22da95018220ee45bf0f6"), looks := true }, kinds := [], alts := [], laidByText := true, laidKinds := [.sentinel], laidTests := true, laidLooks := .later }
def HeapLinksCardSaid : Prop := Claim7.holds Tryd.pinned (.plain (OpenSpec.ofChange heapLinksSpec)) heapLinksCard

/-- THE TIED CARD OF 'gristmilllaw22.HeapApart'. -/
def heapApartCard : Claim7 := { stood := { row := heapApartRow, standIns := [], harness := (true, "09f8011f1980a41bd019ba5091e519c33ab097c943a22da95018220ee45bf0f6"), looks := true }, kinds := [], alts := [], laidByText := true, laidKinds := [.sentinel], laidTests := true, laidLooks := .later }
def HeapApartCardSaid : Prop := Claim7.holds Tryd.pinned (.plain (OpenSpec.ofChange heapApartSpec)) heapApartCard

/-- THE SECOND FORM's CARD OF 'gristmilllaw22.HeapFull'. -/
def heapFullUptoCard : Claim7 := { stood := { row := heapFullUptoRow, standIns := [], harness := (true, "09f8011f1980a41bd019ba5091e519c33ab097c943a22da95018220ee45bf0f6"), looks := true }, kinds := [], alts := [], laidByText := true, laidKinds := [.sentinel], laidTests := true, laidLooks := .later }
def HeapFullUptoCardSaid : Prop := Claim7.holds Tryd.pinned (.plain (OpenSpec.upto heapFullSpec)) heapFullUptoCard

/-- THE SECOND FORM's CARD OF 'gristmilllaw22.HeapLists'. -/
def heapListsUptoCard : Claim7 := { stood := { row := heapListsUptoRow, standIns := [], harness := (true, "09f8011f1980a41bd019ba5091e519c33ab097c943a22da95018220ee45bf0f6"), looks := true }, kinds := [], alts := [], laidByText := true, laidKinds := [.sentinel], laidTests := true, laidLooks := .later }
def HeapListsUptoCardSaid : Prop := Claim7.holds Tryd.pinned (.plain (OpenSpec.upto heapListsSpec)) heapListsUptoCard

/-- THE SECOND FORM's CARD OF 'gristmilllaw22.HeapShares'. -/
def heapSharesUptoCard : Claim7 := { stood := { row := heapSharesUptoRow, standIns := [], harness := (true, "09f8011f1980a41bd019ba5091e519c33ab097c943a22da95018220ee45bf0f6"), looks := true }, kinds := [], alts := [], laidByText := true, laidKinds := [.sentinel], laidTests := true, laidLooks := .later }
def HeapSharesUptoCardSaid : Prop := Claim7.holds Tryd.pinned (.plain (OpenSpec.upto heapSharesSpec)) heapSharesUptoCard

/-- THE SECOND FORM's CARD OF 'gristmilllaw22.HeapLinks'. -/
def heapLinksUptoCard : Claim7 := { stood := { row := heapLinksUptoRow, standIns := [], harness := (true, "09f8011f1980a41bd019ba5091e519c33ab097c943a22da95018220ee45bf0f6"), looks := true }, kinds := [], alts := [], laidByText := true, laidKinds := [.sentinel], laidTests := true, laidLooks := .later }
def HeapLinksUptoCardSaid : Prop := Claim7.holds Tryd.pinned (.plain (OpenSpec.upto heapLinksSpec)) heapLinksUptoCard

/-- THE SECOND FORM's CARD OF 'gristmilllaw22.HeapApart'. -/
def heapApartUptoCard : Claim7 := { stood := { row := heapApartUptoRow, standIns := [], harness := (true, "09f8011f1980a41bd019ba5091e519c33ab097c943a22da95018220ee45bf0f6"), looks := true }, kinds := [], alts := [], laidByText := true, laidKinds := [.sentinel], laidTests := true, laidLooks := .later }
def HeapApartUptoCardSaid : Prop := Claim7.holds Tryd.pinned (.plain (OpenSpec.upto heapApartSpec)) heapApartUptoCard
end Rows
end Go.Proofs.YtepaddjjdhpmpaaDoor
