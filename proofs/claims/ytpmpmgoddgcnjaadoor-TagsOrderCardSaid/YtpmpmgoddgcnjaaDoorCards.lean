/-
  DERIVED. GIVEN WITH THE SEED: THE CARDS: each row of YtpmpmgoddgcnjaaDoorRows.lean that lists a variable, with what it lists TIED to the program's text (the seventh form; the later family's looks); each row that meets fmt, with fmt's text TOLD by the authors' own Lean function (tested against real Go, not proved from fmt's source: count such statements apart). THE CARD IS WHAT COUNTS. Prove the row's statement (the work); the ties are given (YtpmpmgoddgcnjaaDoorTie.lean); close each card by the builder's one call (the guide's Derived/Test/ToyasCard.lean, 'card_holds'). Laid BY PROGRAM, IN A SANDBOX (cutbox-door.mjs). By AI agents, Wed Nov 11 2026. No macro, syntax, notation, axiom, sorry.
-/
import Derived.Test.YtpmpmgoddgcnjaaDoorRows
import GoSem.ClaimSeven
namespace Go.Proofs.YtpmpmgoddgcnjaaDoor
namespace Rows

/-- THE TIED CARD OF 'gristmilllaw14.TagsSay'. -/
def tagsSayCard : Claim7 := { stood := { row := tagsSayRow, standIns := [], harness := (true, "c8aeb0d4cbd018cdccb0b5c668b3b3ffa91438c756b5be4c0b16390dd3b134f0"), looks := false }, kinds := [], alts := [], laidByText := true, laidKinds := [.data, .data, .data], laidTests := true, laidLooks := .later }
def TagsSayCardSaid : Prop := Claim7.holds Tryd.pinned (.plain (OpenSpec.ofChange tagsSaySpec)) tagsSayCard

/-- THE TIED CARD OF 'gristmilllaw14.TagsOrder'. -/
def tagsOrderCard : Claim7 := { stood := { row := tagsOrderRow, standIns := [], harness := (true, "c8aeb0d4cbd018cdccb0b5c668b3b3ffa91438c756b5be4c0b16390dd3b134f0"), looks := false }, kinds := [], alts := [], laidByText := true, laidKinds := [.data, .data, .data], laidTests := true, laidLooks := .later }
def TagsOrderCardSaid : Prop := Claim7.holds Tryd.pinned (.plain (OpenSpec.ofChange tagsOrderSpec)) tagsOrderCard

/-- THE TIED CARD OF 'gristmilllaw14.TagsKinds'. -/
def tagsKindsCard : Claim7 := { stood := { row := tagsKindsRow, standIns := [], harness := (true, "c8aeb0d4cbd018cdccb0b5c668b3b3ffa91438c756b5be4c0b16390dd3b134f0"), looks := false }, kinds := [], alts := [], laidByText := true, laidKinds := [.data, .data, .data], laidTests := true, laidLooks := .later }
def TagsKindsCardSaid : Prop := Claim7.holds Tryd.pinned (.plain (OpenSpec.ofChange tagsKindsSpec)) tagsKindsCard

/-- THE TIED CARD OF 'gristmilllaw14.TagsUnite'. -/
def tagsUniteCard : Claim7 := { stood := { row := tagsUniteRow, standIns := [], harness := (true, "c8aeb0d4cbd018cdccb0b5c668b3b3ffa91438c756b5be4c0b16390dd3b134f0"), looks := false }, kinds := [], alts := [], laidByText := true, laidKinds := [.data, .data, .data], laidTests := true, laidLooks := .later }
def TagsUniteCardSaid : Prop := Claim7.holds Tryd.pinned (.plain (OpenSpec.ofChange tagsUniteSpec)) tagsUniteCard

/-- THE SECOND FORM's CARD OF 'gristmilllaw14.TagsSay'. -/
def tagsSayUptoCard : Claim7 := { stood := { row := tagsSayUptoRow, standIns := [], harness := (true, "c8aeb0d4cbd018cdccb0b5c668b3b3ffa91438c756b5be4c0b16390dd3b134f0"), looks := false }, kinds := [], alts := [], laidByText := true, laidKinds := [.data, .data, .data], laidTests := true, laidLooks := .later }
def TagsSayUptoCardSaid : Prop := Claim7.holds Tryd.pinned (.plain (OpenSpec.upto tagsSaySpec)) tagsSayUptoCard

/-- THE SECOND FORM's CARD OF 'gristmilllaw14.TagsOrder'. -/
def tagsOrderUptoCard : Claim7 := { stood := { row := tagsOrderUptoRow, standIns := [], harness := (true, "c8aeb0d4cbd018cdccb0b5c668b3b3ffa91438c756b5be4c0b16390dd3b134f0"), looks := false }, kinds := [], alts := [], laidByText := true, laidKinds := [.data, .data, .data], laidTests := true, laidLooks := .later }
def TagsOrderUptoCardSaid : Prop := Claim7.holds Tryd.pinned (.plain (OpenSpec.upto tagsOrderSpec)) tagsOrderUptoCard

/-- THE SECOND FORM's CARD OF 'gristmilllaw14.TagsKinds'. -/
def tagsKindsUptoCard : Claim7 := { stood := { row := tagsKindsUptoRow, standIns := [], harness := (true, "c8aeb0d4cbd018cdccb0b5c668b3b3ffa91438c756b5be4c0b16390dd3b134f0"), looks := false }, kinds := [], alts := [], laidByText := true, laidKinds := [.data, .data, .data], laidTests := true, laidLooks := .later }
def TagsKindsUptoCardSaid : Prop := Claim7.holds Tryd.pinned (.plain (OpenSpec.upto tagsKindsSpec)) tagsKindsUptoCard

/-- THE SECOND FORM's CARD OF 'gristmilllaw14.TagsUnite'. -/
def tagsUniteUptoCard : Claim7 := { stood := { row := tagsUniteUptoRow, standIns := [], harness := (true, "c8aeb0d4cbd018cdccb0b5c668b3b3ffa91438c756b5be4c0b16390dd3b134f0"), looks := false }, kinds := [], alts := [], laidByText := true, laidKinds := [.data, .data, .data], laidTests := true, laidLooks := .later }
def TagsUniteUptoCardSaid : Prop := Claim7.holds Tryd.pinned (.plain (OpenSpec.upto tagsUniteSpec)) tagsUniteUptoCard
end Rows
end Go.Proofs.YtpmpmgoddgcnjaaDoor
