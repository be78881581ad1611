/-
  NARROWER THAN 'FOR EVERY INPUT', by the rows' own cells (each row's printed sentence says how): HeapFull: laid · HeapLists: laid · HeapShares: laid · HeapLinks: laid · HeapApart: laid.
  DERIVED. THE GIVEN ROWS OF THIS SEAT. 5 by the template 'for every input the law returns true; each argument reads behind the call as it read before'; 0 by the template 'total and deterministic' (their statements: YtepaddjjdhpmpaaDoorTotals.lean).
  GIVEN WITH THE SEED: the statements are not yours to turn. If you find one false, say at which input.
  Laid BY PROGRAM, IN A SANDBOX (cutbox-rows.mjs): the forced cells as the released guide's own fill.sh prints them over the translation 6fb01378f6e1b6ff… (all of the seat's roots in one cut). By AI agents, Wed Nov 11 2026. No macro, syntax, notation, axiom, sorry.
-/
import Derived.Test.YtepaddjjdhpmpaaDoorChecked
import GoSem.Claim
import GoSem.ClaimJoined
import GoSem.ClaimMapViews
import Derived.JoinedTies
import Derived.KernelRfl
namespace Go.Proofs.YtepaddjjdhpmpaaDoor
/- THE CELL 'sum', in the pinned program and in every row, IS THE sha256 OF THE DUMP (.gsa) THAT YtepaddjjdhpmpaaDoorProg.lean LOADS. Nothing in Lean hashes anything: it is a label: what it is worth is what the hold of that sum in a sandbox is worth. -/
noncomputable def Tryd.pinned : Pinned := { name := "ytepaddjjdhpmpaadoor", sum := "6fb01378f6e1b6ff0995680f0ab3ca40bb8531a5cc36fff659dd38028e7f8740", checked := Tryd.checked }
namespace Rows
def none {H : Type} : Left H := { results := [], args := [] }

/- WHAT THE LISTED PACKAGE-LEVEL VARIABLES READ AS WHEN THE CALL BEGINS. Each datum BY PROGRAM (the guide's laid-datum.mjs) off the statement by which the dump's own 'gosem.cut.vars' lays the variable. In a bare row this is a premise. The card (YtepaddjjdhpmpaaDoorCards.lean) ties it to the program's text. -/
def laid_gristmill_api_ErrRange {H : Type} : DataW H := .iface "*errors.errorString" (.ptr (.agg [.lit (.string [97, 32, 110, 117, 109, 98, 101, 114, 32, 111, 117, 116, 32, 111, 102, 32, 105, 116, 115, 32, 114, 97, 110, 103, 101])]))

/-- 'gristmilllaw22.HeapFull': WHATEVER THE INPUT: true; the input reads as it did. -/
def heapFullSpec : ChangeSpec := { name := "heapFull", fn := fun _ => fun
  | [d1, d2] => { results := [.lit (.bool true)], args := [d1, d2] }
  | _ => none }
def heapFullRow : OpenClaim := { program := "ytepaddjjdhpmpaadoor", sum := "6fb01378f6e1b6ff0995680f0ab3ca40bb8531a5cc36fff659dd38028e7f8740", func := "gristmill/gristmilllaw22.HeapFull", spec := "heapFull", unfollowed := true, recurses := true, named := ["gristmill/api.ErrRange"], apart := false, laid := [("gristmill/api.ErrRange", laid_gristmill_api_ErrRange)] }
def HeapFullSaid : Prop := heapFullRow.holds Tryd.pinned (OpenSpec.ofChange heapFullSpec)

/-- ITS FALSE NEIGHBOUR: 'it returns false'. Refute it at one input. -/
def heapFullWrong : ChangeSpec := { name := "heapFull", fn := fun _ => fun
  | [d1, d2] => { results := [.lit (.bool false)], args := [d1, d2] }
  | _ => none }
def HeapFullWrongFalsely : Prop := heapFullRow.holds Tryd.pinned (OpenSpec.ofChange heapFullWrong)

/-- 'gristmilllaw22.HeapLists': WHATEVER THE INPUT: true; the input reads as it did. -/
def heapListsSpec : ChangeSpec := { name := "heapLists", fn := fun _ => fun
  | [d1, d2, d3] => { results := [.lit (.bool true)], args := [d1, d2, d3] }
  | _ => none }
def heapListsRow : OpenClaim := { program := "ytepaddjjdhpmpaadoor", sum := "6fb01378f6e1b6ff0995680f0ab3ca40bb8531a5cc36fff659dd38028e7f8740", func := "gristmill/gristmilllaw22.HeapLists", spec := "heapLists", unfollowed := true, recurses := true, named := ["gristmill/api.ErrRange"], apart := false, laid := [("gristmill/api.ErrRange", laid_gristmill_api_ErrRange)] }
def HeapListsSaid : Prop := heapListsRow.holds Tryd.pinned (OpenSpec.ofChange heapListsSpec)

/-- ITS FALSE NEIGHBOUR: 'it returns false'. Refute it at one input. -/
def heapListsWrong : ChangeSpec := { name := "heapLists", fn := fun _ => fun
  | [d1, d2, d3] => { results := [.lit (.bool false)], args := [d1, d2, d3] }
  | _ => none }
def HeapListsWrongFalsely : Prop := heapListsRow.holds Tryd.pinned (OpenSpec.ofChange heapListsWrong)

/-- 'gristmilllaw22.HeapShares': WHATEVER THE INPUT: true; the input reads as it did. -/
def heapSharesSpec : ChangeSpec := { name := "heapShares", fn := fun _ => fun
  | [d1, d2] => { results := [.lit (.bool true)], args := [d1, d2] }
  | _ => none }
def heapSharesRow : OpenClaim := { program := "ytepaddjjdhpmpaadoor", sum := "6fb01378f6e1b6ff0995680f0ab3ca40bb8531a5cc36fff659dd38028e7f8740", func := "gristmill/gristmilllaw22.HeapShares", spec := "heapShares", unfollowed := true, recurses := true, named := ["gristmill/api.ErrRange"], apart := false, laid := [("gristmill/api.ErrRange", laid_gristmill_api_ErrRange)] }
def HeapSharesSaid : Prop := heapSharesRow.holds Tryd.pinned (OpenSpec.ofChange heapSharesSpec)

/-- ITS FALSE NEIGHBOUR: 'it returns false'. Refute it at one input. -/
def heapSharesWrong : ChangeSpec := { name := "heapShares", fn := fun _ => fun
  | [d1, d2] => { results := [.lit (.bool false)], args := [d1, d2] }
  | _ => none }
def HeapSharesWrongFalsely : Prop := heapSharesRow.holds Tryd.pinned (OpenSpec.ofChange heapSharesWrong)

/-- 'gristmilllaw22.HeapLinks': WHATEVER THE INPUT: true; the input reads as it did. -/
def heapLinksSpec : ChangeSpec := { name := "heapLinks", fn := fun _ => fun
  | [d1, d2] => { results := [.lit (.bool true)], args := [d1, d2] }
  | _ => none }
def heapLinksRow : OpenClaim := { program := "ytepaddjjdhpmpaadoor", sum := "6fb01378f6e1b6ff0995680f0ab3ca40bb8531a5cc36fff659dd38028e7f8740", func := "gristmill/gristmilllaw22.HeapLinks", spec := "heapLinks", unfollowed := true, recurses := true, named := ["gristmill/api.ErrRange"], apart := false, laid := [("gristmill/api.ErrRange", laid_gristmill_api_ErrRange)] }
def HeapLinksSaid : Prop := heapLinksRow.holds Tryd.pinned (OpenSpec.ofChange heapLinksSpec)

/-- ITS FALSE NEIGHBOUR: 'it returns false'. Refute it at one input. -/
def heapLinksWrong : ChangeSpec := { name := "heapLinks", fn := fun _ => fun
  | [d1, d2] => { results := [.lit (.bool false)], args := [d1, d2] }
  | _ => none }
def HeapLinksWrongFalsely : Prop := heapLinksRow.holds Tryd.pinned (OpenSpec.ofChange heapLinksWrong)

/-- 'gristmilllaw22.HeapApart': WHATEVER THE INPUT: true; the input reads as it did. -/
def heapApartSpec : ChangeSpec := { name := "heapApart", fn := fun _ => fun
  | [d] => { results := [.lit (.bool true)], args := [d] }
  | _ => none }
def heapApartRow : OpenClaim := { program := "ytepaddjjdhpmpaadoor", sum := "6fb01378f6e1b6ff0995680f0ab3ca40bb8531a5cc36fff659dd38028e7f8740", func := "gristmill/gristmilllaw22.HeapApart", spec := "heapApart", inPlace := ["maps.clone"], unfollowed := true, recurses := true, named := ["gristmill/api.ErrRange"], apart := false, laid := [("gristmill/api.ErrRange", laid_gristmill_api_ErrRange)] }
def HeapApartSaid : Prop := heapApartRow.holds Tryd.pinned (OpenSpec.ofChange heapApartSpec)

/-- ITS FALSE NEIGHBOUR: 'it returns false'. Refute it at one input. -/
def heapApartWrong : ChangeSpec := { name := "heapApart", fn := fun _ => fun
  | [d] => { results := [.lit (.bool false)], args := [d] }
  | _ => none }
def HeapApartWrongFalsely : Prop := heapApartRow.holds Tryd.pinned (OpenSpec.ofChange heapApartWrong)

/- THE SECOND FORM. 'bulk': how many values and letters a reading holds, each counted each time it is reached (what is shared counts as often as it is met; a slice's spare places count too). A statement '..UptoSaid' is the law's where the arguments, and the package variables that the reading takes, are together of bulk at most 1048576: NARROWER than '..Said'. Prove '..Said' where nothing that the law and all that it calls make is longer than what came in: it says more and counts as full. Else prove '..UptoSaid'. A law counts once. -/
mutual
def uptoBulk {H : Type} : DataW H → Nat
  | .lit (.string bytes) => bytes.length + 1
  | .lit _ => 1
  | .nil => 1
  | .ptr d => uptoBulk d + 1
  | .slice elems spare => uptoBulkAll elems + uptoBulkAll spare + 1
  | .agg parts => uptoBulkAll parts + 1
  | .iface _ d => uptoBulk d + 1
  | .map entries => uptoBulkEntries entries + 1
  | .held _ => 1
def uptoBulkAll {H : Type} : List (DataW H) → Nat
  | [] => 0
  | d :: r => uptoBulk d + uptoBulkAll r
def uptoBulkEntries {H : Type} : List (Lit × DataW H) → Nat
  | [] => 0
  | x :: r => uptoBulkEntry x + uptoBulkEntries r
def uptoBulkEntry {H : Type} : Lit × DataW H → Nat
  | (.string bytes, d) => bytes.length + uptoBulk d + 1
  | (_, d) => uptoBulk d + 1
 end
def uptoSmall : (H : Type) → List (DataW H) → Bool := fun _ ds => decide (uptoBulkAll ds ≤ 1048576)
def OpenSpec.upto (s : _root_.Go.ChangeSpec) : _root_.Go.OpenSpec := { _root_.Go.OpenSpec.ofChange s with cond := some uptoSmall }

/-- 'gristmilllaw22.HeapFull', WHERE WHAT IT READS IS OF BULK AT MOST 1048576: true; the input reads as it did. -/
def heapFullUptoRow : OpenClaim := { program := "ytepaddjjdhpmpaadoor", sum := "6fb01378f6e1b6ff0995680f0ab3ca40bb8531a5cc36fff659dd38028e7f8740", func := "gristmill/gristmilllaw22.HeapFull", spec := "heapFull", unfollowed := true, recurses := true, named := ["gristmill/api.ErrRange"], apart := false, laid := [("gristmill/api.ErrRange", laid_gristmill_api_ErrRange)], narrowed := true }
def HeapFullUptoSaid : Prop := heapFullUptoRow.holds Tryd.pinned (OpenSpec.upto heapFullSpec)

/-- 'gristmilllaw22.HeapLists', WHERE WHAT IT READS IS OF BULK AT MOST 1048576: true; the input reads as it did. -/
def heapListsUptoRow : OpenClaim := { program := "ytepaddjjdhpmpaadoor", sum := "6fb01378f6e1b6ff0995680f0ab3ca40bb8531a5cc36fff659dd38028e7f8740", func := "gristmill/gristmilllaw22.HeapLists", spec := "heapLists", unfollowed := true, recurses := true, named := ["gristmill/api.ErrRange"], apart := false, laid := [("gristmill/api.ErrRange", laid_gristmill_api_ErrRange)], narrowed := true }
def HeapListsUptoSaid : Prop := heapListsUptoRow.holds Tryd.pinned (OpenSpec.upto heapListsSpec)

/-- 'gristmilllaw22.HeapShares', WHERE WHAT IT READS IS OF BULK AT MOST 1048576: true; the input reads as it did. -/
def heapSharesUptoRow : OpenClaim := { program := "ytepaddjjdhpmpaadoor", sum := "6fb01378f6e1b6ff0995680f0ab3ca40bb8531a5cc36fff659dd38028e7f8740", func := "gristmill/gristmilllaw22.HeapShares", spec := "heapShares", unfollowed := true, recurses := true, named := ["gristmill/api.ErrRange"], apart := false, laid := [("gristmill/api.ErrRange", laid_gristmill_api_ErrRange)], narrowed := true }
def HeapSharesUptoSaid : Prop := heapSharesUptoRow.holds Tryd.pinned (OpenSpec.upto heapSharesSpec)

/-- 'gristmilllaw22.HeapLinks', WHERE WHAT IT READS IS OF BULK AT MOST 1048576: true; the input reads as it did. -/
def heapLinksUptoRow : OpenClaim := { program := "ytepaddjjdhpmpaadoor", sum := "6fb01378f6e1b6ff0995680f0ab3ca40bb8531a5cc36fff659dd38028e7f8740", func := "gristmill/gristmilllaw22.HeapLinks", spec := "heapLinks", unfollowed := true, recurses := true, named := ["gristmill/api.ErrRange"], apart := false, laid := [("gristmill/api.ErrRange", laid_gristmill_api_ErrRange)], narrowed := true }
def HeapLinksUptoSaid : Prop := heapLinksUptoRow.holds Tryd.pinned (OpenSpec.upto heapLinksSpec)

/-- 'gristmilllaw22.HeapApart', WHERE WHAT IT READS IS OF BULK AT MOST 1048576: true; the input reads as it did. -/
def heapApartUptoRow : OpenClaim := { program := "ytepaddjjdhpmpaadoor", sum := "6fb01378f6e1b6ff0995680f0ab3ca40bb8531a5cc36fff659dd38028e7f8740", func := "gristmill/gristmilllaw22.HeapApart", spec := "heapApart", inPlace := ["maps.clone"], unfollowed := true, recurses := true, named := ["gristmill/api.ErrRange"], apart := false, laid := [("gristmill/api.ErrRange", laid_gristmill_api_ErrRange)], narrowed := true }
def HeapApartUptoSaid : Prop := heapApartUptoRow.holds Tryd.pinned (OpenSpec.upto heapApartSpec)

end Rows
end Go.Proofs.YtepaddjjdhpmpaaDoor
