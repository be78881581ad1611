/-
  NARROWER THAN 'FOR EVERY INPUT', by the rows' own cells (each row's printed sentence says how): TreePlaces: laid · TreeDeep: laid · TreeWraps: laid.
  DERIVED. THE GIVEN ROWS OF THIS SEAT. 3 by the template 'for every input the law returns true; each argument reads behind the call as it read before'; 0 by the template 'total and deterministic' (their statements: YthbiofcgaegjkaaDoorTotals.lean).
  GIVEN WITH THE SEED: the statements are not yours to turn. If you find one false, say at which input.
  Laid BY PROGRAM, IN A SANDBOX (cutbox-rows.mjs): the forced cells as the released guide's own fill.sh prints them over the translation 47111c5ffff4000f… (all of the seat's roots in one cut). By AI agents, Wed Nov 11 2026. No macro, syntax, notation, axiom, sorry.
-/
import Derived.Test.YthbiofcgaegjkaaDoorChecked
import GoSem.Claim
import GoSem.ClaimJoined
import GoSem.ClaimMapViews
import Derived.JoinedTies
import Derived.KernelRfl
namespace Go.Proofs.YthbiofcgaegjkaaDoor
/- THE CELL 'sum', in the pinned program and in every row, IS THE sha256 OF THE DUMP (.gsa) THAT YthbiofcgaegjkaaDoorProg.lean LOADS. Nothing in Lean hashes anything: it is a label: what it is worth is what the hold of that sum in a sandbox is worth. -/
noncomputable def Tryd.pinned : Pinned := { name := "ythbiofcgaegjkaadoor", sum := "47111c5ffff4000feec9152f8397b1b2342c6d29593845fa98032421b4c9f5ff", checked := Tryd.checked }
namespace Rows
def none {H : Type} : Left H := { results := [], args := [] }

/- WHAT THE LISTED PACKAGE-LEVEL VARIABLES READ AS WHEN THE CALL BEGINS. Each datum BY PROGRAM (the guide's laid-datum.mjs) off the statement by which the dump's own 'gosem.cut.vars' lays the variable. In a bare row this is a premise. The card (YthbiofcgaegjkaaDoorCards.lean) ties it to the program's text. -/
def laid_gristmill_api_ErrMany {H : Type} : DataW H := .iface "*errors.errorString" (.ptr (.agg [.lit (.string [116, 111, 111, 32, 109, 97, 110, 121])]))
def laid_gristmill_api_ErrDeep {H : Type} : DataW H := .iface "*errors.errorString" (.ptr (.agg [.lit (.string [116, 111, 111, 32, 100, 101, 101, 112])]))
def laid_gristmill_api_ErrOpen {H : Type} : DataW H := .iface "*errors.errorString" (.ptr (.agg [.lit (.string [97, 32, 98, 114, 97, 99, 107, 101, 116, 32, 116, 104, 97, 116, 32, 105, 115, 32, 110, 111, 116, 32, 99, 108, 111, 115, 101, 100])]))
def laid_gristmill_api_ErrClose {H : Type} : DataW H := .iface "*errors.errorString" (.ptr (.agg [.lit (.string [97, 32, 98, 114, 97, 99, 107, 101, 116, 32, 116, 104, 97, 116, 32, 119, 97, 115, 32, 110, 111, 116, 32, 111, 112, 101, 110, 101, 100])]))
def laid_gristmill_api_ErrEnd {H : Type} : DataW H := .iface "*errors.errorString" (.ptr (.agg [.lit (.string [105, 116, 32, 101, 110, 100, 115, 32, 116, 111, 111, 32, 101, 97, 114, 108, 121])]))
def laid_gristmill_api_ErrShape {H : Type} : DataW H := .iface "*errors.errorString" (.ptr (.agg [.lit (.string [110, 111, 116, 32, 97, 115, 32, 105, 116, 32, 104, 97, 115, 32, 116, 111, 32, 98, 101])]))
def laid_gristmill_api_ErrRange {H : Type} : DataW H := .iface "*errors.errorString" (.ptr (.agg [.lit (.string [97, 32, 110, 117, 109, 98, 101, 114, 32, 111, 117, 116, 32, 111, 102, 32, 105, 116, 115, 32, 114, 97, 110, 103, 101])]))
def laid_gristmill_api_ErrForm {H : Type} : DataW H := .iface "*errors.errorString" (.ptr (.agg [.lit (.string [110, 111, 32, 115, 117, 99, 104, 32, 102, 111, 114, 109])]))
def laid_gristmill_api_ErrName {H : Type} : DataW H := .iface "*errors.errorString" (.ptr (.agg [.lit (.string [110, 111, 116, 32, 97, 32, 110, 97, 109, 101])]))
def laid_gristmill_api_ErrTwice {H : Type} : DataW H := .iface "*errors.errorString" (.ptr (.agg [.lit (.string [116, 104, 101, 114, 101, 32, 105, 115, 32, 111, 110, 101])]))
def laid_gristmill_api_ErrNone {H : Type} : DataW H := .iface "*errors.errorString" (.ptr (.agg [.lit (.string [116, 104, 101, 114, 101, 32, 105, 115, 32, 110, 111, 110, 101])]))
def laid_gristmill_api_ErrArity {H : Type} : DataW H := .iface "*errors.errorString" (.ptr (.agg [.lit (.string [110, 111, 116, 32, 97, 115, 32, 109, 97, 110, 121, 32, 97, 115, 32, 105, 116, 32, 116, 97, 107, 101, 115])]))
def laid_gristmill_api_ErrMain {H : Type} : DataW H := .iface "*errors.errorString" (.ptr (.agg [.lit (.string [110, 111, 32, 109, 97, 105, 110, 32, 119, 105, 116, 104, 111, 117, 116, 32, 112, 97, 114, 97, 109, 101, 116, 101, 114, 115])]))
def laid_gristmill_api_ErrType {H : Type} : DataW H := .iface "*errors.errorString" (.ptr (.agg [.lit (.string [105, 116, 32, 104, 97, 115, 32, 110, 111, 32, 116, 121, 112, 101])]))
def laid_gristmill_api_ErrBound {H : Type} : DataW H := .iface "*errors.errorString" (.ptr (.agg [.lit (.string [110, 111, 116, 32, 98, 111, 117, 110, 100, 44, 32, 111, 114, 32, 98, 111, 117, 110, 100, 32, 116, 119, 105, 99, 101])]))
def laid_gristmill_api_ErrTag {H : Type} : DataW H := .iface "*errors.errorString" (.ptr (.agg [.lit (.string [110, 111, 116, 32, 111, 102, 32, 116, 104, 97, 116, 32, 116, 97, 103])]))
def laid_gristmill_api_ErrWord {H : Type} : DataW H := .iface "*errors.errorString" (.ptr (.agg [.lit (.string [110, 111, 32, 115, 117, 99, 104, 32, 119, 111, 114, 100])]))
def laid_gristmill_api_ErrNumber {H : Type} : DataW H := .iface "*errors.errorString" (.ptr (.agg [.lit (.string [110, 111, 116, 32, 97, 32, 110, 117, 109, 98, 101, 114])]))

/-- 'gristmilllaw4.TreePlaces': WHATEVER THE INPUT: true; the input reads as it did. -/
def treePlacesSpec : ChangeSpec := { name := "treePlaces", fn := fun _ => fun
  | [d] => { results := [.lit (.bool true)], args := [d] }
  | _ => none }
def treePlacesRow : OpenClaim := { program := "ythbiofcgaegjkaadoor", sum := "47111c5ffff4000feec9152f8397b1b2342c6d29593845fa98032421b4c9f5ff", func := "gristmill/gristmilllaw4.TreePlaces", spec := "treePlaces", inPlace := ["internal/abi.NoEscape"], recurses := true, named := ["gristmill/api.ErrDeep", "gristmill/api.ErrClose", "gristmill/api.ErrOpen", "gristmill/api.ErrMany"], apart := false, laid := [("gristmill/api.ErrMany", laid_gristmill_api_ErrMany), ("gristmill/api.ErrDeep", laid_gristmill_api_ErrDeep), ("gristmill/api.ErrOpen", laid_gristmill_api_ErrOpen), ("gristmill/api.ErrClose", laid_gristmill_api_ErrClose)] }
def TreePlacesSaid : Prop := treePlacesRow.holds Tryd.pinned (OpenSpec.ofChange treePlacesSpec)

/-- ITS FALSE NEIGHBOUR: 'it returns false'. Refute it at one input. -/
def treePlacesWrong : ChangeSpec := { name := "treePlaces", fn := fun _ => fun
  | [d] => { results := [.lit (.bool false)], args := [d] }
  | _ => none }
def TreePlacesWrongFalsely : Prop := treePlacesRow.holds Tryd.pinned (OpenSpec.ofChange treePlacesWrong)

/-- 'gristmilllaw4.TreeDeep': WHATEVER THE INPUT: true; the input reads as it did. -/
def treeDeepSpec : ChangeSpec := { name := "treeDeep", fn := fun _ => fun
  | [d1, d2] => { results := [.lit (.bool true)], args := [d1, d2] }
  | _ => none }
def treeDeepRow : OpenClaim := { program := "ythbiofcgaegjkaadoor", sum := "47111c5ffff4000feec9152f8397b1b2342c6d29593845fa98032421b4c9f5ff", func := "gristmill/gristmilllaw4.TreeDeep", spec := "treeDeep", inPlace := ["internal/abi.NoEscape"], recurses := true, named := ["gristmill/api.ErrDeep", "gristmill/api.ErrClose", "gristmill/api.ErrOpen", "gristmill/api.ErrMany", "gristmill/api.ErrEnd", "gristmill/api.ErrShape", "gristmill/api.ErrRange", "gristmill/api.ErrForm", "gristmill/api.ErrName", "gristmill/api.ErrTwice", "gristmill/api.ErrNone", "gristmill/api.ErrArity", "gristmill/api.ErrMain", "gristmill/api.ErrType", "gristmill/api.ErrBound", "gristmill/api.ErrTag", "gristmill/api.ErrWord", "gristmill/api.ErrNumber"], apart := false, laid := [("gristmill/api.ErrEnd", laid_gristmill_api_ErrEnd), ("gristmill/api.ErrShape", laid_gristmill_api_ErrShape), ("gristmill/api.ErrRange", laid_gristmill_api_ErrRange), ("gristmill/api.ErrMany", laid_gristmill_api_ErrMany), ("gristmill/api.ErrDeep", laid_gristmill_api_ErrDeep), ("gristmill/api.ErrOpen", laid_gristmill_api_ErrOpen), ("gristmill/api.ErrClose", laid_gristmill_api_ErrClose), ("gristmill/api.ErrForm", laid_gristmill_api_ErrForm), ("gristmill/api.ErrName", laid_gristmill_api_ErrName), ("gristmill/api.ErrTwice", laid_gristmill_api_ErrTwice), ("gristmill/api.ErrNone", laid_gristmill_api_ErrNone), ("gristmill/api.ErrArity", laid_gristmill_api_ErrArity), ("gristmill/api.ErrMain", laid_gristmill_api_ErrMain), ("gristmill/api.ErrType", laid_gristmill_api_ErrType), ("gristmill/api.ErrBound", laid_gristmill_api_ErrBound), ("gristmill/api.ErrTag", laid_gristmill_api_ErrTag), ("gristmill/api.ErrWord", laid_gristmill_api_ErrWord), ("gristmill/api.ErrNumber", laid_gristmill_api_ErrNumber)] }
def TreeDeepSaid : Prop := treeDeepRow.holds Tryd.pinned (OpenSpec.ofChange treeDeepSpec)

/-- ITS FALSE NEIGHBOUR: 'it returns false'. Refute it at one input. -/
def treeDeepWrong : ChangeSpec := { name := "treeDeep", fn := fun _ => fun
  | [d1, d2] => { results := [.lit (.bool false)], args := [d1, d2] }
  | _ => none }
def TreeDeepWrongFalsely : Prop := treeDeepRow.holds Tryd.pinned (OpenSpec.ofChange treeDeepWrong)

/-- 'gristmilllaw4.TreeWraps': WHATEVER THE INPUT: true; the input reads as it did. -/
def treeWrapsSpec : ChangeSpec := { name := "treeWraps", fn := fun _ => fun
  | [d1, d2, d3] => { results := [.lit (.bool true)], args := [d1, d2, d3] }
  | _ => none }
def treeWrapsRow : OpenClaim := { program := "ythbiofcgaegjkaadoor", sum := "47111c5ffff4000feec9152f8397b1b2342c6d29593845fa98032421b4c9f5ff", func := "gristmill/gristmilllaw4.TreeWraps", spec := "treeWraps", inPlace := ["internal/abi.NoEscape"], unfollowed := true, recurses := true, named := ["gristmill/api.ErrDeep", "gristmill/api.ErrClose", "gristmill/api.ErrOpen", "gristmill/api.ErrMany"], apart := false, laid := [("gristmill/api.ErrMany", laid_gristmill_api_ErrMany), ("gristmill/api.ErrDeep", laid_gristmill_api_ErrDeep), ("gristmill/api.ErrOpen", laid_gristmill_api_ErrOpen), ("gristmill/api.ErrClose", laid_gristmill_api_ErrClose)] }
def TreeWrapsSaid : Prop := treeWrapsRow.holds Tryd.pinned (OpenSpec.ofChange treeWrapsSpec)

/-- ITS FALSE NEIGHBOUR: 'it returns false'. Refute it at one input. -/
def treeWrapsWrong : ChangeSpec := { name := "treeWraps", fn := fun _ => fun
  | [d1, d2, d3] => { results := [.lit (.bool false)], args := [d1, d2, d3] }
  | _ => none }
def TreeWrapsWrongFalsely : Prop := treeWrapsRow.holds Tryd.pinned (OpenSpec.ofChange treeWrapsWrong)

/- THE SECOND FORM. 'bulk': how many values and letters a reading holds, each counted each time it is reached (what is shared counts as often as it is met; a slice's spare places count too). A statement '..UptoSaid' is the law's where the arguments, and the package variables that the reading takes, are together of bulk at most 1048576: NARROWER than '..Said'. Prove '..Said' where nothing that the law and all that it calls make is longer than what came in: it says more and counts as full. Else prove '..UptoSaid'. A law counts once. -/
mutual
def uptoBulk {H : Type} : DataW H → Nat
  | .lit (.string bytes) => bytes.length + 1
  | .lit _ => 1
  | .nil => 1
  | .ptr d => uptoBulk d + 1
  | .slice elems spare => uptoBulkAll elems + uptoBulkAll spare + 1
  | .agg parts => uptoBulkAll parts + 1
  | .iface _ d => uptoBulk d + 1
  | .map entries => uptoBulkEntries entries + 1
  | .held _ => 1
def uptoBulkAll {H : Type} : List (DataW H) → Nat
  | [] => 0
  | d :: r => uptoBulk d + uptoBulkAll r
def uptoBulkEntries {H : Type} : List (Lit × DataW H) → Nat
  | [] => 0
  | x :: r => uptoBulkEntry x + uptoBulkEntries r
def uptoBulkEntry {H : Type} : Lit × DataW H → Nat
  | (.string bytes, d) => bytes.length + uptoBulk d + 1
  | (_, d) => uptoBulk d + 1
 end
def uptoSmall : (H : Type) → List (DataW H) → Bool := fun _ ds => decide (uptoBulkAll ds ≤ 1048576)
def OpenSpec.upto (s : _root_.Go.ChangeSpec) : _root_.Go.OpenSpec := { _root_.Go.OpenSpec.ofChange s with cond := some uptoSmall }

/-- 'gristmilllaw4.TreePlaces', WHERE WHAT IT READS IS OF BULK AT MOST 1048576: true; the input reads as it did. -/
def treePlacesUptoRow : OpenClaim := { program := "ythbiofcgaegjkaadoor", sum := "47111c5ffff4000feec9152f8397b1b2342c6d29593845fa98032421b4c9f5ff", func := "gristmill/gristmilllaw4.TreePlaces", spec := "treePlaces", inPlace := ["internal/abi.NoEscape"], recurses := true, named := ["gristmill/api.ErrDeep", "gristmill/api.ErrClose", "gristmill/api.ErrOpen", "gristmill/api.ErrMany"], apart := false, laid := [("gristmill/api.ErrMany", laid_gristmill_api_ErrMany), ("gristmill/api.ErrDeep", laid_gristmill_api_ErrDeep), ("gristmill/api.ErrOpen", laid_gristmill_api_ErrOpen), ("gristmill/api.ErrClose", laid_gristmill_api_ErrClose)], narrowed := true }
def TreePlacesUptoSaid : Prop := treePlacesUptoRow.holds Tryd.pinned (OpenSpec.upto treePlacesSpec)

/-- 'gristmilllaw4.TreeDeep', WHERE WHAT IT READS IS OF BULK AT MOST 1048576: true; the input reads as it did. -/
def treeDeepUptoRow : OpenClaim := { program := "ythbiofcgaegjkaadoor", sum := "47111c5ffff4000feec9152f8397b1b2342c6d29593845fa98032421b4c9f5ff", func := "gristmill/gristmilllaw4.TreeDeep", spec := "treeDeep", inPlace := ["internal/abi.NoEscape"], recurses := true, named := ["gristmill/api.ErrDeep", "gristmill/api.ErrClose", "gristmill/api.ErrOpen", "gristmill/api.ErrMany", "gristmill/api.ErrEnd", "gristmill/api.ErrShape", "gristmill/api.ErrRange", "gristmill/api.ErrForm", "gristmill/api.ErrName", "gristmill/api.ErrTwice", "gristmill/api.ErrNone", "gristmill/api.ErrArity", "gristmill/api.ErrMain", "gristmill/api.ErrType", "gristmill/api.ErrBound", "gristmill/api.ErrTag", "gristmill/api.ErrWord", "gristmill/api.ErrNumber"], apart := false, laid := [("gristmill/api.ErrEnd", laid_gristmill_api_ErrEnd), ("gristmill/api.ErrShape", laid_gristmill_api_ErrShape), ("gristmill/api.ErrRange", laid_gristmill_api_ErrRange), ("gristmill/api.ErrMany", laid_gristmill_api_ErrMany), ("gristmill/api.ErrDeep", laid_gristmill_api_ErrDeep), ("gristmill/api.ErrOpen", laid_gristmill_api_ErrOpen), ("gristmill/api.ErrClose", laid_gristmill_api_ErrClose), ("gristmill/api.ErrForm", laid_gristmill_api_ErrForm), ("gristmill/api.ErrName", laid_gristmill_api_ErrName), ("gristmill/api.ErrTwice", laid_gristmill_api_ErrTwice), ("gristmill/api.ErrNone", laid_gristmill_api_ErrNone), ("gristmill/api.ErrArity", laid_gristmill_api_ErrArity), ("gristmill/api.ErrMain", laid_gristmill_api_ErrMain), ("gristmill/api.ErrType", laid_gristmill_api_ErrType), ("gristmill/api.ErrBound", laid_gristmill_api_ErrBound), ("gristmill/api.ErrTag", laid_gristmill_api_ErrTag), ("gristmill/api.ErrWord", laid_gristmill_api_ErrWord), ("gristmill/api.ErrNumber", laid_gristmill_api_ErrNumber)], narrowed := true }
def TreeDeepUptoSaid : Prop := treeDeepUptoRow.holds Tryd.pinned (OpenSpec.upto treeDeepSpec)

/-- 'gristmilllaw4.TreeWraps', WHERE WHAT IT READS IS OF BULK AT MOST 1048576: true; the input reads as it did. -/
def treeWrapsUptoRow : OpenClaim := { program := "ythbiofcgaegjkaadoor", sum := "47111c5ffff4000feec9152f8397b1b2342c6d29593845fa98032421b4c9f5ff", func := "gristmill/gristmilllaw4.TreeWraps", spec := "treeWraps", inPlace := ["internal/abi.NoEscape"], unfollowed := true, recurses := true, named := ["gristmill/api.ErrDeep", "gristmill/api.ErrClose", "gristmill/api.ErrOpen", "gristmill/api.ErrMany"], apart := false, laid := [("gristmill/api.ErrMany", laid_gristmill_api_ErrMany), ("gristmill/api.ErrDeep", laid_gristmill_api_ErrDeep), ("gristmill/api.ErrOpen", laid_gristmill_api_ErrOpen), ("gristmill/api.ErrClose", laid_gristmill_api_ErrClose)], narrowed := true }
def TreeWrapsUptoSaid : Prop := treeWrapsUptoRow.holds Tryd.pinned (OpenSpec.upto treeWrapsSpec)

end Rows
end Go.Proofs.YthbiofcgaegjkaaDoor
