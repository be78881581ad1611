/- The contracts of tree.Parse and tree.Text under the names that the printed texts use. No condition beyond those that each states. -/
import Derived.Test.YthbiofcgaegjkaaDoorParseB
import Derived.Test.YthbiofcgaegjkaaDoorText
import Derived.Test.YthbiofcgaegjkaaDoorSame
namespace Go.Proofs.YthbiofcgaegjkaaDoor.ExtE
open Go.RowKit Go.Proofs.YthbiofcgaegjkaaDoorW.PrintWords Go.Proofs.YthbiofcgaegjkaaDoor.PTreeA
def tree_Parse.f (k : Nat) (a0 : ByteArray) : Option (List S39 × Option Int) := Parse.tree_Parse.f k a0
theorem tree_Parse.mono : ∀ a0 k, LeO (tree_Parse.f k a0) (tree_Parse.f (k + 1) a0) := Parse.tree_Parse.mono
theorem tree_Parse.callsA {ad : Int → Addr} (k : Nat) (a0 : ByteArray) (r1 : List S39) (r2 : Option Int) (w : World) (hGG : GG ad w) (h : tree_Parse.f k a0 = some (r1, r2)) :
    Calls Tryd.prog 7 #[.string a0] w fun e w' => ∃ v0 : Value, ∃ adf : Int → Addr, e = .returned (.tuple #[v0, errW adf r2]) ∧ Kd.R k39 39 w' w.heap.size (fun _ => True) v0 r1 ∧ AtOk ad adf w' r2 ∧ Below w.heap.size w w' :=
  Parse.parse_all k a0 r1 r2 w hGG h
theorem tree_Parse.calls {ad : Int → Addr} (k : Nat) (a0 : ByteArray) (r1 : List S39) (r2 : Option Int) (w : World) (hGG : GG ad w) (h : tree_Parse.f k a0 = some (r1, r2)) :
    Calls Tryd.prog 7 #[.string a0] w fun e w' => ∃ v0 : Value, ∃ adf : Int → Addr, e = .returned (.tuple #[v0, errW adf r2]) ∧ Kd.R k39 39 w' w.heap.size (fun _ => True) v0 r1 ∧ Below w.heap.size w w' :=
  (tree_Parse.callsA k a0 r1 r2 w hGG h).mono fun _ _ ⟨v0, adf, he, hr, _, hb⟩ => ⟨v0, adf, he, hr, hb⟩
def tree_Text.f (l0 : List S39) : Option ByteArray := Text.tree_Text.f l0
theorem tree_Text.calls (A0 : Option Addr) (c0 : Nat) (l0 : List S39) (r : ByteArray) (w : World) (hr0 : Kd.C k39 w A0 l0.length l0) (hc0 : l0.length ≤ c0) (h : tree_Text.f l0 = some r) :
    Calls Tryd.prog 14 #[.slice A0 l0.length c0] w fun e w' => e = .returned (.string r) ∧ Below w.heap.size w w' := Text.tree_Text.calls A0 c0 l0 r w hr0 hc0 h
def tree_Same.f (k : Nat) (l0 l1 : List S39) : Option Bool := Same.sm k l0 l1
theorem tree_Same.mono : ∀ l0 l1 k, LeO (tree_Same.f k l0 l1) (tree_Same.f (k + 1) l0 l1) := fun l0 l1 k => Same.sm_mono k l0 l1
theorem tree_Same.calls (k : Nat) (A0 : Option Addr) (c0 : Nat) (l0 : List S39) (A1 : Option Addr) (c1 : Nat) (l1 : List S39) (r : Bool) (w : World) (hr0 : Kd.C k39 w A0 l0.length l0) (hc0 : l0.length ≤ c0) (hr1 : Kd.C k39 w A1 l1.length l1) (hc1 : l1.length ≤ c1) (h : tree_Same.f k l0 l1 = some r) :
    Calls Tryd.prog 13 #[.slice A0 l0.length c0, .slice A1 l1.length c1] w fun e w' => e = .returned (.bool r) ∧ Below w.heap.size w w' := Same.same_call k l0 l1 r A0 A1 c0 c1 w h hr0 hc0 hr1 hc1
end Go.Proofs.YthbiofcgaegjkaaDoor.ExtE
