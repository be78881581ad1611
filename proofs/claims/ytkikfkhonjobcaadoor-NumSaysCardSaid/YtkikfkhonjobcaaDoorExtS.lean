/- The hand-made contracts that NumSays uses, under one condition on the package-level variables: the table of powers of ten reads as it is laid, the variables of errors hold errors, each its own. -/
import Derived.Test.YtkikfkhonjobcaaDoorSee
namespace Go.Proofs.YtkikfkhonjobcaaDoor.ExtS
open Go.RowKit Go.Proofs.YtkikfkhonjobcaaDoorW.PrintWords
set_option linter.unusedVariables false
def errW (ad : Int → Addr) (x : Option Int) : Value := ExtE.errW ad x
theorem errW_none (ad : Int → Addr) : errW ad none = .nilIface := rfl
theorem errW_some (ad : Int → Addr) (c : Int) : errW ad (some c) = .iface 93 (.pointer (some (ad c))) := rfl
structure GG (ad : Int → Addr) (w : World) : Prop where
  e : ExtE.GG ad w
  s : See.GS ad w
theorem GG.below {ad : Int → Addr} {w W : World} (h : GG ad w) (hb : Below w.heap.size w W) : GG ad W := ⟨h.e.below hb, h.s.below hb⟩
theorem GG.drewN {ad : Int → Addr} {w : World} (h : GG ad w) (n : Nat) : GG ad (w.drewN n) := h.below ⟨rfl, rfl, rfl, Nat.le_refl _, fun _ _ => rfl⟩
def num_divide.f (a0 : ByteArray) (a1 a2 : Int) : Option (Int × Int × Bool) := Ext.num_divide.f a0 a1 a2
theorem num_divide.calls (a0 : ByteArray) (a1 a2 : Int) (r1 r2 : Int) (r3 : Bool) (w : World) (h : num_divide.f a0 a1 a2 = some (r1, r2, r3)) :
    Calls Tryd.prog 25 #[.string a0, .int .i64 a1, .int .i64 a2] w fun e w' => e = .returned (.tuple #[.int .i64 r1, .int .i64 r2, .bool r3]) ∧ Below w.heap.size w w' := Ext.num_divide.calls a0 a1 a2 r1 r2 r3 w h
def strconv_FormatInt.f (a0 a1 : Int) : Option ByteArray := Ext.strconv_FormatInt.f a0 a1
theorem strconv_FormatInt.calls {ad : Int → Addr} (a0 a1 : Int) (r : ByteArray) (w : World) (hGG : GG ad w) (h : strconv_FormatInt.f a0 a1 = some r) :
    Calls Tryd.prog 29 #[.int .i64 a0, .int .i64 a1] w fun e w' => e = .returned (.string r) ∧ Below w.heap.size w w' := Ext.strconv_FormatInt.calls a0 a1 r w hGG.e.pow h
def num_Text.f (a0 : Int) : Option ByteArray := ExtE.num_Text.f a0
theorem num_Text.calls {ad : Int → Addr} (a0 : Int) (r : ByteArray) (w : World) (hGG : GG ad w) (h : num_Text.f a0 = some r) :
    Calls Tryd.prog 15 #[.int .i64 a0] w fun e w' => e = .returned (.string r) ∧ Below w.heap.size w w' := ExtE.num_Text.calls a0 r w hGG.e h
def num_Parse.f (a0 : ByteArray) : Option (Int × Option Int) := ExtE.num_Parse.f a0
theorem num_Parse.calls {ad : Int → Addr} (a0 : ByteArray) (r1 : Int) (r2 : Option Int) (w : World) (hGG : GG ad w) (h : num_Parse.f a0 = some (r1, r2)) :
    Calls Tryd.prog 14 #[.string a0] w fun e w' => e = .returned (.tuple #[.int .i64 r1, errW ad r2]) ∧ Below w.heap.size w w' := ExtE.num_Parse.calls a0 r1 r2 w hGG.e h
def gristmillsee_Fault.f (a0 : Option Int) : Option (Int × Bool × Int) := See.gristmillsee_Fault.f a0
theorem gristmillsee_Fault.calls {ad : Int → Addr} (a0 : Option Int) (r1 : Int) (r2 : Bool) (r3 : Int) (w : World) (hGG : GG ad w) (h : gristmillsee_Fault.f a0 = some (r1, r2, r3)) :
    Calls Tryd.prog 39 #[errW ad a0] w fun e w' => e = .returned (.agg #[.int .i64 r1, .bool r2, .int .i64 r3]) ∧ Below w.heap.size w w' := See.gristmillsee_Fault.calls a0 r1 r2 r3 w hGG.s h
end Go.Proofs.YtkikfkhonjobcaaDoor.ExtS
