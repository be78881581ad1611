/- The hand-made contract that LexMany uses (gristmillsee.Fault), under one condition on the package-level variables: the 18 variables of errors hold errors, each its own. -/
import Derived.Test.YtiacndjjppcaoaaDoorSee
namespace Go.Proofs.YtiacndjjppcaoaaDoor.ExtS
open Go.RowKit Go.Proofs.YtiacndjjppcaoaaDoorW.PrintWords
set_option linter.unusedVariables false
def errW (ad : Int → Addr) (x : Option Int) : Value := See.errW ad x
theorem errW_none (ad : Int → Addr) : errW ad none = .nilIface := rfl
theorem errW_some (ad : Int → Addr) (c : Int) : errW ad (some c) = .iface 63 (.pointer (some (ad c))) := rfl
structure GG (ad : Int → Addr) (w : World) : Prop where
  s : See.GS ad w
theorem GG.below {ad : Int → Addr} {w W : World} (h : GG ad w) (hb : Below w.heap.size w W) : GG ad W := ⟨h.s.below hb⟩
theorem GG.drewN {ad : Int → Addr} {w : World} (h : GG ad w) (n : Nat) : GG ad (w.drewN n) := h.below ⟨rfl, rfl, rfl, Nat.le_refl _, fun _ _ => rfl⟩
theorem GG.many {ad : Int → Addr} {w : World} (h : GG ad w) : w.cell? ⟨0, 0, none⟩ = some (.iface 63 (.pointer (some (ad 104)))) := h.s.cell 104 (by decide) (by decide)
def gristmillsee_Fault.f (a0 : Option Int) : Option (Int × Bool × Int) := See.gristmillsee_Fault.f a0
theorem gristmillsee_Fault.calls {ad : Int → Addr} (a0 : Option Int) (r1 : Int) (r2 : Bool) (r3 : Int) (w : World) (hGG : GG ad w) (h : gristmillsee_Fault.f a0 = some (r1, r2, r3)) :
    Calls Tryd.prog 32 #[errW ad a0] w fun e w' => e = .returned (.agg #[.int .i64 r1, .bool r2, .int .i64 r3]) ∧ Below w.heap.size w w' := See.gristmillsee_Fault.calls a0 r1 r2 r3 w hGG.s h
end Go.Proofs.YtiacndjjppcaoaaDoor.ExtS
