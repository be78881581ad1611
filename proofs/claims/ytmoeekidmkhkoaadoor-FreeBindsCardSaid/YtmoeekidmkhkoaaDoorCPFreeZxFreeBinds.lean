/- FreeBinds as the row asks for it. -/
import Derived.Test.YtmoeekidmkhkoaaDoorCFreeY
set_option linter.unusedVariables false
namespace Go.Proofs.YtmoeekidmkhkoaaDoor.PFreeZ
open Go.RowKit Go.Proofs.YtmoeekidmkhkoaaDoorW.PrintWords Go.Proofs.YtmoeekidmkhkoaaDoorW.PrintLast Go.Proofs.YtmoeekidmkhkoaaDoor.PFreeA Go.Proofs.YtmoeekidmkhkoaaDoor.FreeA
theorem FreeBinds.walk (P : True) (t0 : S33) (A03 A04 A05 : Option Addr) (c03 c04 c05 : Nat) (t1 : S33) (A13 A14 A15 : Option Addr) (c13 c14 c15 : Nat) (a2 : ByteArray) (w : World) (w0 : RW t0) (i0 : In w t0 A03 A04 A05 c03 c04 c05) (w1 : RW t1) (i1 : In w t1 A13 A14 A15 c13 c14 c15) (w2 : a2.size ≤ 140737488351232) (hGG : GG w) : Calls Tryd.prog 5 #[.agg #[.int .i64 t0.f0, .string t0.f1, .int .i64 t0.f2, .slice A03 t0.f3.length c03, .slice A04 t0.f4.length c04, .slice A05 t0.f5.length c05], .agg #[.int .i64 t1.f0, .string t1.f1, .int .i64 t1.f2, .slice A13 t1.f3.length c13, .slice A14 t1.f4.length c14, .slice A15 t1.f5.length c15], .string a2] w fun e w' => e = .returned (.bool true) ∧ Below w.heap.size w w' :=
 FreeA.binds_row t0 t1 a2 w hGG w0 i0 w1 i1 w2
end Go.Proofs.YtmoeekidmkhkoaaDoor.PFreeZ
namespace Go.Proofs.YtmoeekidmkhkoaaDoor.Pure
theorem FreeBinds : True := trivial
end Go.Proofs.YtmoeekidmkhkoaaDoor.Pure

