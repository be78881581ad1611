/- FreeSays as the row asks for it. -/
import Derived.Test.YtmoeekidmkhkoaaDoorSFreeZC
set_option linter.unusedVariables false
namespace Go.Proofs.YtmoeekidmkhkoaaDoor.PFreeZ
open Go.RowKit Go.Proofs.YtmoeekidmkhkoaaDoorW.PrintWords Go.Proofs.YtmoeekidmkhkoaaDoorW.PrintLast Go.Proofs.YtmoeekidmkhkoaaDoor.PFreeA Go.Proofs.YtmoeekidmkhkoaaDoor.FreeA
theorem FreeSays.walk (P : True) (t0 : S33) (A03 A04 A05 : Option Addr) (c03 c04 c05 : Nat) (t1 : S33) (A13 A14 A15 : Option Addr) (c13 c14 c15 : Nat) (a2 : ByteArray) (a3 : ByteArray) (A4 : Option Addr) (c4 : Nat) (l4 : List ByteArray) (w : World) (w0 : RW t0) (i0 : In w t0 A03 A04 A05 c03 c04 c05) (w1 : RW t1) (i1 : In w t1 A13 A14 A15 c13 c14 c15) (w2 : a2.size ≤ 140737488351232) (w3 : a3.size ≤ 140737488351232) (g4 : Kd.C Kd.string w A4 l4.length l4) (m4 : l4.length ≤ c4) (y4 : l4.length * 16 ≤ 140737488351232) (hGG : GG w) : Calls Tryd.prog 6 #[.agg #[.int .i64 t0.f0, .string t0.f1, .int .i64 t0.f2, .slice A03 t0.f3.length c03, .slice A04 t0.f4.length c04, .slice A05 t0.f5.length c05], .agg #[.int .i64 t1.f0, .string t1.f1, .int .i64 t1.f2, .slice A13 t1.f3.length c13, .slice A14 t1.f4.length c14, .slice A15 t1.f5.length c15], .string a2, .string a3, .slice A4 l4.length c4] w fun e w' => e = .returned (.bool true) ∧ Below w.heap.size w w' :=
 FreeA.says_row t0 t1 a2 a3 l4 w hGG w0 i0 w1 i1 w2 w3 g4 m4 y4
end Go.Proofs.YtmoeekidmkhkoaaDoor.PFreeZ
namespace Go.Proofs.YtmoeekidmkhkoaaDoor.Pure
theorem FreeSays : True := trivial
end Go.Proofs.YtmoeekidmkhkoaaDoor.Pure

