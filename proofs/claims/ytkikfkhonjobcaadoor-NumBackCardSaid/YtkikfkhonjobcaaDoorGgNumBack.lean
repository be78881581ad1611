/- What the row of NumBack lists of package-level variables gives the walk: the table of powers of ten, and where the errors lie. -/
import Derived.Test.YtkikfkhonjobcaaDoorExtE
namespace Go.Proofs.YtkikfkhonjobcaaDoor.ExtE
open Go.RowKit Go.Proofs.YtkikfkhonjobcaaDoorW.PrintWords
theorem tRng : (Tryd.prog.globals[2]?).map (·.type) = some 34 := by kernel_rfl
theorem tSyn : (Tryd.prog.globals[1]?).map (·.type) = some 34 := by kernel_rfl
theorem tNum : (Tryd.prog.globals[0]?).map (·.type) = some 34 := by kernel_rfl
theorem cells95 : Tryd.prog.cellsOf 95 = 1 := by kernel_rfl
theorem cells9 : Tryd.prog.cellsOf 9 = 1 := by kernel_rfl
theorem star : "*" ++ "errors.errorString" = "*errors.errorString" := by decide
theorem row93 (u : TypeId) (h : Tryd.prog.typeName? 3 u = some "*errors.errorString") : u = 93 :=
  typeName_ptr_named (nm := "errors.errorString") (by rw [star]; kernel_rfl) (by kernel_rfl) (by decide) u (by rw [star]; exact h)
theorem gg_of_numBack {W : World} (h : laidMet Tryd.prog Rows.numBackRow.laid W) : ∃ ad, GG ad W := by
  have h1 := laidMet.tail (laidMet.tail h)
  have hp := Ext.gg_of_pow h1
  have h2 := laidMet.tail h1
  obtain ⟨a1, s1, hv1, _, _, _⟩ := laid_sentinel h2 gRng tRng Tryd.underlying34 row93 Tryd.underlying93 Tryd.underlying95 rfl rfl Tryd.underlying9 cells95 cells9
  have h3 := laidMet.tail h2
  obtain ⟨a2, s2, hv2, _, _, _⟩ := laid_sentinel h3 gSyn tSyn Tryd.underlying34 row93 Tryd.underlying93 Tryd.underlying95 rfl rfl Tryd.underlying9 cells95 cells9
  have h4 := laidMet.tail h3
  obtain ⟨a3, s3, hv3, _, _, _⟩ := laid_sentinel h4 gNum tNum Tryd.underlying34 row93 Tryd.underlying93 Tryd.underlying95 rfl rfl Tryd.underlying9 cells95 cells9
  exact ⟨fun _ => a3, hp, ⟨_, _, hv2⟩, ⟨_, _, hv1⟩, hv3⟩
end Go.Proofs.YtkikfkhonjobcaaDoor.ExtE
