/- Each word of num.Prims takes as many as it does and answers what it does: the pure law of NumWords, for every two whole numbers of 64 bits. (Laid by a program of this session: mknw.py.) -/
import Derived.Test.YtkikfkhonjobcaaDoorPNumWx2
import Derived.Laws.Strings
import Derived.OpenShut
namespace Go.Proofs.YtkikfkhonjobcaaDoor.Pure
open Go.RowKit Go.Proofs.YtkikfkhonjobcaaDoor.PNumW Go.Proofs.YtkikfkhonjobcaaDoorW.PrintWords Go.Proofs.YtkikfkhonjobcaaDoorW.PrintLast Go.Proofs.YtkikfkhonjobcaaDoor.Ext
set_option linter.unusedVariables false
set_option linter.unusedSimpArgs false
namespace W
theorem lit_toList (l : List UInt8) : (⟨l.toArray⟩ : ByteArray).toList = l := ByteArray.toList_mk l
theorem tl0 : (⟨#[43]⟩ : ByteArray).toList = [43] := lit_toList [43]
theorem tl1 : (⟨#[45]⟩ : ByteArray).toList = [45] := lit_toList [45]
theorem tl2 : (⟨#[42]⟩ : ByteArray).toList = [42] := lit_toList [42]
theorem tl3 : (⟨#[100, 105, 118]⟩ : ByteArray).toList = [100, 105, 118] := lit_toList [100, 105, 118]
theorem tl4 : (⟨#[109, 111, 100]⟩ : ByteArray).toList = [109, 111, 100] := lit_toList [109, 111, 100]
theorem tl5 : (⟨#[60]⟩ : ByteArray).toList = [60] := lit_toList [60]
theorem tl6 : (⟨#[61]⟩ : ByteArray).toList = [61] := lit_toList [61]
theorem tl7 : (⟨#[102, 43]⟩ : ByteArray).toList = [102, 43] := lit_toList [102, 43]
theorem tl8 : (⟨#[102, 45]⟩ : ByteArray).toList = [102, 45] := lit_toList [102, 45]
theorem tl9 : (⟨#[102, 42]⟩ : ByteArray).toList = [102, 42] := lit_toList [102, 42]
theorem tl10 : (⟨#[102, 47]⟩ : ByteArray).toList = [102, 47] := lit_toList [102, 47]
theorem tl11 : (⟨#[102, 60]⟩ : ByteArray).toList = [102, 60] := lit_toList [102, 60]
theorem tl12 : (⟨#[102, 61]⟩ : ByteArray).toList = [102, 61] := lit_toList [102, 61]
theorem tl13 : (⟨#[102, 108, 111, 97, 116]⟩ : ByteArray).toList = [102, 108, 111, 97, 116] := lit_toList [102, 108, 111, 97, 116]
theorem tl14 : (⟨#[119, 104, 111, 108, 101]⟩ : ByteArray).toList = [119, 104, 111, 108, 101] := lit_toList [119, 104, 111, 108, 101]
theorem tl15 : (⟨#[115, 101, 113]⟩ : ByteArray).toList = [115, 101, 113] := lit_toList [115, 101, 113]
theorem tl16 : (⟨#[]⟩ : ByteArray).toList = [] := lit_toList []
abbrev LL : List ByteArray := [(⟨#[43]⟩ : ByteArray), (⟨#[45]⟩ : ByteArray), (⟨#[42]⟩ : ByteArray), (⟨#[100, 105, 118]⟩ : ByteArray), (⟨#[109, 111, 100]⟩ : ByteArray), (⟨#[60]⟩ : ByteArray), (⟨#[61]⟩ : ByteArray), (⟨#[102, 43]⟩ : ByteArray), (⟨#[102, 45]⟩ : ByteArray), (⟨#[102, 42]⟩ : ByteArray), (⟨#[102, 47]⟩ : ByteArray), (⟨#[102, 60]⟩ : ByteArray), (⟨#[102, 61]⟩ : ByteArray), (⟨#[102, 108, 111, 97, 116]⟩ : ByteArray), (⟨#[119, 104, 111, 108, 101]⟩ : ByteArray), (⟨#[115, 101, 113]⟩ : ByteArray)]
theorem prims : num_Prims.f = some LL := rfl
theorem ar0 (k : Nat) : num_Arity.f (k + 59) (⟨#[43]⟩ : ByteArray) = some (2, true) := by
  simp -implicitDefEqProofs [num_Arity.f, num_Arity.j0, prims, slices_Contains_string_string.f, slices_Index_string_string.f, slices_Index_string_string.l0, rdOf, wrap64, tl0, tl1, tl2, tl3, tl4, tl5, tl6, tl7, tl8, tl9, tl10, tl11, tl12, tl13, tl14, tl15, tl16]
theorem fl0 (k : Nat) : num_Floaty.f (k + 59) (⟨#[43]⟩ : ByteArray) = some false := by
  simp -implicitDefEqProofs [num_Floaty.f, slices_Contains_string_string.f, slices_Index_string_string.f, slices_Index_string_string.l0, rdOf, wrap64, tl0, tl1, tl2, tl3, tl4, tl5, tl6, tl7, tl8, tl9, tl10, tl11, tl12, tl13, tl14, tl15, tl16]
theorem ar1 (k : Nat) : num_Arity.f (k + 59) (⟨#[45]⟩ : ByteArray) = some (2, true) := by
  simp -implicitDefEqProofs [num_Arity.f, num_Arity.j0, prims, slices_Contains_string_string.f, slices_Index_string_string.f, slices_Index_string_string.l0, rdOf, wrap64, tl0, tl1, tl2, tl3, tl4, tl5, tl6, tl7, tl8, tl9, tl10, tl11, tl12, tl13, tl14, tl15, tl16]
theorem fl1 (k : Nat) : num_Floaty.f (k + 59) (⟨#[45]⟩ : ByteArray) = some false := by
  simp -implicitDefEqProofs [num_Floaty.f, slices_Contains_string_string.f, slices_Index_string_string.f, slices_Index_string_string.l0, rdOf, wrap64, tl0, tl1, tl2, tl3, tl4, tl5, tl6, tl7, tl8, tl9, tl10, tl11, tl12, tl13, tl14, tl15, tl16]
theorem ar2 (k : Nat) : num_Arity.f (k + 59) (⟨#[42]⟩ : ByteArray) = some (2, true) := by
  simp -implicitDefEqProofs [num_Arity.f, num_Arity.j0, prims, slices_Contains_string_string.f, slices_Index_string_string.f, slices_Index_string_string.l0, rdOf, wrap64, tl0, tl1, tl2, tl3, tl4, tl5, tl6, tl7, tl8, tl9, tl10, tl11, tl12, tl13, tl14, tl15, tl16]
theorem fl2 (k : Nat) : num_Floaty.f (k + 59) (⟨#[42]⟩ : ByteArray) = some false := by
  simp -implicitDefEqProofs [num_Floaty.f, slices_Contains_string_string.f, slices_Index_string_string.f, slices_Index_string_string.l0, rdOf, wrap64, tl0, tl1, tl2, tl3, tl4, tl5, tl6, tl7, tl8, tl9, tl10, tl11, tl12, tl13, tl14, tl15, tl16]
theorem ar3 (k : Nat) : num_Arity.f (k + 59) (⟨#[100, 105, 118]⟩ : ByteArray) = some (2, true) := by
  simp -implicitDefEqProofs [num_Arity.f, num_Arity.j0, prims, slices_Contains_string_string.f, slices_Index_string_string.f, slices_Index_string_string.l0, rdOf, wrap64, tl0, tl1, tl2, tl3, tl4, tl5, tl6, tl7, tl8, tl9, tl10, tl11, tl12, tl13, tl14, tl15, tl16]
theorem fl3 (k : Nat) : num_Floaty.f (k + 59) (⟨#[100, 105, 118]⟩ : ByteArray) = some false := by
  simp -implicitDefEqProofs [num_Floaty.f, slices_Contains_string_string.f, slices_Index_string_string.f, slices_Index_string_string.l0, rdOf, wrap64, tl0, tl1, tl2, tl3, tl4, tl5, tl6, tl7, tl8, tl9, tl10, tl11, tl12, tl13, tl14, tl15, tl16]
theorem ar4 (k : Nat) : num_Arity.f (k + 59) (⟨#[109, 111, 100]⟩ : ByteArray) = some (2, true) := by
  simp -implicitDefEqProofs [num_Arity.f, num_Arity.j0, prims, slices_Contains_string_string.f, slices_Index_string_string.f, slices_Index_string_string.l0, rdOf, wrap64, tl0, tl1, tl2, tl3, tl4, tl5, tl6, tl7, tl8, tl9, tl10, tl11, tl12, tl13, tl14, tl15, tl16]
theorem fl4 (k : Nat) : num_Floaty.f (k + 59) (⟨#[109, 111, 100]⟩ : ByteArray) = some false := by
  simp -implicitDefEqProofs [num_Floaty.f, slices_Contains_string_string.f, slices_Index_string_string.f, slices_Index_string_string.l0, rdOf, wrap64, tl0, tl1, tl2, tl3, tl4, tl5, tl6, tl7, tl8, tl9, tl10, tl11, tl12, tl13, tl14, tl15, tl16]
theorem ar5 (k : Nat) : num_Arity.f (k + 59) (⟨#[60]⟩ : ByteArray) = some (2, true) := by
  simp -implicitDefEqProofs [num_Arity.f, num_Arity.j0, prims, slices_Contains_string_string.f, slices_Index_string_string.f, slices_Index_string_string.l0, rdOf, wrap64, tl0, tl1, tl2, tl3, tl4, tl5, tl6, tl7, tl8, tl9, tl10, tl11, tl12, tl13, tl14, tl15, tl16]
theorem fl5 (k : Nat) : num_Floaty.f (k + 59) (⟨#[60]⟩ : ByteArray) = some false := by
  simp -implicitDefEqProofs [num_Floaty.f, slices_Contains_string_string.f, slices_Index_string_string.f, slices_Index_string_string.l0, rdOf, wrap64, tl0, tl1, tl2, tl3, tl4, tl5, tl6, tl7, tl8, tl9, tl10, tl11, tl12, tl13, tl14, tl15, tl16]
theorem ar6 (k : Nat) : num_Arity.f (k + 59) (⟨#[61]⟩ : ByteArray) = some (2, true) := by
  simp -implicitDefEqProofs [num_Arity.f, num_Arity.j0, prims, slices_Contains_string_string.f, slices_Index_string_string.f, slices_Index_string_string.l0, rdOf, wrap64, tl0, tl1, tl2, tl3, tl4, tl5, tl6, tl7, tl8, tl9, tl10, tl11, tl12, tl13, tl14, tl15, tl16]
theorem fl6 (k : Nat) : num_Floaty.f (k + 59) (⟨#[61]⟩ : ByteArray) = some false := by
  simp -implicitDefEqProofs [num_Floaty.f, slices_Contains_string_string.f, slices_Index_string_string.f, slices_Index_string_string.l0, rdOf, wrap64, tl0, tl1, tl2, tl3, tl4, tl5, tl6, tl7, tl8, tl9, tl10, tl11, tl12, tl13, tl14, tl15, tl16]
theorem ar7 (k : Nat) : num_Arity.f (k + 59) (⟨#[102, 43]⟩ : ByteArray) = some (2, true) := by
  simp -implicitDefEqProofs [num_Arity.f, num_Arity.j0, prims, slices_Contains_string_string.f, slices_Index_string_string.f, slices_Index_string_string.l0, rdOf, wrap64, tl0, tl1, tl2, tl3, tl4, tl5, tl6, tl7, tl8, tl9, tl10, tl11, tl12, tl13, tl14, tl15, tl16]
theorem fl7 (k : Nat) : num_Floaty.f (k + 59) (⟨#[102, 43]⟩ : ByteArray) = some true := by
  simp -implicitDefEqProofs [num_Floaty.f, slices_Contains_string_string.f, slices_Index_string_string.f, slices_Index_string_string.l0, rdOf, wrap64, tl0, tl1, tl2, tl3, tl4, tl5, tl6, tl7, tl8, tl9, tl10, tl11, tl12, tl13, tl14, tl15, tl16]
theorem ar8 (k : Nat) : num_Arity.f (k + 59) (⟨#[102, 45]⟩ : ByteArray) = some (2, true) := by
  simp -implicitDefEqProofs [num_Arity.f, num_Arity.j0, prims, slices_Contains_string_string.f, slices_Index_string_string.f, slices_Index_string_string.l0, rdOf, wrap64, tl0, tl1, tl2, tl3, tl4, tl5, tl6, tl7, tl8, tl9, tl10, tl11, tl12, tl13, tl14, tl15, tl16]
theorem fl8 (k : Nat) : num_Floaty.f (k + 59) (⟨#[102, 45]⟩ : ByteArray) = some true := by
  simp -implicitDefEqProofs [num_Floaty.f, slices_Contains_string_string.f, slices_Index_string_string.f, slices_Index_string_string.l0, rdOf, wrap64, tl0, tl1, tl2, tl3, tl4, tl5, tl6, tl7, tl8, tl9, tl10, tl11, tl12, tl13, tl14, tl15, tl16]
theorem ar9 (k : Nat) : num_Arity.f (k + 59) (⟨#[102, 42]⟩ : ByteArray) = some (2, true) := by
  simp -implicitDefEqProofs [num_Arity.f, num_Arity.j0, prims, slices_Contains_string_string.f, slices_Index_string_string.f, slices_Index_string_string.l0, rdOf, wrap64, tl0, tl1, tl2, tl3, tl4, tl5, tl6, tl7, tl8, tl9, tl10, tl11, tl12, tl13, tl14, tl15, tl16]
theorem fl9 (k : Nat) : num_Floaty.f (k + 59) (⟨#[102, 42]⟩ : ByteArray) = some true := by
  simp -implicitDefEqProofs [num_Floaty.f, slices_Contains_string_string.f, slices_Index_string_string.f, slices_Index_string_string.l0, rdOf, wrap64, tl0, tl1, tl2, tl3, tl4, tl5, tl6, tl7, tl8, tl9, tl10, tl11, tl12, tl13, tl14, tl15, tl16]
theorem ar10 (k : Nat) : num_Arity.f (k + 59) (⟨#[102, 47]⟩ : ByteArray) = some (2, true) := by
  simp -implicitDefEqProofs [num_Arity.f, num_Arity.j0, prims, slices_Contains_string_string.f, slices_Index_string_string.f, slices_Index_string_string.l0, rdOf, wrap64, tl0, tl1, tl2, tl3, tl4, tl5, tl6, tl7, tl8, tl9, tl10, tl11, tl12, tl13, tl14, tl15, tl16]
theorem fl10 (k : Nat) : num_Floaty.f (k + 59) (⟨#[102, 47]⟩ : ByteArray) = some true := by
  simp -implicitDefEqProofs [num_Floaty.f, slices_Contains_string_string.f, slices_Index_string_string.f, slices_Index_string_string.l0, rdOf, wrap64, tl0, tl1, tl2, tl3, tl4, tl5, tl6, tl7, tl8, tl9, tl10, tl11, tl12, tl13, tl14, tl15, tl16]
theorem ar11 (k : Nat) : num_Arity.f (k + 59) (⟨#[102, 60]⟩ : ByteArray) = some (2, true) := by
  simp -implicitDefEqProofs [num_Arity.f, num_Arity.j0, prims, slices_Contains_string_string.f, slices_Index_string_string.f, slices_Index_string_string.l0, rdOf, wrap64, tl0, tl1, tl2, tl3, tl4, tl5, tl6, tl7, tl8, tl9, tl10, tl11, tl12, tl13, tl14, tl15, tl16]
theorem fl11 (k : Nat) : num_Floaty.f (k + 59) (⟨#[102, 60]⟩ : ByteArray) = some false := by
  simp -implicitDefEqProofs [num_Floaty.f, slices_Contains_string_string.f, slices_Index_string_string.f, slices_Index_string_string.l0, rdOf, wrap64, tl0, tl1, tl2, tl3, tl4, tl5, tl6, tl7, tl8, tl9, tl10, tl11, tl12, tl13, tl14, tl15, tl16]
theorem ar12 (k : Nat) : num_Arity.f (k + 59) (⟨#[102, 61]⟩ : ByteArray) = some (2, true) := by
  simp -implicitDefEqProofs [num_Arity.f, num_Arity.j0, prims, slices_Contains_string_string.f, slices_Index_string_string.f, slices_Index_string_string.l0, rdOf, wrap64, tl0, tl1, tl2, tl3, tl4, tl5, tl6, tl7, tl8, tl9, tl10, tl11, tl12, tl13, tl14, tl15, tl16]
theorem fl12 (k : Nat) : num_Floaty.f (k + 59) (⟨#[102, 61]⟩ : ByteArray) = some false := by
  simp -implicitDefEqProofs [num_Floaty.f, slices_Contains_string_string.f, slices_Index_string_string.f, slices_Index_string_string.l0, rdOf, wrap64, tl0, tl1, tl2, tl3, tl4, tl5, tl6, tl7, tl8, tl9, tl10, tl11, tl12, tl13, tl14, tl15, tl16]
theorem ar13 (k : Nat) : num_Arity.f (k + 59) (⟨#[102, 108, 111, 97, 116]⟩ : ByteArray) = some (1, true) := by
  simp -implicitDefEqProofs [num_Arity.f, num_Arity.j0, prims, slices_Contains_string_string.f, slices_Index_string_string.f, slices_Index_string_string.l0, rdOf, wrap64, tl0, tl1, tl2, tl3, tl4, tl5, tl6, tl7, tl8, tl9, tl10, tl11, tl12, tl13, tl14, tl15, tl16]
theorem fl13 (k : Nat) : num_Floaty.f (k + 59) (⟨#[102, 108, 111, 97, 116]⟩ : ByteArray) = some true := by
  simp -implicitDefEqProofs [num_Floaty.f, slices_Contains_string_string.f, slices_Index_string_string.f, slices_Index_string_string.l0, rdOf, wrap64, tl0, tl1, tl2, tl3, tl4, tl5, tl6, tl7, tl8, tl9, tl10, tl11, tl12, tl13, tl14, tl15, tl16]
theorem ar14 (k : Nat) : num_Arity.f (k + 59) (⟨#[119, 104, 111, 108, 101]⟩ : ByteArray) = some (1, true) := by
  simp -implicitDefEqProofs [num_Arity.f, num_Arity.j0, prims, slices_Contains_string_string.f, slices_Index_string_string.f, slices_Index_string_string.l0, rdOf, wrap64, tl0, tl1, tl2, tl3, tl4, tl5, tl6, tl7, tl8, tl9, tl10, tl11, tl12, tl13, tl14, tl15, tl16]
theorem fl14 (k : Nat) : num_Floaty.f (k + 59) (⟨#[119, 104, 111, 108, 101]⟩ : ByteArray) = some false := by
  simp -implicitDefEqProofs [num_Floaty.f, slices_Contains_string_string.f, slices_Index_string_string.f, slices_Index_string_string.l0, rdOf, wrap64, tl0, tl1, tl2, tl3, tl4, tl5, tl6, tl7, tl8, tl9, tl10, tl11, tl12, tl13, tl14, tl15, tl16]
theorem ar15 (k : Nat) : num_Arity.f (k + 59) (⟨#[115, 101, 113]⟩ : ByteArray) = some (2, true) := by
  simp -implicitDefEqProofs [num_Arity.f, num_Arity.j0, prims, slices_Contains_string_string.f, slices_Index_string_string.f, slices_Index_string_string.l0, rdOf, wrap64, tl0, tl1, tl2, tl3, tl4, tl5, tl6, tl7, tl8, tl9, tl10, tl11, tl12, tl13, tl14, tl15, tl16]
theorem fl15 (k : Nat) : num_Floaty.f (k + 59) (⟨#[115, 101, 113]⟩ : ByteArray) = some false := by
  simp -implicitDefEqProofs [num_Floaty.f, slices_Contains_string_string.f, slices_Index_string_string.f, slices_Index_string_string.l0, rdOf, wrap64, tl0, tl1, tl2, tl3, tl4, tl5, tl6, tl7, tl8, tl9, tl10, tl11, tl12, tl13, tl14, tl15, tl16]
theorem ar16 (k : Nat) : num_Arity.f (k + 59) (⟨#[]⟩ : ByteArray) = some (0, false) := by
  simp -implicitDefEqProofs [num_Arity.f, num_Arity.j0, prims, slices_Contains_string_string.f, slices_Index_string_string.f, slices_Index_string_string.l0, rdOf, wrap64, tl0, tl1, tl2, tl3, tl4, tl5, tl6, tl7, tl8, tl9, tl10, tl11, tl12, tl13, tl14, tl15, tl16]
variable (k : Nat) (a b : Int)
theorem do0 : ∃ v, num_Do.f (k + 59) (⟨#[43]⟩ : ByteArray) a b = some (v, 0, true) := by
  refine ⟨wrap64 (a + b), ?_⟩
  unfold num_Do.f
  simp only [tl0]
  simp -implicitDefEqProofs [num_one.f]
theorem do1 : ∃ v, num_Do.f (k + 59) (⟨#[45]⟩ : ByteArray) a b = some (v, 0, true) := by
  refine ⟨wrap64 (a - b), ?_⟩
  unfold num_Do.f
  simp only [tl1]
  simp -implicitDefEqProofs [num_one.f]
theorem do2 : ∃ v, num_Do.f (k + 59) (⟨#[42]⟩ : ByteArray) a b = some (v, 0, true) := by
  refine ⟨wrap64 (a * b), ?_⟩
  unfold num_Do.f
  simp only [tl2]
  simp -implicitDefEqProofs [num_one.f]
theorem do3 : ∃ v, num_Do.f (k + 59) (⟨#[100, 105, 118]⟩ : ByteArray) a b = some (v, if b = 0 then -2 else 0, true) := by
  unfold num_Do.f
  simp only [tl3]
  simp -implicitDefEqProofs [num_Do.j0, num_divide.f, tl3]
  by_cases h : b = 0 <;> simp [h]
theorem do4 : ∃ v, num_Do.f (k + 59) (⟨#[109, 111, 100]⟩ : ByteArray) a b = some (v, if b = 0 then -2 else 0, true) := by
  unfold num_Do.f
  simp only [tl4]
  simp -implicitDefEqProofs [num_Do.j0, num_divide.f, tl4]
  by_cases h : b = 0 <;> simp [h]
theorem do5 : ∃ v, num_Do.f (k + 59) (⟨#[60]⟩ : ByteArray) a b = some (v, 0, true) := by
  refine ⟨if a < b then 1 else 0, ?_⟩
  unfold num_Do.f
  simp only [tl5]
  simp -implicitDefEqProofs [num_one.f]
  split <;> rfl
theorem do6 : ∃ v, num_Do.f (k + 59) (⟨#[61]⟩ : ByteArray) a b = some (v, 0, true) := by
  refine ⟨if a = b then 1 else 0, ?_⟩
  unfold num_Do.f
  simp only [tl6]
  simp -implicitDefEqProofs [num_one.f]
  split <;> rfl
theorem do7 : ∃ v, num_Do.f (k + 59) (⟨#[102, 43]⟩ : ByteArray) a b = some (v, 0, false) := by
  refine ⟨0, ?_⟩
  unfold num_Do.f
  simp only [tl7]
  simp -implicitDefEqProofs [num_Do.j0]
theorem do8 : ∃ v, num_Do.f (k + 59) (⟨#[102, 45]⟩ : ByteArray) a b = some (v, 0, false) := by
  refine ⟨0, ?_⟩
  unfold num_Do.f
  simp only [tl8]
  simp -implicitDefEqProofs [num_Do.j0]
theorem do9 : ∃ v, num_Do.f (k + 59) (⟨#[102, 42]⟩ : ByteArray) a b = some (v, 0, false) := by
  refine ⟨0, ?_⟩
  unfold num_Do.f
  simp only [tl9]
  simp -implicitDefEqProofs [num_Do.j0]
theorem do10 : ∃ v, num_Do.f (k + 59) (⟨#[102, 47]⟩ : ByteArray) a b = some (v, 0, false) := by
  refine ⟨0, ?_⟩
  unfold num_Do.f
  simp only [tl10]
  simp -implicitDefEqProofs [num_Do.j0]
theorem do11 : ∃ v, num_Do.f (k + 59) (⟨#[102, 60]⟩ : ByteArray) a b = some (v, 0, false) := by
  refine ⟨0, ?_⟩
  unfold num_Do.f
  simp only [tl11]
  simp -implicitDefEqProofs [num_Do.j0]
theorem do12 : ∃ v, num_Do.f (k + 59) (⟨#[102, 61]⟩ : ByteArray) a b = some (v, 0, false) := by
  refine ⟨0, ?_⟩
  unfold num_Do.f
  simp only [tl12]
  simp -implicitDefEqProofs [num_Do.j0]
theorem do13 : ∃ v, num_Do.f (k + 59) (⟨#[102, 108, 111, 97, 116]⟩ : ByteArray) a b = some (v, 0, false) := by
  refine ⟨0, ?_⟩
  unfold num_Do.f
  simp only [tl13]
  simp -implicitDefEqProofs [num_Do.j0]
theorem do14 : ∃ v, num_Do.f (k + 59) (⟨#[119, 104, 111, 108, 101]⟩ : ByteArray) a b = some (v, 0, false) := by
  refine ⟨0, ?_⟩
  unfold num_Do.f
  simp only [tl14]
  simp -implicitDefEqProofs [num_Do.j0]
theorem do15 : ∃ v, num_Do.f (k + 59) (⟨#[115, 101, 113]⟩ : ByteArray) a b = some (v, 0, false) := by
  refine ⟨0, ?_⟩
  unfold num_Do.f
  simp only [tl15]
  simp -implicitDefEqProofs [num_Do.j0]
theorem st0 : gristmilllaw2_NumWords.l0 (k + 60) a b true LL 0 = gristmilllaw2_NumWords.l0 (k + 57) a b true LL 1 := by
  obtain ⟨v, hv⟩ := do0 k a b
  have ha := ar0 k
  have hf := fl0 k
  have e : rdOf ByteArray.empty LL 0 = (⟨#[43]⟩ : ByteArray) := rfl
  rw [gristmilllaw2_NumWords.l0.eq_2, e, ha, hv]
  simp -implicitDefEqProofs [hf, gristmilllaw2_NumWords.j1, gristmilllaw2_NumWords.l1, rdOf, wrap64, tl0, tl1, tl2, tl3, tl4, tl5, tl6, tl7, tl8, tl9, tl10, tl11, tl12, tl13, tl14, tl15, tl16]
theorem st1 : gristmilllaw2_NumWords.l0 (k + 60) a b true LL 1 = gristmilllaw2_NumWords.l0 (k + 56) a b true LL 2 := by
  obtain ⟨v, hv⟩ := do1 k a b
  have ha := ar1 k
  have hf := fl1 k
  have e : rdOf ByteArray.empty LL 1 = (⟨#[45]⟩ : ByteArray) := rfl
  rw [gristmilllaw2_NumWords.l0.eq_2, e, ha, hv]
  simp -implicitDefEqProofs [hf, gristmilllaw2_NumWords.j1, gristmilllaw2_NumWords.l1, rdOf, wrap64, tl0, tl1, tl2, tl3, tl4, tl5, tl6, tl7, tl8, tl9, tl10, tl11, tl12, tl13, tl14, tl15, tl16]
theorem st2 : gristmilllaw2_NumWords.l0 (k + 60) a b true LL 2 = gristmilllaw2_NumWords.l0 (k + 55) a b true LL 3 := by
  obtain ⟨v, hv⟩ := do2 k a b
  have ha := ar2 k
  have hf := fl2 k
  have e : rdOf ByteArray.empty LL 2 = (⟨#[42]⟩ : ByteArray) := rfl
  rw [gristmilllaw2_NumWords.l0.eq_2, e, ha, hv]
  simp -implicitDefEqProofs [hf, gristmilllaw2_NumWords.j1, gristmilllaw2_NumWords.l1, rdOf, wrap64, tl0, tl1, tl2, tl3, tl4, tl5, tl6, tl7, tl8, tl9, tl10, tl11, tl12, tl13, tl14, tl15, tl16]
theorem st3 : gristmilllaw2_NumWords.l0 (k + 60) a b true LL 3 = gristmilllaw2_NumWords.l0 (k + 54) a b true LL 4 := by
  obtain ⟨v, hv⟩ := do3 k a b
  have ha := ar3 k
  have hf := fl3 k
  have e : rdOf ByteArray.empty LL 3 = (⟨#[100, 105, 118]⟩ : ByteArray) := rfl
  rw [gristmilllaw2_NumWords.l0.eq_2, e, ha, hv]
  by_cases h : b = 0
  · simp -implicitDefEqProofs [h, hf, gristmilllaw2_NumWords.j1, gristmilllaw2_NumWords.l1, rdOf, wrap64, tl0, tl1, tl2, tl3, tl4, tl5, tl6, tl7, tl8, tl9, tl10, tl11, tl12, tl13, tl14, tl15, tl16]
  · simp -implicitDefEqProofs [h, hf, gristmilllaw2_NumWords.j1, gristmilllaw2_NumWords.l1, rdOf, wrap64, tl0, tl1, tl2, tl3, tl4, tl5, tl6, tl7, tl8, tl9, tl10, tl11, tl12, tl13, tl14, tl15, tl16]
theorem st4 : gristmilllaw2_NumWords.l0 (k + 60) a b true LL 4 = gristmilllaw2_NumWords.l0 (k + 53) a b true LL 5 := by
  obtain ⟨v, hv⟩ := do4 k a b
  have ha := ar4 k
  have hf := fl4 k
  have e : rdOf ByteArray.empty LL 4 = (⟨#[109, 111, 100]⟩ : ByteArray) := rfl
  rw [gristmilllaw2_NumWords.l0.eq_2, e, ha, hv]
  by_cases h : b = 0
  · simp -implicitDefEqProofs [h, hf, gristmilllaw2_NumWords.j1, gristmilllaw2_NumWords.l1, rdOf, wrap64, tl0, tl1, tl2, tl3, tl4, tl5, tl6, tl7, tl8, tl9, tl10, tl11, tl12, tl13, tl14, tl15, tl16]
  · simp -implicitDefEqProofs [h, hf, gristmilllaw2_NumWords.j1, gristmilllaw2_NumWords.l1, rdOf, wrap64, tl0, tl1, tl2, tl3, tl4, tl5, tl6, tl7, tl8, tl9, tl10, tl11, tl12, tl13, tl14, tl15, tl16]
theorem st5 : gristmilllaw2_NumWords.l0 (k + 60) a b true LL 5 = gristmilllaw2_NumWords.l0 (k + 52) a b true LL 6 := by
  obtain ⟨v, hv⟩ := do5 k a b
  have ha := ar5 k
  have hf := fl5 k
  have e : rdOf ByteArray.empty LL 5 = (⟨#[60]⟩ : ByteArray) := rfl
  rw [gristmilllaw2_NumWords.l0.eq_2, e, ha, hv]
  simp -implicitDefEqProofs [hf, gristmilllaw2_NumWords.j1, gristmilllaw2_NumWords.l1, rdOf, wrap64, tl0, tl1, tl2, tl3, tl4, tl5, tl6, tl7, tl8, tl9, tl10, tl11, tl12, tl13, tl14, tl15, tl16]
theorem st6 : gristmilllaw2_NumWords.l0 (k + 60) a b true LL 6 = gristmilllaw2_NumWords.l0 (k + 51) a b true LL 7 := by
  obtain ⟨v, hv⟩ := do6 k a b
  have ha := ar6 k
  have hf := fl6 k
  have e : rdOf ByteArray.empty LL 6 = (⟨#[61]⟩ : ByteArray) := rfl
  rw [gristmilllaw2_NumWords.l0.eq_2, e, ha, hv]
  simp -implicitDefEqProofs [hf, gristmilllaw2_NumWords.j1, gristmilllaw2_NumWords.l1, rdOf, wrap64, tl0, tl1, tl2, tl3, tl4, tl5, tl6, tl7, tl8, tl9, tl10, tl11, tl12, tl13, tl14, tl15, tl16]
theorem st7 : gristmilllaw2_NumWords.l0 (k + 60) a b true LL 7 = gristmilllaw2_NumWords.l0 (k + 50) a b true LL 8 := by
  obtain ⟨v, hv⟩ := do7 k a b
  have ha := ar7 k
  have hf := fl7 k
  have e : rdOf ByteArray.empty LL 7 = (⟨#[102, 43]⟩ : ByteArray) := rfl
  rw [gristmilllaw2_NumWords.l0.eq_2, e, ha, hv]
  simp -implicitDefEqProofs [hf, gristmilllaw2_NumWords.j1, gristmilllaw2_NumWords.l1, rdOf, wrap64, tl0, tl1, tl2, tl3, tl4, tl5, tl6, tl7, tl8, tl9, tl10, tl11, tl12, tl13, tl14, tl15, tl16]
theorem st8 : gristmilllaw2_NumWords.l0 (k + 60) a b true LL 8 = gristmilllaw2_NumWords.l0 (k + 49) a b true LL 9 := by
  obtain ⟨v, hv⟩ := do8 k a b
  have ha := ar8 k
  have hf := fl8 k
  have e : rdOf ByteArray.empty LL 8 = (⟨#[102, 45]⟩ : ByteArray) := rfl
  rw [gristmilllaw2_NumWords.l0.eq_2, e, ha, hv]
  simp -implicitDefEqProofs [hf, gristmilllaw2_NumWords.j1, gristmilllaw2_NumWords.l1, rdOf, wrap64, tl0, tl1, tl2, tl3, tl4, tl5, tl6, tl7, tl8, tl9, tl10, tl11, tl12, tl13, tl14, tl15, tl16]
theorem st9 : gristmilllaw2_NumWords.l0 (k + 60) a b true LL 9 = gristmilllaw2_NumWords.l0 (k + 48) a b true LL 10 := by
  obtain ⟨v, hv⟩ := do9 k a b
  have ha := ar9 k
  have hf := fl9 k
  have e : rdOf ByteArray.empty LL 9 = (⟨#[102, 42]⟩ : ByteArray) := rfl
  rw [gristmilllaw2_NumWords.l0.eq_2, e, ha, hv]
  simp -implicitDefEqProofs [hf, gristmilllaw2_NumWords.j1, gristmilllaw2_NumWords.l1, rdOf, wrap64, tl0, tl1, tl2, tl3, tl4, tl5, tl6, tl7, tl8, tl9, tl10, tl11, tl12, tl13, tl14, tl15, tl16]
theorem st10 : gristmilllaw2_NumWords.l0 (k + 60) a b true LL 10 = gristmilllaw2_NumWords.l0 (k + 47) a b true LL 11 := by
  obtain ⟨v, hv⟩ := do10 k a b
  have ha := ar10 k
  have hf := fl10 k
  have e : rdOf ByteArray.empty LL 10 = (⟨#[102, 47]⟩ : ByteArray) := rfl
  rw [gristmilllaw2_NumWords.l0.eq_2, e, ha, hv]
  simp -implicitDefEqProofs [hf, gristmilllaw2_NumWords.j1, gristmilllaw2_NumWords.l1, rdOf, wrap64, tl0, tl1, tl2, tl3, tl4, tl5, tl6, tl7, tl8, tl9, tl10, tl11, tl12, tl13, tl14, tl15, tl16]
theorem st11 : gristmilllaw2_NumWords.l0 (k + 60) a b true LL 11 = gristmilllaw2_NumWords.l0 (k + 46) a b true LL 12 := by
  obtain ⟨v, hv⟩ := do11 k a b
  have ha := ar11 k
  have hf := fl11 k
  have e : rdOf ByteArray.empty LL 11 = (⟨#[102, 60]⟩ : ByteArray) := rfl
  rw [gristmilllaw2_NumWords.l0.eq_2, e, ha, hv]
  simp -implicitDefEqProofs [hf, gristmilllaw2_NumWords.j1, gristmilllaw2_NumWords.l1, rdOf, wrap64, tl0, tl1, tl2, tl3, tl4, tl5, tl6, tl7, tl8, tl9, tl10, tl11, tl12, tl13, tl14, tl15, tl16]
theorem st12 : gristmilllaw2_NumWords.l0 (k + 60) a b true LL 12 = gristmilllaw2_NumWords.l0 (k + 45) a b true LL 13 := by
  obtain ⟨v, hv⟩ := do12 k a b
  have ha := ar12 k
  have hf := fl12 k
  have e : rdOf ByteArray.empty LL 12 = (⟨#[102, 61]⟩ : ByteArray) := rfl
  rw [gristmilllaw2_NumWords.l0.eq_2, e, ha, hv]
  simp -implicitDefEqProofs [hf, gristmilllaw2_NumWords.j1, gristmilllaw2_NumWords.l1, rdOf, wrap64, tl0, tl1, tl2, tl3, tl4, tl5, tl6, tl7, tl8, tl9, tl10, tl11, tl12, tl13, tl14, tl15, tl16]
theorem st13 : gristmilllaw2_NumWords.l0 (k + 60) a b true LL 13 = gristmilllaw2_NumWords.l0 (k + 44) a b true LL 14 := by
  obtain ⟨v, hv⟩ := do13 k a b
  have ha := ar13 k
  have hf := fl13 k
  have e : rdOf ByteArray.empty LL 13 = (⟨#[102, 108, 111, 97, 116]⟩ : ByteArray) := rfl
  rw [gristmilllaw2_NumWords.l0.eq_2, e, ha, hv]
  simp -implicitDefEqProofs [hf, gristmilllaw2_NumWords.j1, gristmilllaw2_NumWords.l1, rdOf, wrap64, tl0, tl1, tl2, tl3, tl4, tl5, tl6, tl7, tl8, tl9, tl10, tl11, tl12, tl13, tl14, tl15, tl16]
theorem st14 : gristmilllaw2_NumWords.l0 (k + 60) a b true LL 14 = gristmilllaw2_NumWords.l0 (k + 43) a b true LL 15 := by
  obtain ⟨v, hv⟩ := do14 k a b
  have ha := ar14 k
  have hf := fl14 k
  have e : rdOf ByteArray.empty LL 14 = (⟨#[119, 104, 111, 108, 101]⟩ : ByteArray) := rfl
  rw [gristmilllaw2_NumWords.l0.eq_2, e, ha, hv]
  simp -implicitDefEqProofs [hf, gristmilllaw2_NumWords.j1, gristmilllaw2_NumWords.l1, rdOf, wrap64, tl0, tl1, tl2, tl3, tl4, tl5, tl6, tl7, tl8, tl9, tl10, tl11, tl12, tl13, tl14, tl15, tl16]
theorem st15 : gristmilllaw2_NumWords.l0 (k + 60) a b true LL 15 = gristmilllaw2_NumWords.l0 (k + 42) a b true LL 16 := by
  obtain ⟨v, hv⟩ := do15 k a b
  have ha := ar15 k
  have hf := fl15 k
  have e : rdOf ByteArray.empty LL 15 = (⟨#[115, 101, 113]⟩ : ByteArray) := rfl
  rw [gristmilllaw2_NumWords.l0.eq_2, e, ha, hv]
  simp -implicitDefEqProofs [hf, gristmilllaw2_NumWords.j1, gristmilllaw2_NumWords.l1, rdOf, wrap64, tl0, tl1, tl2, tl3, tl4, tl5, tl6, tl7, tl8, tl9, tl10, tl11, tl12, tl13, tl14, tl15, tl16]
theorem has_seq (k : Nat) : gristmillref_Has.f (k + 59) LL (⟨#[115, 101, 113]⟩ : ByteArray) = some true := by
  simp -implicitDefEqProofs [gristmillref_Has.f, gristmillref_Place.f, gristmillref_Place.l0, rdOf, wrap64, tl0, tl1, tl2, tl3, tl4, tl5, tl6, tl7, tl8, tl9, tl10, tl11, tl12, tl13, tl14, tl15, tl16]
theorem fin (k : Nat) (a b : Int) : gristmilllaw2_NumWords.l0 (k + 60) a b true LL 16 = some true := by
  have h0 := ar16 k
  have h1 := has_seq k
  rw [gristmilllaw2_NumWords.l0.eq_2, h0, h1]
  simp -implicitDefEqProofs [gristmilllaw2_NumWords.j3]
theorem do_div (k : Nat) (a b : Int) : num_Do.f (k + 1) (⟨#[100, 105, 118]⟩ : ByteArray) a b = some (if b = 0 then 0 else wrap64 (Int.tdiv a b), if b = 0 then -2 else 0, true) := by
  unfold num_Do.f
  have e : (⟨#[100, 105, 118]⟩ : ByteArray).toList = [100, 105, 118] := lit_toList [100, 105, 118]
  rw [e, if_neg (by decide), if_neg (by decide), if_neg (by decide), if_neg (by decide), if_neg (by decide), if_pos rfl]
  simp only [num_Do.j0]
  unfold num_divide.f
  rw [e]
  by_cases h : b = 0 <;> simp [h]
theorem first_ok (k : Nat) : gristmilllaw2_first.f (k + 1) = some true := by
  unfold gristmilllaw2_first.f
  rw [do_div, Option.bind_some]
  simp only [if_true]
  unfold num_Text.f strconv_FormatInt.f
  rw [if_pos (by rfl), if_pos (by decide), if_pos (by decide), Option.bind_some, Option.bind_some, lit_toList]
  have e5 : Lib.itoa (-5) = [45, 53] := by
    simp [Lib.itoa, Lib.decDigits]
  rw [e5]
  simp only [gristmilllaw2_first.j0]
  rfl
theorem all (a b : Int) : gristmilllaw2_NumWords.l0 (168 + 60) a b true LL 0 = some true :=
  (st0 168 a b).trans ((st1 165 a b).trans ((st2 161 a b).trans ((st3 156 a b).trans ((st4 150 a b).trans ((st5 143 a b).trans ((st6 135 a b).trans ((st7 126 a b).trans ((st8 116 a b).trans ((st9 105 a b).trans ((st10 93 a b).trans ((st11 80 a b).trans ((st12 66 a b).trans ((st13 51 a b).trans ((st14 35 a b).trans ((st15 18 a b).trans (fin 0 a b))))))))))))))))
end W
theorem NumWords : gristmilllaw2_NumWords.Pure := by
  intro a b _ _
  refine ⟨168 + 60, ?_⟩
  unfold gristmilllaw2_NumWords.f
  have h := W.all a b
  rw [show (168 + 60 : Nat) = 227 + 1 from rfl, W.first_ok, Option.bind_some, if_pos rfl, W.prims, Option.bind_some, if_pos (by rfl)]
  exact h
end Go.Proofs.YtkikfkhonjobcaaDoor.Pure
