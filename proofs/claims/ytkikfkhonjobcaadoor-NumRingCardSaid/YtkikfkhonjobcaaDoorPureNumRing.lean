/- Sums and products of 64 bits go round in any order: the pure law of NumRing, for every three whole numbers of 64 bits. -/
import Derived.Test.YtkikfkhonjobcaaDoorPNumx1
import Derived.Laws.Strings
import Derived.OpenShut
namespace Go.Proofs.YtkikfkhonjobcaaDoor.Pure
open Go.RowKit Go.Proofs.YtkikfkhonjobcaaDoor.PNum Go.Proofs.YtkikfkhonjobcaaDoorW.PrintWords Go.Proofs.YtkikfkhonjobcaaDoorW.PrintLast
set_option linter.unusedVariables false

theorem lit_toList (l : List UInt8) : (⟨l.toArray⟩ : ByteArray).toList = l := ByteArray.toList_mk l
theorem do_plus (a b : Int) : num_Do.f (⟨#[43]⟩ : ByteArray) a b = some (wrap64 (a + b), 0, true) := by
  unfold num_Do.f
  rw [if_pos (lit_toList [43])]
theorem do_minus (a b : Int) : num_Do.f (⟨#[45]⟩ : ByteArray) a b = some (wrap64 (a - b), 0, true) := by
  unfold num_Do.f
  have e : (⟨#[45]⟩ : ByteArray).toList = [45] := lit_toList [45]
  rw [e, if_neg (by decide), if_pos rfl]
theorem do_times (a b : Int) : num_Do.f (⟨#[42]⟩ : ByteArray) a b = some (wrap64 (a * b), 0, true) := by
  unfold num_Do.f
  have e : (⟨#[42]⟩ : ByteArray).toList = [42] := lit_toList [42]
  rw [e, if_neg (by decide), if_neg (by decide), if_pos rfl]
theorem do_less (a b : Int) : num_Do.f (⟨#[60]⟩ : ByteArray) a b = some (if a < b then 1 else 0, 0, true) := by
  unfold num_Do.f
  have e : (⟨#[60]⟩ : ByteArray).toList = [60] := lit_toList [60]
  rw [e, if_neg (by decide), if_neg (by decide), if_neg (by decide), if_pos rfl]
  unfold num_one.f
  by_cases h : a < b <;> simp [h]
theorem do_same (a b : Int) : num_Do.f (⟨#[61]⟩ : ByteArray) a b = some (if a = b then 1 else 0, 0, true) := by
  unfold num_Do.f
  have e : (⟨#[61]⟩ : ByteArray).toList = [61] := lit_toList [61]
  rw [e, if_neg (by decide), if_neg (by decide), if_neg (by decide), if_neg (by decide), if_pos rfl]
  unfold num_one.f
  by_cases h : a = b <;> simp [h]
theorem do_div (a b : Int) : num_Do.f (⟨#[100, 105, 118]⟩ : ByteArray) a b = some (if b = 0 then 0 else wrap64 (Int.tdiv a b), if b = 0 then -2 else 0, true) := by
  unfold num_Do.f
  have e : (⟨#[100, 105, 118]⟩ : ByteArray).toList = [100, 105, 118] := lit_toList [100, 105, 118]
  rw [e, if_neg (by decide), if_neg (by decide), if_neg (by decide), if_neg (by decide), if_neg (by decide), if_pos rfl]
  unfold num_divide.f
  rw [e]
  by_cases h : b = 0 <;> simp [h]
theorem do_mod (a b : Int) : num_Do.f (⟨#[109, 111, 100]⟩ : ByteArray) a b = some (if b = 0 then 0 else Int.tmod a b, if b = 0 then -2 else 0, true) := by
  unfold num_Do.f
  have e : (⟨#[109, 111, 100]⟩ : ByteArray).toList = [109, 111, 100] := lit_toList [109, 111, 100]
  rw [e, if_neg (by decide), if_neg (by decide), if_neg (by decide), if_neg (by decide), if_neg (by decide), if_neg (by decide), if_pos rfl]
  unfold num_divide.f
  rw [e]
  by_cases h : b = 0 <;> simp [h]

theorem first_ok : gristmilllaw2_first.f = some true := by
  unfold gristmilllaw2_first.f
  rw [do_div, Option.bind_some]
  simp only [if_true]
  unfold num_Text.f strconv_FormatInt.f
  rw [if_pos (by rfl), if_pos (by decide), if_pos (by decide), Option.bind_some, Option.bind_some, lit_toList]
  have e5 : Lib.itoa (-5) = [45, 53] := by
    simp [Lib.itoa, Lib.decDigits]
  rw [e5]
  rfl

theorem wrap_mod (x : Int) : wrap64 x % 18446744073709551616 = x % 18446744073709551616 := by unfold wrap64; omega
theorem wrap_ext {x y : Int} (h : x % 18446744073709551616 = y % 18446744073709551616) : wrap64 x = wrap64 y := by unfold wrap64; omega
theorem wrap_id {x : Int} (h0 : -9223372036854775808 ≤ x) (h1 : x ≤ 9223372036854775807) : wrap64 x = x := by unfold wrap64; omega

theorem NumRing : gristmilllaw2_NumRing.Pure := by
  intro a b c ha hb hc
  have ⟨a0, a1⟩ := bounds_i64 ha
  unfold gristmilllaw2_NumRing.f
  rw [first_ok]
  simp only [Option.bind_some, if_true, do_plus, do_minus, do_times]
  rw [if_pos, if_pos, if_pos, if_pos]
  · simp only [Option.some.injEq, beq_iff_eq]
    rw [Int.mul_comm]
  · apply Eq.trans (wrap_ext (y := a) _) (wrap_id a0 a1)
    unfold wrap64
    omega
  · apply wrap_ext
    rw [Int.mul_emod, wrap_mod, ← Int.mul_emod, Int.add_emod, wrap_mod, wrap_mod, ← Int.add_emod, Int.add_mul]
  · apply wrap_ext
    rw [Int.add_emod, wrap_mod, ← Int.add_emod, Int.add_emod a (wrap64 (b + c)), wrap_mod, ← Int.add_emod, Int.add_assoc]
  · rw [Int.add_comm]
end Go.Proofs.YtkikfkhonjobcaaDoor.Pure
