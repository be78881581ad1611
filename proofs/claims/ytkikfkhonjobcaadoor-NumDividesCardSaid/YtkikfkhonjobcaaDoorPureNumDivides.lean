/- What is divided is the quotient times the divisor, and the rest, which is smaller and has its sign: the pure law of NumDivides, for every two whole numbers of 64 bits. -/
import Derived.Test.YtkikfkhonjobcaaDoorPNumDx2
import Derived.Laws.Strings
import Derived.OpenShut
namespace Go.Proofs.YtkikfkhonjobcaaDoor.Pure
open Go.RowKit Go.Proofs.YtkikfkhonjobcaaDoor.PNumD Go.Proofs.YtkikfkhonjobcaaDoorW.PrintWords Go.Proofs.YtkikfkhonjobcaaDoorW.PrintLast Go.Proofs.YtkikfkhonjobcaaDoor.Ext
set_option linter.unusedVariables false
namespace D
theorem lit_toList (l : List UInt8) : (⟨l.toArray⟩ : ByteArray).toList = l := ByteArray.toList_mk l
theorem do_plus (k : Nat) (a b : Int) : num_Do.f k (⟨#[43]⟩ : ByteArray) a b = some (wrap64 (a + b), 0, true) := by
  unfold num_Do.f
  rw [if_pos (lit_toList [43])]
theorem do_times (k : Nat) (a b : Int) : num_Do.f k (⟨#[42]⟩ : ByteArray) a b = some (wrap64 (a * b), 0, true) := by
  unfold num_Do.f
  have e : (⟨#[42]⟩ : ByteArray).toList = [42] := lit_toList [42]
  rw [e, if_neg (by decide), if_neg (by decide), if_pos rfl]
theorem do_less (k : Nat) (a b : Int) : num_Do.f k (⟨#[60]⟩ : ByteArray) a b = some (if a < b then 1 else 0, 0, true) := by
  unfold num_Do.f
  have e : (⟨#[60]⟩ : ByteArray).toList = [60] := lit_toList [60]
  rw [e, if_neg (by decide), if_neg (by decide), if_neg (by decide), if_pos rfl]
  unfold num_one.f
  by_cases h : a < b <;> simp [h]
theorem do_same (k : Nat) (a b : Int) : num_Do.f k (⟨#[61]⟩ : ByteArray) a b = some (if a = b then 1 else 0, 0, true) := by
  unfold num_Do.f
  have e : (⟨#[61]⟩ : ByteArray).toList = [61] := lit_toList [61]
  rw [e, if_neg (by decide), if_neg (by decide), if_neg (by decide), if_neg (by decide), if_pos rfl]
  unfold num_one.f
  by_cases h : a = b <;> simp [h]
theorem do_div (k : Nat) (a b : Int) : num_Do.f (k + 1) (⟨#[100, 105, 118]⟩ : ByteArray) a b = some (if b = 0 then 0 else wrap64 (Int.tdiv a b), if b = 0 then -2 else 0, true) := by
  unfold num_Do.f
  have e : (⟨#[100, 105, 118]⟩ : ByteArray).toList = [100, 105, 118] := lit_toList [100, 105, 118]
  rw [e, if_neg (by decide), if_neg (by decide), if_neg (by decide), if_neg (by decide), if_neg (by decide), if_pos rfl]
  simp only [num_Do.j0]
  unfold num_divide.f
  rw [e]
  by_cases h : b = 0 <;> simp [h]
theorem do_mod (k : Nat) (a b : Int) : num_Do.f (k + 1) (⟨#[109, 111, 100]⟩ : ByteArray) a b = some (if b = 0 then 0 else Int.tmod a b, if b = 0 then -2 else 0, true) := by
  unfold num_Do.f
  have e : (⟨#[109, 111, 100]⟩ : ByteArray).toList = [109, 111, 100] := lit_toList [109, 111, 100]
  rw [e, if_neg (by decide), if_neg (by decide), if_neg (by decide), if_neg (by decide), if_neg (by decide), if_neg (by decide)]
  simp only [num_Do.j0]
  unfold num_divide.f
  rw [e]
  by_cases h : b = 0 <;> simp [h]
theorem first_ok (k : Nat) : gristmilllaw2_first.f (k + 1) = some true := by
  unfold gristmilllaw2_first.f
  rw [do_div, Option.bind_some]
  simp only [if_true]
  unfold num_Text.f strconv_FormatInt.f
  rw [if_pos (by rfl), if_pos (by decide), if_pos (by decide), Option.bind_some, Option.bind_some, lit_toList]
  have e5 : Lib.itoa (-5) = [45, 53] := by
    simp [Lib.itoa, Lib.decDigits]
  rw [e5]
  simp only [gristmilllaw2_first.j0]
  rfl
theorem wrap_mod (x : Int) : wrap64 x % 18446744073709551616 = x % 18446744073709551616 := by unfold wrap64; omega
theorem wrap_ext {x y : Int} (h : x % 18446744073709551616 = y % 18446744073709551616) : wrap64 x = wrap64 y := by unfold wrap64; omega
theorem wrap_id {x : Int} (h0 : -9223372036854775808 ≤ x) (h1 : x ≤ 9223372036854775807) : wrap64 x = x := by unfold wrap64; omega
theorem back (a b : Int) (h0 : -9223372036854775808 ≤ a) (h1 : a ≤ 9223372036854775807) : wrap64 (wrap64 (wrap64 (Int.tdiv a b) * b) + Int.tmod a b) = a := by
  apply Eq.trans (wrap_ext (y := a) _) (wrap_id h0 h1)
  rw [Int.add_emod, wrap_mod, Int.mul_emod, wrap_mod, ← Int.mul_emod, ← Int.add_emod]
  have := Int.mul_tdiv_add_tmod a b
  rw [Int.mul_comm] at this
  rw [this]
theorem sign_ok (a b : Int) : (if Int.tmod a b = 0 then true else (decide (Int.tmod a b < 0) == decide (a < 0))) = true := by
  by_cases h : a < 0
  · have := Int.tmod_nonneg b (show 0 ≤ -a by omega)
    rw [Int.neg_tmod] at this
    by_cases h0 : Int.tmod a b = 0
    · rw [if_pos h0]
    · rw [if_neg h0]
      simp [h]
      omega
  · have := Int.tmod_nonneg b (show 0 ≤ a by omega)
    by_cases h0 : Int.tmod a b = 0
    · rw [if_pos h0]
    · rw [if_neg h0]
      simp [h]
      omega
theorem small_ok (a b : Int) (hb : b ≠ 0) : (0 < b → -b < Int.tmod a b ∧ Int.tmod a b < b) ∧ (b < 0 → b < Int.tmod a b ∧ Int.tmod a b < -b) := by
  refine ⟨fun h => ⟨Int.lt_tmod_of_pos a h, Int.tmod_lt_of_pos a h⟩, fun h => ?_⟩
  have h1 := Int.lt_tmod_of_pos a (show 0 < -b by omega)
  have h2 := Int.tmod_lt_of_pos a (show 0 < -b by omega)
  rw [Int.tmod_neg] at h1 h2
  omega
theorem j2_ok (k : Nat) (a b : Int) : gristmilllaw2_NumDivides.j2 (k + 2) a true 0 0 a (if a < b then 1 else 0) (if b < a then 1 else 0) (if a = b then 1 else 0) true true = some true := by
  simp only [gristmilllaw2_NumDivides.j2, gristmilllaw2_NumDivides.j3, if_true]
  rcases Int.lt_trichotomy a b with h | h | h
  · rw [if_pos h, if_neg (by omega), if_neg (by omega)]; simp [wrap64]
  · rw [if_neg (by omega), if_neg (by omega), if_pos h]; simp [wrap64]
  · rw [if_neg (by omega), if_pos h, if_neg (by omega)]; simp [wrap64]
theorem j1_ok (k : Nat) (a b : Int) (hb : b ≠ 0) (b0 : -9223372036854775808 ≤ b) (b1 : b ≤ 9223372036854775807) :
    gristmilllaw2_NumDivides.j1 (k + 3) a b true 0 (Int.tmod a b) 0 a (if a < b then 1 else 0) (if b < a then 1 else 0) (if a = b then 1 else 0) true = some true := by
  simp only [gristmilllaw2_NumDivides.j1]
  by_cases hm : b = -9223372036854775808
  · rw [if_pos hm]
    exact j2_ok k a b
  · rw [if_neg hm]
    have hw : wrap64 (-b) = -b := wrap_id (by omega) (by omega)
    rw [hw]
    obtain ⟨s1, s2⟩ := small_ok a b hb
    by_cases hp : 0 < b
    · obtain ⟨t1, t2⟩ := s1 hp
      rw [if_pos t2, if_pos (by omega)]
      exact j2_ok k a b
    · obtain ⟨t1, t2⟩ := s2 (by omega)
      by_cases hr : Int.tmod a b < b
      · omega
      · rw [if_neg hr, if_pos t2, decide_eq_true (by omega)]
        exact j2_ok k a b
end D
theorem NumDivides : gristmilllaw2_NumDivides.Pure := by
  intro a b ha hb
  have ⟨a0, a1⟩ := bounds_i64 ha
  have ⟨b0, b1⟩ := bounds_i64 hb
  refine ⟨3, ?_⟩
  unfold gristmilllaw2_NumDivides.f
  rw [D.first_ok 2]
  simp only [Option.bind_some, if_true, D.do_div 2, D.do_mod 2, D.do_times, D.do_plus, D.do_less, D.do_same]
  by_cases h0 : b = 0
  · simp only [h0, if_true]
    simp only [gristmilllaw2_NumDivides.j0]
    rfl
  · simp only [if_neg h0]
    rw [D.back a b a0 a1]
    have hs := D.sign_ok a b
    have hj := D.j1_ok 0 a b h0 b0 b1
    by_cases hr : Int.tmod a b = 0
    · rw [if_pos hr]
      exact hj
    · rw [if_neg hr] at hs ⊢
      rw [hs]
      exact hj
end Go.Proofs.YtkikfkhonjobcaaDoor.Pure
