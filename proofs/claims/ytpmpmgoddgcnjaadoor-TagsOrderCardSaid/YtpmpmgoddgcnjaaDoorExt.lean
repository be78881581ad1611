/- What a call of strconv.Itoa comes to, at a number from 0 to 99: its decimal numeral; the world is as it was. -/
import Derived.Test.YtpmpmgoddgcnjaaDoorShelf
import Derived.Test.YtpmpmgoddgcnjaaDoorWWords
import Derived.Laws.Cover1
import Derived.WalkKit
namespace Go.Proofs.YtpmpmgoddgcnjaaDoor.Ext
open Go.RowKit Go.Proofs.YtpmpmgoddgcnjaaDoorW.PrintWords
set_option linter.unusedVariables false

def strconv_Itoa.f (a0 : Int) : Option ByteArray := if 0 ≤ a0 then (if a0 < 100 then some (⟨(Lib.decDigits a0.toNat).toArray⟩ : ByteArray) else none) else none
theorem strconv_Itoa.calls (a0 : Int) (r : ByteArray) (w : World) (h : strconv_Itoa.f a0 = some r) :
    Calls Tryd.prog 33 #[.int .i64 a0] w fun e w' => e = .returned (.string r) ∧ Drawn0 w w' := by
  unfold strconv_Itoa.f at h
  by_cases h1 : 0 ≤ a0
  · by_cases h2 : a0 < 100
    · rw [if_pos h1, if_pos h2] at h
      obtain rfl := Option.some.inj h
      obtain ⟨m, rfl⟩ := Int.eq_ofNat_of_zero_le h1
      refine (Tryd.strconv_Itoa_small m (by omega) w).mono fun e w' ⟨he, hw⟩ => ⟨he, ?_⟩
      rw [hw]
      exact Drawn0.refl w
    · rw [if_pos h1, if_neg h2] at h
      cases h
  · rw [if_neg h1] at h
    cases h

/-! ### cmp.Compare at strings -/
def cmp_Compare_string.f (a0 a1 : ByteArray) : Option Int := if Op.bytesLess a0.toList a1.toList = true then some (-1) else if a0.toList = a1.toList then some 0 else some 1
theorem isNaN_calls (a0 : ByteArray) (w : World) : Calls Tryd.prog 42 #[.string a0] w fun e w' => e = .returned (.bool false) ∧ w' = w := by
  have h1 : (a0.toList != a0.toList) = false := by simp
  go_enter Tryd.func42, Tryd.ntmps42
  go_wp2
  go_ret
  exact ⟨by first | rfl | simp, rfl⟩
theorem cmp_Compare_string.calls (a0 a1 : ByteArray) (r : Int) (w : World) (h : cmp_Compare_string.f a0 a1 = some r) :
    Calls Tryd.prog 36 #[.string a0, .string a1] w fun e w' => e = .returned (.int .i64 r) ∧ Drawn0 w w' := by
  unfold cmp_Compare_string.f at h
  by_cases h1 : Op.bytesLess a0.toList a1.toList = true
  · rw [if_pos h1] at h
    obtain rfl := Option.some.inj h
    go_enter Tryd.func36, Tryd.ntmps36
    go_wp2_with (go_at_call 42; refine (isNaN_calls _ _).mono ?_; rintro e w' ⟨rfl, rfl⟩)
    go_ret
    exact ⟨rfl, by repeat (first | exact Drawn0.refl _ | apply Drawn0.step)⟩
  · have h1' : Op.bytesLess a0.toList a1.toList = false := by simpa using h1
    rw [if_neg h1] at h
    by_cases h2 : a0.toList = a1.toList
    · rw [if_pos h2] at h
      obtain rfl := Option.some.inj h
      have h2' : (a0.toList == a1.toList) = true := by simpa using h2
      clear h2 h1
      go_enter Tryd.func36, Tryd.ntmps36
      go_wp2_with (go_at_call 42; refine (isNaN_calls _ _).mono ?_; rintro e w' ⟨rfl, rfl⟩)
      go_ret
      exact ⟨rfl, by repeat (first | exact Drawn0.refl _ | apply Drawn0.step)⟩
    · rw [if_neg h2] at h
      obtain rfl := Option.some.inj h
      have h2' : (a0.toList == a1.toList) = false := by simpa using h2
      clear h2 h1
      go_enter Tryd.func36, Tryd.ntmps36
      go_wp2_with (go_at_call 42; refine (isNaN_calls _ _).mono ?_; rintro e w' ⟨rfl, rfl⟩)
      go_ret
      exact ⟨rfl, by repeat (first | exact Drawn0.refl _ | apply Drawn0.step)⟩
end Go.Proofs.YtpmpmgoddgcnjaaDoor.Ext
