/- Any number's text is read as it; a 0 ahead, a sign twice, a digit more than may be, are none: the pure law of NumBack, for every two whole numbers of 64 bits. -/
import Derived.Test.YtkikfkhonjobcaaDoorPNumBx1
import Derived.Test.YtkikfkhonjobcaaDoorNumText
import Derived.OpenShut
namespace Go.Proofs.YtkikfkhonjobcaaDoor.Pure
open Go.RowKit Go.Proofs.YtkikfkhonjobcaaDoor.PNumB Go.Proofs.YtkikfkhonjobcaaDoorW.PrintWords Go.Proofs.YtkikfkhonjobcaaDoorW.PrintLast Go.Proofs.YtkikfkhonjobcaaDoor.ExtE Go.Proofs.YtkikfkhonjobcaaDoor.NumText
set_option linter.unusedVariables false
namespace B
theorem lit_toList (l : List UInt8) : (⟨l.toArray⟩ : ByteArray).toList = l := ByteArray.toList_mk l
theorem do_div (k : Nat) (a b : Int) : num_Do.f (k + 1) (⟨#[100, 105, 118]⟩ : ByteArray) a b = some (if b = 0 then 0 else wrap64 (Int.tdiv a b), if b = 0 then -2 else 0, true) := by
  unfold num_Do.f
  have e : (⟨#[100, 105, 118]⟩ : ByteArray).toList = [100, 105, 118] := lit_toList [100, 105, 118]
  rw [e, if_neg (by decide), if_neg (by decide), if_neg (by decide), if_neg (by decide), if_neg (by decide), if_pos rfl]
  simp only [num_Do.j0]
  unfold num_divide.f Ext.num_divide.f
  rw [e]
  by_cases h : b = 0 <;> simp [h]
theorem first_ok (k : Nat) : gristmilllaw2_first.f (k + 1) = some true := by
  unfold gristmilllaw2_first.f
  rw [do_div, Option.bind_some]
  simp only [if_true]
  rw [text_at (-5) (by decide) (by decide), Option.bind_some, lit_toList]
  have e5 : Lib.itoa (-5) = [45, 53] := by
    simp [Lib.itoa, Lib.decDigits]
  rw [e5]
  simp only [gristmilllaw2_first.j0]
  rfl
theorem size_mk (l : List UInt8) : (⟨l.toArray⟩ : ByteArray).size = l.length := by
  show l.toArray.size = _
  rw [List.size_toArray]
theorem data_mk (l : List UInt8) : (⟨l.toArray⟩ : ByteArray).data.toList = l := by simp
theorem data_app (l m : List UInt8) : ((⟨l.toArray⟩ : ByteArray) ++ (⟨m.toArray⟩ : ByteArray)).data.toList = l ++ m := by simp [ByteArray.data_append]
/-- A 0 ahead of a numeral is none. -/
theorem zero_ahead (a : Int) (v : Int) : Lib.itoa v ≠ 48 :: Lib.itoa a := by
  unfold Lib.itoa
  intro e
  split at e
  · have e1 : (45 : UInt8) = 48 := (List.cons.inj e).1
    exact absurd e1 (by decide)
  · by_cases hv : 1 ≤ v.toNat
    · exact dec_head v.toNat hv _ e
    · have hv0 : v.toNat = 0 := by omega
      rw [hv0, Lib.decDigits_one (by omega)] at e
      have e2 := (List.cons.inj e).2
      split at e2
      · cases e2
      · exact dec_ne _ e2.symm
/-- A sign twice is none. -/
theorem signs_ahead (a : Int) (v : Int) : Lib.itoa v ≠ 45 :: 45 :: Lib.itoa a := by
  intro e
  have key : ∀ u r, Lib.decDigits u ≠ 45 :: r := by
    intro u r e
    have := dig_dec u 45 (by rw [e]; exact List.mem_cons_self ..)
    exact absurd this.1 (by decide)
  rw [Lib.itoa] at e
  split at e
  · exact key _ _ (List.cons.inj e).2
  · exact key _ _ e
theorem max_text : Lib.itoa 9223372036854775807 = [57, 50, 50, 51, 51, 55, 50, 48, 51, 54, 56, 53, 52, 55, 55, 53, 56, 48, 55] := by
  simp [Lib.itoa, Lib.decDigits]
theorem over_text : Lib.itoa 9223372036854775808 = [57, 50, 50, 51, 51, 55, 50, 48, 51, 54, 56, 53, 52, 55, 55, 53, 56, 48, 56] := by
  simp [Lib.itoa, Lib.decDigits]
theorem min_text : Lib.itoa (-9223372036854775808) = [45, 57, 50, 50, 51, 51, 55, 50, 48, 51, 54, 56, 53, 52, 55, 55, 53, 56, 48, 56] := by
  simp [Lib.itoa, Lib.decDigits]
theorem ten_text : Lib.itoa 92233720368547758070 = [57, 50, 50, 51, 51, 55, 50, 48, 51, 54, 56, 53, 52, 55, 55, 53, 56, 48, 55, 48] := by
  simp [Lib.itoa, Lib.decDigits]
end B
theorem NumBack : gristmilllaw2_NumBack.Pure := by
  intro a b ha hb
  obtain ⟨a0, a1⟩ := bounds_i64 ha
  obtain ⟨b0, b1⟩ := bounds_i64 hb
  have la := Lib.itoa_length_le a a0 a1
  have e1 := text_at a a0 a1
  have p1 : num_Parse.f (⟨(Lib.itoa a).toArray⟩ : ByteArray) = some (a, none) := parse_at _ a a0 a1 (B.data_mk _)
  have p2 : num_Parse.f ((⟨#[48]⟩ : ByteArray) ++ (⟨(Lib.itoa a).toArray⟩ : ByteArray)) = some (0, some 118) := by
    refine parse_none _ ?_ fun v _ _ => ?_
    · rw [ByteArray.size_append, B.size_mk (Lib.itoa a), B.size_mk [48]]
      simp only [List.length_cons, List.length_nil]
      omega
    · rw [B.data_app [48]]
      exact B.zero_ahead a v
  have p3 : num_Parse.f ((⟨#[45, 45]⟩ : ByteArray) ++ (⟨(Lib.itoa a).toArray⟩ : ByteArray)) = some (0, some 118) := by
    refine parse_none _ ?_ fun v _ _ => ?_
    · rw [ByteArray.size_append, B.size_mk (Lib.itoa a), B.size_mk [45, 45]]
      simp only [List.length_cons, List.length_nil]
      omega
    · rw [B.data_app [45, 45]]
      exact B.signs_ahead a v
  have e2 := text_at 9223372036854775807 (by decide) (by decide)
  have p4 : num_Parse.f ((⟨(Lib.itoa 9223372036854775807).toArray⟩ : ByteArray) ++ (⟨#[48]⟩ : ByteArray)) = some (0, some 118) := by
    refine parse_none _ ?_ fun v h0 h1 => ?_
    · rw [ByteArray.size_append, B.size_mk, B.size_mk [48], B.max_text]
      simp only [List.length_cons, List.length_nil]
      omega
    · rw [B.data_app _ [48], B.max_text]
      intro e
      have := itoa_inj (e.trans B.ten_text.symm)
      omega
  have p5 : num_Parse.f (⟨#[57, 50, 50, 51, 51, 55, 50, 48, 51, 54, 56, 53, 52, 55, 55, 53, 56, 48, 56]⟩ : ByteArray) = some (0, some 118) := by
    refine parse_none _ (by decide) fun v h0 h1 => ?_
    intro e
    have := itoa_inj (e.trans B.over_text.symm)
    omega
  have p6 : num_Parse.f (⟨#[45, 57, 50, 50, 51, 51, 55, 50, 48, 51, 54, 56, 53, 52, 55, 55, 53, 56, 48, 56]⟩ : ByteArray) = some (-9223372036854775808, none) :=
    parse_at _ _ (by decide) (by decide) B.min_text.symm
  have e3 := text_at b b0 b1
  have sz : (⟨(Lib.itoa a).toArray⟩ : ByteArray).size ≤ 21 := by rw [B.size_mk]; exact la
  have sm : (⟨(Lib.itoa 9223372036854775807).toArray⟩ : ByteArray).size = 19 := by rw [B.size_mk, B.max_text]; rfl
  refine ⟨2, ?_⟩
  unfold gristmilllaw2_NumBack.f
  rw [B.first_ok 1, Option.bind_some, if_pos rfl]
  rw [e1, Option.bind_some, p1, Option.bind_some, Option.bind_some, if_pos (by omega), p2, Option.bind_some, Option.bind_some, if_pos (by omega), p3, Option.bind_some, e2, Option.bind_some, if_pos (by omega), p4, Option.bind_some, p5, Option.bind_some, p6, Option.bind_some]
  rw [if_pos (by rfl), if_pos (by rfl), if_neg (by simp), if_neg (by simp), if_neg (by simp), if_neg (by simp), if_pos (by rfl), if_pos (by rfl), Option.bind_some, e3, Option.bind_some]
  show some _ = some true
  rw [B.lit_toList, B.lit_toList]
  by_cases hab : a = b
  · subst hab; simp
  · have hn : ¬ Lib.itoa a = Lib.itoa b := fun h => hab (itoa_inj h)
    have h1 : (Lib.itoa a == Lib.itoa b) = false := by simpa using hn
    have h2 : (a == b) = false := by simpa using hab
    rw [h1, h2]
    rfl
end Go.Proofs.YtkikfkhonjobcaaDoor.Pure
