/- Plain facts on tags: what the printed functions of package tag come to. No condition but sizes. -/
import Derived.Test.YtpmpmgoddgcnjaaDoorPTagsx3
import Derived.Test.YtpmpmgoddgcnjaaDoorPTagsx4
import Derived.Test.YtpmpmgoddgcnjaaDoorPTagsx5
import Derived.Laws.Strings
import Derived.OpenShut
namespace Go.Proofs.YtpmpmgoddgcnjaaDoor.TagSpec
open Go.RowKit Go.Proofs.YtpmpmgoddgcnjaaDoor.PTags Go.Proofs.YtpmpmgoddgcnjaaDoor.Ext Go.Proofs.YtpmpmgoddgcnjaaDoorW.PrintWords Go.Proofs.YtpmpmgoddgcnjaaDoorW.PrintLast
set_option linter.unusedVariables false
set_option linter.unusedSimpArgs false

theorem lit_toList (l : List UInt8) : (⟨l.toArray⟩ : ByteArray).toList = l := ByteArray.toList_mk l
theorem size_pos {s : ByteArray} (h : ¬ s.toList = []) : 0 < s.size := by
  rw [ByteArray.toList_eq] at h
  have hl := data_length s
  rcases Nat.eq_zero_or_pos s.size with e | e
  · exact absurd (List.eq_nil_of_length_eq_zero (by omega)) h
  · exact e
def upB (s : ByteArray) : Bool := if s.toList = [] then false else decide (65 ≤ bt s 0 ∧ bt s 0 ≤ 90)
theorem upper_eq (k : Nat) (s : ByteArray) : tag_upper.f (k + 1) s = some (upB s) := by
  unfold tag_upper.f upB
  by_cases h : s.toList = []
  · rw [if_pos h, if_pos h]; simp only [tag_upper.j0]
  · have := size_pos h
    rw [if_neg h, if_neg h, if_pos (by omega)]
    simp only [tag_upper.j0]
    by_cases h1 : bt s 0 ≥ 65
    · rw [if_pos h1]; simp; omega
    · rw [if_neg h1]; simp; omega
def validB (kind : Int) (s : ByteArray) (n : Int) : Bool :=
  decide (0 ≤ n ∧ n ≤ 60) && ((decide (kind = 1) && upB s) || (decide (kind = 2) && decide (s.toList ≠ [])) || (decide (kind = 3) && decide (s.toList ≠ []) && decide (0 < n)) || (decide (kind = 4) && decide (s.toList = []) && decide (0 < n)) || (decide (kind = 5 ∨ kind = 6) && decide (s.toList = []) && decide (n = 0)))
theorem valid_eq (k : Nat) (kind : Int) (s : ByteArray) (n : Int) : tag_Valid.f (k + 3) kind s n = some (validB kind s n) := by
  unfold tag_Valid.f validB
  by_cases h0 : n < 0
  · rw [if_pos h0]
    simp only [tag_Valid.j0]
    simp
    omega
  · rw [if_neg h0]
    simp only [tag_Valid.j0]
    by_cases h1 : n > 60
    · simp [h1]
      omega
    · have hn : decide (0 ≤ n ∧ n ≤ 60) = true := by simp; omega
      rw [if_neg (by simpa using h1), hn]
      by_cases k1 : kind = 1
      · subst k1
        rw [if_pos rfl, upper_eq]
        simp
      · rw [if_neg k1]
        by_cases k2 : kind = 2
        · subst k2
          rw [if_pos rfl]
          by_cases hs : s.toList = [] <;> simp [hs]
        · rw [if_neg k2]
          by_cases k3 : kind = 3
          · subst k3
            rw [if_pos rfl]
            simp only [tag_Valid.j1]
            by_cases hs : s.toList = [] <;> simp [hs]
          · rw [if_neg k3]
            by_cases k4 : kind = 4
            · subst k4
              rw [if_pos rfl]
              simp only [tag_Valid.j2]
              by_cases hs : s.toList = [] <;> simp [hs]
            · rw [if_neg k4]
              by_cases k5 : kind = 5
              · subst k5
                rw [if_pos rfl]
                simp only [tag_Valid.j3, tag_Valid.j4]
                by_cases hs : s.toList = [] <;> by_cases hn0 : n = 0 <;> simp [hs, hn0]
              · rw [if_neg k5]
                simp only [tag_Valid.j3, tag_Valid.j4]
                by_cases k6 : kind = 6
                · subst k6
                  by_cases hs : s.toList = [] <;> by_cases hn0 : n = 0 <;> simp [hs, hn0]
                · simp [k1, k2, k3, k4, k5, k6]

theorem decDigits_ne (n : Nat) : Lib.decDigits n ≠ [] := by
  unfold Lib.decDigits
  split <;> simp
theorem itoa_eq (n : Int) (h0 : 0 ≤ n) (h1 : n < 100) : strconv_Itoa.f n = some (⟨(Lib.decDigits n.toNat).toArray⟩ : ByteArray) := by
  unfold strconv_Itoa.f
  rw [if_pos h0, if_pos h1]
theorem dec_size (n : Nat) : (⟨(Lib.decDigits n).toArray⟩ : ByteArray).size = (Lib.decDigits n).length := rfl
theorem dec_len (n : Nat) (h : n < 100) : 0 < (Lib.decDigits n).length ∧ (Lib.decDigits n).length ≤ 2 := by
  constructor
  · exact List.length_pos_iff.mpr (decDigits_ne n)
  · unfold Lib.decDigits
    split
    · simp
    · unfold Lib.decDigits
      rw [dif_pos (by omega)]
      simp
def letterB (kind : Int) : ByteArray := if kind = 1 then ⟨#[67]⟩ else if kind = 2 then ⟨#[70]⟩ else if kind = 3 then ⟨#[80]⟩ else if kind = 4 then ⟨#[65]⟩ else if kind = 5 then ⟨#[73]⟩ else if kind = 6 then ⟨#[68]⟩ else ⟨#[]⟩
theorem letter_eq (kind : Int) : tag_letter.f kind = some (letterB kind) := by
  unfold tag_letter.f letterB
  repeat' split
  all_goals rfl
theorem letter_size (kind : Int) : (letterB kind).size ≤ 1 ∧ (1 ≤ kind → kind ≤ 6 → (letterB kind).size = 1) := by
  unfold letterB
  by_cases h1 : kind = 1
  · rw [if_pos h1]; exact ⟨by decide, fun _ _ => rfl⟩
  · rw [if_neg h1]
    by_cases h2 : kind = 2
    · rw [if_pos h2]; exact ⟨by decide, fun _ _ => rfl⟩
    · rw [if_neg h2]
      by_cases h3 : kind = 3
      · rw [if_pos h3]; exact ⟨by decide, fun _ _ => rfl⟩
      · rw [if_neg h3]
        by_cases h4 : kind = 4
        · rw [if_pos h4]; exact ⟨by decide, fun _ _ => rfl⟩
        · rw [if_neg h4]
          by_cases h5 : kind = 5
          · rw [if_pos h5]; exact ⟨by decide, fun _ _ => rfl⟩
          · rw [if_neg h5]
            by_cases h6 : kind = 6
            · rw [if_pos h6]; exact ⟨by decide, fun _ _ => rfl⟩
            · rw [if_neg h6]; exact ⟨by decide, fun _ _ => by omega⟩
def textB (kind : Int) (s : ByteArray) (n : Int) : ByteArray := ((letterB kind ++ s) ++ (⟨#[47]⟩ : ByteArray)) ++ (⟨(Lib.decDigits n.toNat).toArray⟩ : ByteArray)
theorem text_eq (kind : Int) (s : ByteArray) (n : Int) (hs : s.size ≤ 140737488351232) (h0 : 0 ≤ n) (h1 : n < 100) : tag_Text.f kind s n = some (textB kind s n) := by
  unfold tag_Text.f textB
  have a := (letter_size kind).1
  have b := (dec_len n.toNat (by omega)).2
  have c : (⟨#[47]⟩ : ByteArray).size = 1 := rfl
  rw [letter_eq, Option.bind_some, if_pos (by omega), if_pos (by simp only [ByteArray.size_append]; omega), itoa_eq n h0 h1, Option.bind_some, if_pos (by simp only [ByteArray.size_append, dec_size]; omega)]
theorem text_size (kind : Int) (s : ByteArray) (n : Int) (h : 1 ≤ kind) (h' : kind ≤ 6) (h1 : 0 ≤ n) (h2 : n < 100) : 3 ≤ (textB kind s n).size := by
  unfold textB
  have a := (letter_size kind).2 h h'
  have b := (dec_len n.toNat (by omega)).1
  have c : (⟨#[47]⟩ : ByteArray).size = 1 := rfl
  simp only [ByteArray.size_append, dec_size]
  omega
theorem first_ok : gristmilllaw14_first.f = some true := by
  unfold gristmilllaw14_first.f
  rw [text_eq 4 ⟨#[]⟩ 2 (by decide) (by decide) (by decide), Option.bind_some]
  have e : (textB 4 ⟨#[]⟩ 2).toList = [65, 47, 50] := by
    rw [ByteArray.toList_eq]
    unfold textB
    simp [ByteArray.data_append, letterB, Lib.decDigits]
  rw [e]
  rfl
theorem waits_eq (k : Nat) (kind : Int) (s : ByteArray) (n : Int) : tag_Waits.f (k + 1) kind s n = some (decide (kind = 2 ∨ kind = 4)) := by
  unfold tag_Waits.f
  simp only [tag_Waits.j0]
  by_cases h : kind = 2 <;> by_cases h' : kind = 4 <;> simp [h, h']
theorem bare_eq (k : Nat) (kind : Int) (s : ByteArray) (n : Int) : tag_Bare.f (k + 1) kind s n = some (decide (kind = 5 ∨ kind = 6)) := by
  unfold tag_Bare.f
  simp only [tag_Bare.j0]
  by_cases h : kind = 5 <;> by_cases h' : kind = 6 <;> simp [h, h']
end Go.Proofs.YtpmpmgoddgcnjaaDoor.TagSpec
