/- Which tags may be, and that the texts of unlike ones part: plain facts. No condition but sizes. -/
import Derived.Test.YtpmpmgoddgcnjaaDoorTagEv
import Derived.Lib.ItoaNum
namespace Go.Proofs.YtpmpmgoddgcnjaaDoor.TagEv
open Go.RowKit Go.Proofs.YtpmpmgoddgcnjaaDoor.PTagsB Go.Proofs.YtpmpmgoddgcnjaaDoor.TagOrd Go.Proofs.YtpmpmgoddgcnjaaDoor.TagSet Go.Proofs.YtpmpmgoddgcnjaaDoor.ExtT Go.Proofs.YtpmpmgoddgcnjaaDoorW.PrintWords Go.Proofs.YtpmpmgoddgcnjaaDoorW.PrintLast
open Go.Proofs.YtpmpmgoddgcnjaaDoor.Compact (toList_inj)
set_option linter.unusedVariables false
set_option linter.unusedSimpArgs false
theorem size_pos {s : ByteArray} (h : ¬ s.toList = []) : 0 < s.size := by
  rw [ByteArray.toList_eq] at h
  have hl := data_length s
  rcases Nat.eq_zero_or_pos s.size with e | e
  · exact absurd (List.eq_nil_of_length_eq_zero (by omega)) h
  · exact e
def upB (s : ByteArray) : Bool := if s.toList = [] then false else decide (65 ≤ bt s 0 ∧ bt s 0 ≤ 90)
theorem upper_eq (s : ByteArray) : tag_upper.f s = some (upB s) := by
  unfold tag_upper.f upB
  by_cases h : s.toList = []
  · rw [if_pos h, if_pos h]
  · have := size_pos h
    rw [if_neg h, if_neg h, if_pos (by omega)]
    by_cases h1 : bt s 0 ≥ 65
    · rw [if_pos h1]; simp; omega
    · rw [if_neg h1]; simp; omega
def validB (t : S23) : Bool :=
  decide (0 ≤ t.f2 ∧ t.f2 ≤ 60) && ((decide (t.f0 = 1) && upB t.f1) || (decide (t.f0 = 2) && !t.f1.toList.isEmpty) || (decide (t.f0 = 3) && !t.f1.toList.isEmpty && decide (0 < t.f2)) || (decide (t.f0 = 4) && t.f1.toList.isEmpty && decide (0 < t.f2)) || (decide (t.f0 = 5 ∨ t.f0 = 6) && t.f1.toList.isEmpty && decide (t.f2 = 0)))
theorem valid_eq (k : Nat) (t : S23) : tag_Valid.f (k + 1) t.f0 t.f1 t.f2 = some (validB t) := by
  obtain ⟨kind, s, n⟩ := t
  unfold tag_Valid.f validB
  by_cases h0 : n < 0
  · rw [if_pos h0]
    simp only [tag_Valid.j0, if_true]
    rw [decide_eq_false (by omega)]; rfl
  · rw [if_neg h0]
    by_cases h1 : n > 60
    · simp only [tag_Valid.j0]
      rw [if_pos (by simpa using h1), decide_eq_false (p := 0 ≤ n ∧ n ≤ 60) (by omega)]; rfl
    · simp only [tag_Valid.j0]
      rw [if_neg (by simpa using h1), decide_eq_true (p := 0 ≤ n ∧ n ≤ 60) (by omega)]
      by_cases k1 : kind = 1
      · subst k1; rw [if_pos rfl, upper_eq]; simp
      · rw [if_neg k1]
        by_cases k2 : kind = 2
        · subst k2; rw [if_pos rfl]; simp
        · rw [if_neg k2]
          by_cases k3 : kind = 3
          · subst k3; rw [if_pos rfl]
            by_cases hs : s.toList = [] <;> simp [hs] <;> (first | rfl | (rw [decide_eq_decide]; omega) | (exact decide_eq_decide.2 (by omega)) | omega)
          · rw [if_neg k3]
            by_cases k4 : kind = 4
            · subst k4; rw [if_pos rfl]
              by_cases hs : s.toList = [] <;> simp [hs] <;> (first | rfl | (rw [decide_eq_decide]; omega) | (exact decide_eq_decide.2 (by omega)) | omega)
            · rw [if_neg k4]
              by_cases k5 : kind = 5
              · subst k5; rw [if_pos rfl]
                by_cases hs : s.toList = [] <;> simp [hs] <;> (first | rfl | (rw [decide_eq_decide]; omega) | (exact decide_eq_decide.2 (by omega)) | omega)
              · rw [if_neg k5]
                by_cases k6 : kind = 6
                · subst k6; rw [if_pos rfl]
                  by_cases hs : s.toList = [] <;> simp [hs] <;> (first | rfl | (rw [decide_eq_decide]; omega) | (exact decide_eq_decide.2 (by omega)) | omega)
                · rw [if_neg k6]; simp [k1, k2, k3, k4, k5, k6]
theorem validTag_eq (k : Nat) (t : S23) : gristmillref14_ValidTag.f (k + 1) t.f0 t.f1 t.f2 = some (validB t) := by
  obtain ⟨kind, s, n⟩ := t
  unfold gristmillref14_ValidTag.f validB
  by_cases h0 : n < 0
  · rw [if_pos h0]
    simp only [gristmillref14_ValidTag.j0, if_true]
    rw [decide_eq_false (by omega)]; rfl
  · rw [if_neg h0]
    by_cases h1 : n > 60
    · simp only [gristmillref14_ValidTag.j0]
      rw [if_pos (by simpa using h1), decide_eq_false (p := 0 ≤ n ∧ n ≤ 60) (by omega)]; rfl
    · simp only [gristmillref14_ValidTag.j0]
      rw [if_neg (by simpa using h1), decide_eq_true (p := 0 ≤ n ∧ n ≤ 60) (by omega)]
      by_cases k1 : kind = 1
      · subst k1; rw [if_pos rfl]
        have hu := upper_eq s
        unfold tag_upper.f at hu
        rw [hu]; simp
      · rw [if_neg k1]
        by_cases k2 : kind = 2
        · subst k2; rw [if_pos rfl]; simp
        · rw [if_neg k2]
          by_cases k3 : kind = 3
          · subst k3; rw [if_pos rfl]
            by_cases hs : s.toList = []
            · simp [hs]
            · have he : s.toList.isEmpty = false := by simpa using hs
              rw [if_neg hs, he]
              have hd : decide (n ≥ 1) = decide (0 < n) := decide_eq_decide.2 (by omega)
              simp [hd]
              try omega
          · rw [if_neg k3]
            by_cases k4 : kind = 4
            · subst k4; rw [if_pos rfl]
              by_cases hs : s.toList = [] <;> simp [hs] <;> (first | rfl | (rw [decide_eq_decide]; omega) | (exact decide_eq_decide.2 (by omega)) | omega)
            · rw [if_neg k4]
              by_cases k5 : kind = 5
              · subst k5; rw [if_pos rfl]
                by_cases hs : s.toList = [] <;> simp [hs] <;> (first | rfl | (rw [decide_eq_decide]; omega) | (exact decide_eq_decide.2 (by omega)) | omega)
              · rw [if_neg k5]
                by_cases k6 : kind = 6
                · subst k6; rw [if_pos rfl]
                  by_cases hs : s.toList = [] <;> simp [hs] <;> (first | rfl | (rw [decide_eq_decide]; omega) | (exact decide_eq_decide.2 (by omega)) | omega)
                · rw [if_neg k6]; simp [k1, k2, k3, k4, k5, k6]
theorem valid_facts {t : S23} (h : validB t = true) : (1 ≤ t.f0 ∧ t.f0 ≤ 6) ∧ 0 ≤ t.f2 ∧ t.f2 ≤ 60 := by
  unfold validB at h
  simp only [Bool.and_eq_true, Bool.or_eq_true, decide_eq_true_eq] at h
  omega
theorem waits_eq (t : S23) : tag_Waits.f t.f0 t.f1 t.f2 = some (decide (t.f0 = 2 ∨ t.f0 = 4)) := by
  unfold tag_Waits.f
  by_cases h : t.f0 = 2 <;> by_cases h' : t.f0 = 4 <;> simp [h, h']
theorem bare_eq (t : S23) : tag_Bare.f t.f0 t.f1 t.f2 = some (decide (t.f0 = 5 ∨ t.f0 = 6)) := by
  unfold tag_Bare.f
  by_cases h : t.f0 = 5 <;> by_cases h' : t.f0 = 6 <;> simp [h, h']
/-! ### Unlike texts -/
def lb (kind : Int) : UInt8 := if kind = 1 then 67 else if kind = 2 then 70 else if kind = 3 then 80 else if kind = 4 then 65 else if kind = 5 then 73 else 68
theorem letter_list (kind : Int) (h1 : 1 ≤ kind) (h6 : kind ≤ 6) : (letterB kind).toList = [lb kind] := by
  obtain rfl | rfl | rfl | rfl | rfl | rfl : kind = 1 ∨ kind = 2 ∨ kind = 3 ∨ kind = 4 ∨ kind = 5 ∨ kind = 6 := by omega
  all_goals exact ByteArray.toList_mk _
theorem lb_inj (a b : Int) (ha : 1 ≤ a) (ha6 : a ≤ 6) (hb : 1 ≤ b) (hb6 : b ≤ 6) (h : lb a = lb b) : a = b := by
  obtain rfl | rfl | rfl | rfl | rfl | rfl : a = 1 ∨ a = 2 ∨ a = 3 ∨ a = 4 ∨ a = 5 ∨ a = 6 := by omega
  all_goals (obtain rfl | rfl | rfl | rfl | rfl | rfl : b = 1 ∨ b = 2 ∨ b = 3 ∨ b = 4 ∨ b = 5 ∨ b = 6 := by omega)
  all_goals first | rfl | (exact absurd h (by decide))
theorem app_toList (a b : ByteArray) : (a ++ b).toList = a.toList ++ b.toList := by
  rw [ByteArray.toList_eq, ByteArray.toList_eq, ByteArray.toList_eq, ByteArray.data_append, Array.toList_append]
theorem text_list (t : S23) (h1 : 1 ≤ t.f0) (h6 : t.f0 ≤ 6) : (textB t).toList = lb t.f0 :: (t.f1.toList ++ (47 :: Lib.decDigits t.f2.toNat)) := by
  unfold textB
  rw [app_toList, app_toList, app_toList, letter_list _ h1 h6, lit_toList, show (⟨#[47]⟩ : ByteArray).toList = [47] from ByteArray.toList_mk [47]]
  simp
theorem u8 (i j : Nat) (hi : i < 100) (hj : j < 100) (h : UInt8.ofNat (48 + i) = UInt8.ofNat (48 + j)) : i = j := by
  have := congrArg UInt8.toNat h
  simp only [UInt8.toNat_ofNat'] at this
  omega
theorem dec_inj (i j : Nat) (hi : i < 100) (hj : j < 100) (h : Lib.decDigits i = Lib.decDigits j) : i = j := by
  by_cases a : i < 10
  · rw [Lib.decDigits_one a] at h
    by_cases b : j < 10
    · rw [Lib.decDigits_one b] at h
      exact u8 i j hi hj (List.cons.inj h).1
    · rw [Lib.decDigits_two b hj] at h
      exact absurd (congrArg List.length h) (by simp)
  · rw [Lib.decDigits_two a hi] at h
    by_cases b : j < 10
    · rw [Lib.decDigits_one b] at h
      exact absurd (congrArg List.length h) (by simp)
    · rw [Lib.decDigits_two b hj] at h
      have h1 := u8 (i / 10) (j / 10) (by omega) (by omega) (List.cons.inj h).1
      have h2 := u8 (i % 10) (j % 10) (by omega) (by omega) (List.cons.inj (List.cons.inj h).2).1
      omega
theorem text_apart (a b : S23) (ha : validB a = true) (hb : validB b = true) (h : (textB a).toList = (textB b).toList) : a.f0 = b.f0 ∧ (a.f1.toList = b.f1.toList → a = b) := by
  obtain ⟨⟨a1, a2⟩, a3, a4⟩ := valid_facts ha
  obtain ⟨⟨b1, b2⟩, b3, b4⟩ := valid_facts hb
  rw [text_list a a1 a2, text_list b b1 b2] at h
  obtain ⟨h1, h2⟩ := List.cons.inj h
  have e0 := lb_inj _ _ a1 a2 b1 b2 h1
  refine ⟨e0, fun e1 => (same_iff a b).1 ⟨e0, e1, ?_⟩⟩
  rw [e1] at h2
  have h3 := (List.cons.inj (List.append_cancel_left h2)).2
  have := dec_inj a.f2.toNat b.f2.toNat (by omega) (by omega) h3
  omega
end Go.Proofs.YtpmpmgoddgcnjaaDoor.TagEv
