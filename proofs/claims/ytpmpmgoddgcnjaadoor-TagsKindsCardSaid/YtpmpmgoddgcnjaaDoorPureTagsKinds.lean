/- A tag that may be is of just one kind; one that may not be is so for one of the chapter's reasons: the pure law of TagsKinds, for every kind, number and name (the statement's own guard: at most 60 bytes). -/
import Derived.Test.YtpmpmgoddgcnjaaDoorPTagsx6
import Derived.Test.YtpmpmgoddgcnjaaDoorTagCmp
namespace Go.Proofs.YtpmpmgoddgcnjaaDoor.Pure
open Go.RowKit Go.Proofs.YtpmpmgoddgcnjaaDoor.PTags Go.Proofs.YtpmpmgoddgcnjaaDoor.TagSpec Go.Proofs.YtpmpmgoddgcnjaaDoorW.PrintWords Go.Proofs.YtpmpmgoddgcnjaaDoorW.PrintLast
set_option linter.unusedVariables false
set_option linter.unusedSimpArgs false

theorem j6_ok (k : Nat) (b : Bool) : gristmilllaw14_TagsKinds.j6 (k + 1) b = some b := by simp only [gristmilllaw14_TagsKinds.j6]
theorem j2_ok (k : Nat) (b : Bool) : gristmilllaw14_TagsKinds.j2 (k + 2) true b = some b := by
  simp only [gristmilllaw14_TagsKinds.j2, gristmilllaw14_TagsKinds.j3, if_true]

/-- Of a tag that may be. -/
theorem good_ev (kind : Int) (s : ByteArray) (n : Int) (hs : s.size ≤ 60) (hv : validB kind s n = true) :
    Ev (fun k => gristmilllaw14_TagsKinds.j5 k true (decide (kind = 2 ∨ kind = 4)) (decide (kind = 5 ∨ kind = 6)) kind s n) true := by
  have hn : 0 ≤ n ∧ n ≤ 60 := by
    unfold validB at hv
    simp only [Bool.and_eq_true, decide_eq_true_eq] at hv
    exact hv.1
  have hk : 1 ≤ kind ∧ kind ≤ 6 := by
    unfold validB at hv
    simp only [Bool.and_eq_true, Bool.or_eq_true, decide_eq_true_eq] at hv
    omega
  obtain ⟨K, hK⟩ := Has_ev [(⟨kind, s, n⟩ : S23)] ⟨kind, s, n⟩ (by simp)
  rw [show ([(⟨kind, s, n⟩ : S23)].any (sameT ⟨kind, s, n⟩)) = true by simp [sameT_self]] at hK
  refine ⟨K + 10, fun k hk' => ?_⟩
  obtain ⟨k, rfl⟩ : ∃ m, k = m + 5 := ⟨k - 5, by omega⟩
  have hH : tag_Has.f (k + 4) [(⟨kind, s, n⟩ : S23)] kind s n = some true := hK (k + 4) (by omega)
  have hL := less_eq k (⟨kind, s, n⟩ : S23) ⟨kind, s, n⟩
  rw [cmpT_self] at hL
  simp only [gristmilllaw14_TagsKinds.j5]
  rw [waits_eq, bare_eq, text_eq kind s n (by omega) hn.1 (by omega), hH, hL]
  have ht := text_size kind s n hk.1 hk.2 hn.1 (by omega)
  simp only [Option.bind_some, BEq.rfl, if_true]
  rw [if_pos (by omega), show (!decide ((0 : Int) < 0)) = true from rfl, j6_ok]

/-- Of a tag that may not be. -/
theorem bad_ok (k : Nat) (kind : Int) (s : ByteArray) (n : Int) (hv : validB kind s n = false) :
    gristmilllaw14_TagsKinds.j1 (k + 3) kind n s true (decide (1 ≤ kind ∧ kind ≤ 3)) (upB s) = some true := by
  simp only [gristmilllaw14_TagsKinds.j1]
  by_cases h1 : kind < 1
  · rw [if_pos h1, j2_ok]
  rw [if_neg h1]
  by_cases h2 : kind > 6
  · rw [if_pos h2, j2_ok]
  rw [if_neg h2]
  by_cases h3 : n < 0
  · rw [if_pos h3, j2_ok]
  rw [if_neg h3]
  by_cases h4 : n > 60
  · rw [if_pos h4, j2_ok]
  rw [if_neg h4]
  have hn : decide (0 ≤ n ∧ n ≤ 60) = true := by simp; omega
  unfold validB at hv
  rw [hn, Bool.true_and] at hv
  by_cases h5 : (decide (1 ≤ kind ∧ kind ≤ 3) == s.toList.isEmpty) = true
  · rw [if_pos h5, j2_ok]
  rw [if_neg h5]
  obtain rfl | rfl | rfl | rfl | rfl | rfl : kind = 1 ∨ kind = 2 ∨ kind = 3 ∨ kind = 4 ∨ kind = 5 ∨ kind = 6 := by omega
  · have hu : upB s = false := by simpa using hv
    rw [hu]
    simp [j2_ok]
  · exfalso
    cases hs : s.toList <;> simp [hs] at h5 hv
  · have h0 : n = 0 := by
      cases hs : s.toList <;> simp [hs] at h5 hv
      omega
    simp [h0, j2_ok]
  · have h0 : n = 0 := by
      cases hs : s.toList <;> simp [hs] at h5 hv
      omega
    simp [h0, j2_ok]
  · have h0 : n ≠ 0 := by
      cases hs : s.toList <;> simp [hs] at h5 hv
      exact hv
    simp [h0, j2_ok]
  · have h0 : n ≠ 0 := by
      cases hs : s.toList <;> simp [hs] at h5 hv
      exact hv
    simp [h0, j2_ok]

theorem j0_ok (k : Nat) (kind : Int) (s : ByteArray) (n : Int) (b b' : Bool) : gristmilllaw14_TagsKinds.j0 (k + 1) kind n s b b' = gristmilllaw14_TagsKinds.j1 k kind n s b b' (upB s) := by
  simp only [gristmilllaw14_TagsKinds.j0]
  unfold upB
  by_cases h : s.toList = []
  · rw [if_pos h, if_pos h]
  · have := size_pos h
    rw [if_neg h, if_neg h, if_pos (by omega)]
    by_cases h1 : bt s 0 ≥ 65
    · rw [if_pos h1]
      have e : decide (bt s 0 ≤ 90) = decide (65 ≤ bt s 0 ∧ bt s 0 ≤ 90) := by
        by_cases h2 : bt s 0 ≤ 90 <;> simp [h2]
        omega
      rw [e]
    · rw [if_neg h1]
      have e : decide (65 ≤ bt s 0 ∧ bt s 0 ≤ 90) = false := by simp; omega
      rw [e]
theorem TagsKinds : gristmilllaw14_TagsKinds.Pure := by
  intro kind n s _ _ _
  by_cases hsz : (s.size : Int) > 60
  · refine ⟨0, ?_⟩
    unfold gristmilllaw14_TagsKinds.f
    rw [first_ok, Option.bind_some, if_pos rfl, if_pos hsz]
  · cases hv : validB kind s n with
    | true =>
      obtain ⟨K, hK⟩ := good_ev kind s n (by omega) hv
      refine ⟨K + 4, ?_⟩
      unfold gristmilllaw14_TagsKinds.f
      rw [first_ok, Option.bind_some, if_pos rfl, if_neg hsz, valid_eq (K + 1), Option.bind_some, hv, if_pos rfl]
      have e4 : (if kind = 2 then gristmilllaw14_TagsKinds.j4 (K + 4) kind true true kind s n else gristmilllaw14_TagsKinds.j4 (K + 4) kind true (kind == 4) kind s n) = gristmilllaw14_TagsKinds.j4 (K + 4) kind true (decide (kind = 2 ∨ kind = 4)) kind s n := by
        by_cases h2 : kind = 2
        · simp [h2]
        · rw [if_neg h2]
          by_cases h4 : kind = 4
          · simp [h4]
          · rw [beq_eq_false_iff_ne.mpr h4, decide_eq_false (by omega)]
      rw [e4]
      have e5 : gristmilllaw14_TagsKinds.j4 (K + 4) kind true (decide (kind = 2 ∨ kind = 4)) kind s n = gristmilllaw14_TagsKinds.j5 (K + 3) true (decide (kind = 2 ∨ kind = 4)) (decide (kind = 5 ∨ kind = 6)) kind s n := by
        simp only [gristmilllaw14_TagsKinds.j4]
        by_cases h5 : kind = 5
        · simp [h5]
        · rw [if_neg h5]
          by_cases h6 : kind = 6
          · simp [h6]
          · rw [beq_eq_false_iff_ne.mpr h6, decide_eq_false (p := kind = 5 ∨ kind = 6) (by omega)]
      rw [e5]
      exact hK (K + 3) (by omega)
    | false =>
      refine ⟨4, ?_⟩
      unfold gristmilllaw14_TagsKinds.f
      rw [first_ok, Option.bind_some, if_pos rfl, if_neg hsz, valid_eq 1, Option.bind_some, hv, if_neg (by simp)]
      have e : (if kind ≥ 1 then gristmilllaw14_TagsKinds.j0 4 kind n s true (decide (kind ≤ 3)) else gristmilllaw14_TagsKinds.j0 4 kind n s true false) = gristmilllaw14_TagsKinds.j0 4 kind n s true (decide (1 ≤ kind ∧ kind ≤ 3)) := by
        by_cases h1 : kind ≥ 1
        · rw [if_pos h1]
          have : decide (kind ≤ 3) = decide (1 ≤ kind ∧ kind ≤ 3) := by
            by_cases h2 : kind ≤ 3 <;> simp [h2]
            omega
          rw [this]
        · rw [if_neg h1]
          have : decide (1 ≤ kind ∧ kind ≤ 3) = false := by simp; omega
          rw [this]
      rw [e, j0_ok, bad_ok 0 kind s n hv]
end Go.Proofs.YtpmpmgoddgcnjaaDoor.Pure
