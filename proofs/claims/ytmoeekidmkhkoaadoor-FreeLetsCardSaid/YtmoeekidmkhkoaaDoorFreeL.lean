/- The printed functions answer at every argument of a size that memory has room for. No program in sight. -/
import Derived.Test.YtmoeekidmkhkoaaDoorPFreeAx4
import Derived.Test.YtmoeekidmkhkoaaDoorPFreeAx5
import Derived.Test.YtmoeekidmkhkoaaDoorFreeB
namespace Go.Proofs.YtmoeekidmkhkoaaDoor.FreeA
open Go.RowKit Go.Proofs.YtmoeekidmkhkoaaDoorW.PrintWords Go.Proofs.YtmoeekidmkhkoaaDoorW.PrintLast Go.Proofs.YtmoeekidmkhkoaaDoorW.PrintMore Go.Proofs.YtmoeekidmkhkoaaDoor.PFreeA
set_option linter.unusedVariables false
set_option linter.unusedSimpArgs false
theorem wr1 (i : Nat) (h : i ≤ 1000000000000000) : wrap64 ((i : Int) + 1) = ((i + 1 : Nat) : Int) := by unfold wrap64; omega
theorem tail_tot (s : ByteArray) (hs : s.size ≤ 140737488355328) : ∀ (k i : Nat), 0 < k → s.size < k + i → ∃ r, gristmillref1_tail.l0 k s (i : Int) = some r
  | 0, i, h0, h => by omega
  | k + 1, i, h0, h => by
    unfold gristmillref1_tail.l0
    by_cases hi : (i : Int) < (s.size : Int)
    · obtain ⟨r, hr⟩ := tail_tot s hs k (i + 1) (by omega) (by omega)
      rw [wr1 i (by omega), if_pos hi, if_pos (by omega), hr]
      repeat' split
      all_goals exact ⟨_, rfl⟩
    · rw [if_neg hi]
      exact ⟨_, rfl⟩
theorem tailf_tot (s : ByteArray) (hs : s.size ≤ 140737488355328) (k : Nat) (hk : s.size < k) : ∃ r, gristmillref1_tail.f k s = some r := tail_tot s hs k 1 (by omega) (by omega)
theorem place_tot (l : List ByteArray) (s : ByteArray) (hl : l.length ≤ 1000000000000) : ∀ (k i : Nat), 0 < k → l.length < k + i → ∃ r, gristmillref_Place.l0 k l s (i : Int) = some r
  | 0, i, h0, h => by omega
  | k + 1, i, h0, h => by
    unfold gristmillref_Place.l0
    by_cases hi : (i : Int) < (l.length : Int)
    · obtain ⟨r, hr⟩ := place_tot l s hl k (i + 1) (by omega) (by omega)
      rw [wr1 i (by omega), if_pos hi, if_pos (by omega), hr]
      split
      all_goals exact ⟨_, rfl⟩
    · rw [if_neg hi]
      exact ⟨_, rfl⟩
theorem has_tot (l : List ByteArray) (s : ByteArray) (hl : l.length ≤ 1000000000000) (k : Nat) (hk : l.length < k) : ∃ r, gristmillref_Has.f k l s = some r := by
  obtain ⟨r, hr⟩ := place_tot l s hl k 0 (by omega) (by omega)
  unfold gristmillref_Has.f gristmillref_Place.f
  rw [show (0 : Int) = ((0 : Nat) : Int) from rfl, hr]
  exact ⟨_, rfl⟩
theorem bind_ex {α β : Type} {o : Option α} {f : α → Option β} (h : ∃ q, o = some q) (hf : ∀ q, ∃ r, f q = some r) : ∃ r, o.bind f = some r := by
  obtain ⟨q, rfl⟩ := h
  exact hf q
theorem ite_ex {α : Type} {c : Prop} [Decidable c] {x y : Option α} (h1 : ∃ r, x = some r) (h2 : ∃ r, y = some r) : ∃ r, (if c then x else y) = some r := by
  split
  · exact h1
  · exact h2
theorem some_ex {α : Type} (a : α) : ∃ r, some a = some r := ⟨a, rfl⟩
theorem has_small (s : ByteArray) (k : Nat) (hk : 100 < k) (l : List ByteArray) (hl : l.length ≤ 100) : ∃ r, gristmillref_Has.f k l s = some r := has_tot l s (by omega) k (by omega)
theorem size_pos (s : ByteArray) (h0 : ¬ s.toList = ([] : List UInt8)) : 0 < (s.size : Int) := by
  have h1 : s.size ≠ 0 := fun e => h0 (by
    have h2 : s.data.toList = [] := List.eq_nil_of_length_eq_zero (by rw [Array.length_toList]; exact e)
    rw [ByteArray.toList_eq] <;> first | exact h2 | skip)
  omega
theorem name_tot (s : ByteArray) (hs : s.size ≤ 140737488355328) (k : Nat) (hk : s.size + 100 < k) : ∃ r, gristmillref1_Name.f k s = some r := by
  obtain ⟨r, hr⟩ := tailf_tot s hs k (by omega)
  unfold gristmillref1_Name.f
  by_cases h0 : s.toList = ([] : List UInt8)
  · rw [if_pos h0]; exact ⟨_, rfl⟩
  · have hp := size_pos s h0
    rw [if_neg h0, if_pos hp, hr]
    split
    · split
      · simp only [Option.bind_some]
        split
        · exact bind_ex (has_small s k (by omega) _ (by decide)) (fun q => ⟨_, rfl⟩)
        · exact ⟨_, rfl⟩
      · exact ⟨_, rfl⟩
    · exact ⟨_, rfl⟩
theorem upper_tot (s : ByteArray) (hs : s.size ≤ 140737488355328) (k : Nat) (hk : s.size + 100 < k) : ∃ r, gristmillref1_Upper.f k s = some r := by
  obtain ⟨r, hr⟩ := tailf_tot s hs k (by omega)
  unfold gristmillref1_Upper.f
  by_cases h0 : s.toList = ([] : List UInt8)
  · rw [if_pos h0]; exact ⟨_, rfl⟩
  · rw [if_neg h0, if_pos (size_pos s h0), hr]
    repeat' split
    all_goals exact ⟨_, rfl⟩
def small (l : List ByteArray) (m : Nat) : Prop := ∀ s ∈ l, s.size ≤ m
theorem names_tot (l : List ByteArray) (hl : l.length ≤ 1000000000000) (m : Nat) (hm : m ≤ 140737488355328) (hs : small l m) : ∀ (k i : Nat), 0 < k → l.length + m + 200 < k + i → ∃ r, gristmillref5_names.l0 k l (i : Int) = some r
  | 0, i, h0, h => by omega
  | k + 1, i, h0, h => by
    unfold gristmillref5_names.l0
    by_cases hi : (i : Int) < (l.length : Int)
    · obtain ⟨r, hr⟩ := names_tot l hl m hm hs k (i + 1) (by omega) (by omega)
      rw [wr1 i (by omega), if_pos hi, if_pos (by omega), hr]
      refine bind_ex (name_tot _ ?_ k ?_) (fun q => ?_)
      · have := hs (rdOf ByteArray.empty l (i : Int)) (by unfold rdOf; rw [Int.toNat_natCast, List.getD_eq_getElem?_getD, List.getElem?_eq_getElem (by omega)]; exact List.getElem_mem _)
        omega
      · have := hs (rdOf ByteArray.empty l (i : Int)) (by unfold rdOf; rw [Int.toNat_natCast, List.getD_eq_getElem?_getD, List.getElem?_eq_getElem (by omega)]; exact List.getElem_mem _)
        omega
      · split
        all_goals exact ⟨_, rfl⟩
    · rw [if_neg hi]
      split
      all_goals exact ⟨_, rfl⟩
theorem namesf_tot (l : List ByteArray) (hl : l.length ≤ 1000000000000) (m : Nat) (hm : m ≤ 140737488355328) (hs : small l m) (k : Nat) (hk : l.length + m + 200 < k) : ∃ r, gristmillref5_names.f k l = some r := names_tot l hl m hm hs k 0 (by omega) (by omega)
theorem arity_tot (s : ByteArray) (k : Nat) (hk : 200 < k) : ∃ r, gristmillref1_Arity.f k s = some r := by
  obtain ⟨k, rfl⟩ : ∃ j, k = j + 1 := ⟨k - 1, by omega⟩
  have h : ∀ b, ∃ r, gristmillref1_Arity.j0 (k + 1) s b = some r := by
    intro b
    rw [gristmillref1_Arity.j0]
    split
    · exact ⟨_, rfl⟩
    · unfold gristmillref1_Prims.f
      rw [Option.bind_some]
      refine bind_ex (has_small s k (by omega) _ (by decide)) (fun q => ?_)
      split
      all_goals exact ⟨_, rfl⟩
  unfold gristmillref1_Arity.f
  split
  all_goals exact h _
theorem takes_tot (a : S40) : ∃ r, gristmillref5_takes.f a.f0 a.f1 a.f2 a.f3 a.f4.f0 a.f4.f1 a.f4.f2 a.f4.f3 a.f4.f4 a.f4.f5 = some r := by
  unfold gristmillref5_takes.f
  repeat' split
  all_goals exact ⟨_, rfl⟩
theorem canon_tot (a : Int) : ∃ r, gristmillref1_Canon.f a = some r := by
  unfold gristmillref1_Canon.f
  repeat' split
  all_goals exact ⟨_, rfl⟩
theorem form_l0 (x0 : Int) (x1 : ByteArray) (x2 : Int) (x3 : List ByteArray) (x4 : List S33) (x5 : List S40) (hl : x5.length ≤ 1000000000000) : ∀ (k i : Nat), 0 < k → x5.length < k + i → ∃ r, gristmillref5_form.l0 k (x5.length : Int) (i : Int) x0 x1 x2 x3 x4 x5 = some r
  | 0, i, h0, h => by omega
  | k + 1, i, h0, h => by
    unfold gristmillref5_form.l0
    by_cases hi : (i : Int) < (x5.length : Int)
    · obtain ⟨r, hr⟩ := form_l0 x0 x1 x2 x3 x4 x5 hl k (i + 1) (by omega) (by omega)
      rw [wr1 i (by omega), if_pos hi, if_pos (by omega), if_pos hi, hr]
      refine bind_ex (takes_tot _) (fun q => ?_)
      split
      all_goals exact ⟨_, rfl⟩
    · rw [if_neg hi]
      exact ⟨_, rfl⟩
theorem form_tot (e : S33) (hl : e.f5.length ≤ 1000000000000) (k : Nat) (hk : e.f5.length + 300 < k) : ∃ r, gristmillref5_form.f k e.f0 e.f1 e.f2 e.f3 e.f4 e.f5 = some r := by
  obtain ⟨k, rfl⟩ : ∃ j, k = j + 2 := ⟨k - 2, by omega⟩
  have h1 : ∀ b, ∃ r, gristmillref5_form.j1 (k + 1) (e.f5.length : Int) b e.f0 e.f1 e.f2 e.f3 e.f4 e.f5 = some r := by
    intro b
    rw [gristmillref5_form.j1]
    split
    · exact ⟨_, rfl⟩
    · exact form_l0 _ _ _ _ _ _ hl k 0 (by omega) (by omega)
  have h0 : ∀ b, ∃ r, gristmillref5_form.j0 (k + 2) (e.f3.length : Int) (e.f4.length : Int) (e.f5.length : Int) e.f0 b e.f0 e.f1 e.f2 e.f3 e.f4 e.f5 = some r := by
    intro b
    rw [gristmillref5_form.j0]
    repeat' (with_reducible first | exact some_ex _ | exact h1 _ | exact bind_ex (canon_tot _) (fun q => some_ex _) | (refine bind_ex (arity_tot _ _ (by omega)) (fun q => ?_)) | refine ite_ex ?_ ?_)
  unfold gristmillref5_form.f
  split
  all_goals exact h0 _
theorem form_shape (e : S33) (k : Nat) (h : gristmillref5_form.f k e.f0 e.f1 e.f2 e.f3 e.f4 e.f5 = some true) (h3 : e.f3.length ≤ 1000000000000) (h4 : e.f4.length ≤ 1000000000000) (h5 : e.f5.length ≤ 1000000000000) :
    (e.f0 = 6 → e.f4.length = 1) ∧ (e.f0 = 7 → e.f4.length = e.f3.length + 1) ∧ (e.f0 = 8 → e.f4.length = 1) := by
  have hw : wrap64 ((e.f3.length : Int) + 1) = ((e.f3.length + 1 : Nat) : Int) := wr1 _ (by omega)
  have J : ∀ b, (e.f0 = 6 ∨ e.f0 = 7 ∨ e.f0 = 8 → b = false) → gristmillref5_form.j0 k (e.f3.length : Int) (e.f4.length : Int) (e.f5.length : Int) e.f0 b e.f0 e.f1 e.f2 e.f3 e.f4 e.f5 = some true → (e.f0 = 6 → e.f4.length = 1) ∧ (e.f0 = 7 → e.f4.length = e.f3.length + 1) ∧ (e.f0 = 8 → e.f4.length = 1) := by
    intro b hb hj
    cases k with
    | zero => simp [gristmillref5_form.j0] at hj
    | succ k =>
      have hj1 : ∀ z, gristmillref5_form.j1 k z true e.f0 e.f1 e.f2 e.f3 e.f4 e.f5 ≠ some true := by
        intro z
        cases k with
        | zero => simp [gristmillref5_form.j1]
        | succ k => simp [gristmillref5_form.j1]
      rw [gristmillref5_form.j0] at hj
      refine ⟨fun h6 => ?_, fun h7 => ?_, fun h8 => ?_⟩
      · rw [hb (.inl h6), h6] at hj
        simp only [Bool.false_eq_true, if_false, if_true, (by decide : ¬ (6 : Int) = 2), (by decide : ¬ (6 : Int) = 3), (by decide : ¬ (6 : Int) = 5)] at hj
        split at hj <;> try (cases hj)
        split at hj <;> try (cases hj)
        split at hj <;> try (cases hj)
        split at hj <;> try (cases hj)
        simp only [Option.some.injEq, beq_iff_eq] at hj
        omega
      · rw [hb (.inr (.inl h7)), h7] at hj
        simp only [Bool.false_eq_true, if_false, if_true, (by decide : ¬ (7 : Int) = 2), (by decide : ¬ (7 : Int) = 3), (by decide : ¬ (7 : Int) = 5), (by decide : ¬ (7 : Int) = 6), hw] at hj
        split at hj <;> try (cases hj)
        split at hj <;> try (cases hj)
        split at hj <;> try (cases hj)
        split at hj <;> try (cases hj)
        simp only [Option.some.injEq, beq_iff_eq] at hj
        omega
      · rw [hb (.inr (.inr h8)), h8] at hj
        simp only [Bool.false_eq_true, if_false, if_true, (by decide : ¬ (8 : Int) = 2), (by decide : ¬ (8 : Int) = 3), (by decide : ¬ (8 : Int) = 5), (by decide : ¬ (8 : Int) = 6), (by decide : ¬ (8 : Int) = 7)] at hj
        rw [h8] at hj1
        split at hj
        · exact absurd hj (hj1 _)
        · split at hj
          · split at hj
            · split at hj
              · omega
              · exact absurd hj (hj1 _)
            · exact absurd hj (hj1 _)
          · exact absurd hj (hj1 _)
  unfold gristmillref5_form.f at h
  split at h
  · rename_i h1
    exact J _ (fun hh => by omega) h
  · exact J _ (fun hh => beq_eq_false_iff_ne.2 (by omega)) h
end Go.Proofs.YtmoeekidmkhkoaaDoor.FreeA

