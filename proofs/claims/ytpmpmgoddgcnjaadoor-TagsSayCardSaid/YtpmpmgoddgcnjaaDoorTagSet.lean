/- Tags in order, each once, as plain lists: what the sort and the compaction come to; the document's insertion comes to the same. No condition. -/
import Derived.Test.YtpmpmgoddgcnjaaDoorExtT
namespace Go.Proofs.YtpmpmgoddgcnjaaDoor.TagSet
open Go.RowKit Go.Lib Go.Proofs.YtpmpmgoddgcnjaaDoor.PTagsB Go.Proofs.YtpmpmgoddgcnjaaDoor.TagOrd Go.Proofs.YtpmpmgoddgcnjaaDoor.ExtT Go.Proofs.YtpmpmgoddgcnjaaDoorW.PrintWords Go.Proofs.YtpmpmgoddgcnjaaDoorW.PrintLast
open Go.Proofs.YtpmpmgoddgcnjaaDoor.Compact (toList_inj)
set_option linter.unusedVariables false
set_option linter.unusedSimpArgs false
def Up (l : List S23) : Prop := l.Pairwise fun a b => ltT a b = true
theorem up_mem {x : S23} {r : List S23} (h : Up (x :: r)) : ∀ y ∈ r, ltT x y = true := (List.pairwise_cons.1 h).1
theorem up_tail {x : S23} {r : List S23} (h : Up (x :: r)) : Up r := (List.pairwise_cons.1 h).2
theorem up_sub : ∀ (b a : List S23), Up a → Up b → (∀ x, x ∈ a → x ∈ b) → a.length ≤ b.length
  | b, [], _, _, _ => Nat.zero_le _
  | [], x :: a, _, _, h => by have := h x (List.mem_cons_self); simp at this
  | y :: b, x :: a, ha, hb, h => by
    have hx := up_mem ha
    rcases List.mem_cons.1 (h x List.mem_cons_self) with e | e
    · subst e
      have := up_sub b a (up_tail ha) (up_tail hb) (fun z hz => by
        rcases List.mem_cons.1 (h z (List.mem_cons_of_mem _ hz)) with e | e
        · subst e; have := hx z hz; rw [irrefl] at this; cases this
        · exact e)
      simp only [List.length_cons]; omega
    · have := up_sub b (x :: a) ha (up_tail hb) (fun z hz => by
        rcases List.mem_cons.1 (h z hz) with e2 | e2
        · subst e2
          have h1 := up_mem hb x e
          rcases List.mem_cons.1 hz with e3 | e3
          · subst e3; rw [irrefl] at h1; cases h1
          · have h2 := hx z e3
            rw [asymm _ _ h1] at h2; cases h2
        · exact e2)
      simp only [List.length_cons] at *; omega
theorem uniq : ∀ (a b : List S23), Up a → Up b → (∀ x, x ∈ a ↔ x ∈ b) → a = b
  | [], [], _, _, _ => rfl
  | [], y :: b, _, _, h => by have := (h y).2 List.mem_cons_self; simp at this
  | x :: a, [], _, _, h => by have := (h x).1 List.mem_cons_self; simp at this
  | x :: a, y :: b, ha, hb, h => by
    have hx := up_mem ha
    have hy := up_mem hb
    have e : x = y := by
      rcases List.mem_cons.1 ((h x).1 List.mem_cons_self) with e | e
      · exact e
      · rcases List.mem_cons.1 ((h y).2 List.mem_cons_self) with e2 | e2
        · exact e2.symm
        · have h1 := hy x e
          have h2 := hx y e2
          rw [asymm _ _ h1] at h2; cases h2
    subst e
    rw [uniq a b (up_tail ha) (up_tail hb) (fun z => ⟨fun hz => by
      rcases List.mem_cons.1 ((h z).1 (List.mem_cons_of_mem _ hz)) with e | e
      · subst e; have := hx z hz; rw [irrefl] at this; cases this
      · exact e, fun hz => by
      rcases List.mem_cons.1 ((h z).2 (List.mem_cons_of_mem _ hz)) with e | e
      · subst e; have := hy z hz; rw [irrefl] at this; cases this
      · exact e⟩)]
/-! ### The compaction of a sorted list -/
theorem get_nth (zs : List S23) (j : Nat) (h : j < zs.length) : zs.toArray[j]! = zs[j] := by
  rw [getElem!_pos _ _ (by simpa using h)]; simp
theorem compact_up (zs : List S23) (hs : zs.Pairwise fun a b => ltT b a = false) : ∀ m, m ≤ zs.length → Up (compactUpTo zs.toArray m) ∧ ∀ x, x ∈ compactUpTo zs.toArray m ↔ ∃ j, j < m ∧ zs.toArray[j]! = x := by
  intro m
  induction m with
  | zero => intro _; exact ⟨by simp [compactUpTo, Up], fun x => by simp [compactUpTo]⟩
  | succ m ih =>
    intro hm
    obtain ⟨h1, h2⟩ := ih (by omega)
    have hle : ∀ i j, i < j → j < zs.length → ltT zs.toArray[j]! zs.toArray[i]! = false := fun i j hij hj => by
      rw [get_nth zs i (by omega), get_nth zs j hj]
      exact List.pairwise_iff_getElem.1 hs i j (by omega) hj hij
    rw [compactUpTo_succ]
    by_cases hk : keeps zs.toArray m = true
    · rw [if_pos hk]
      refine ⟨?_, fun x => ?_⟩
      · refine List.pairwise_append.2 ⟨h1, List.pairwise_singleton _ _, fun x hx y hy => ?_⟩
        obtain rfl := List.mem_singleton.1 hy
        obtain ⟨j, hj, rfl⟩ := (h2 x).1 hx
        rcases tri zs.toArray[j]! zs.toArray[m]! with h | h | h
        · exact h
        · exfalso
          have hm0 : m ≠ 0 := by omega
          have hne : zs.toArray[m]! ≠ zs.toArray[m - 1]! := by simpa [keeps, hm0] using hk
          have a1 := hle (m - 1) m (by omega) (by omega)
          have a2 : ltT zs.toArray[m - 1]! zs.toArray[m]! = false := by
            rw [← h]
            rcases Nat.lt_or_ge j (m - 1) with c | c
            · exact hle j (m - 1) c (by omega)
            · have : j = m - 1 := by omega
              subst this; exact irrefl _
          exact hne (total _ _ a1 a2)
        · rw [hle j m hj (by omega)] at h; cases h
      · rw [List.mem_append, h2, List.mem_singleton]
        constructor
        · rintro (⟨j, hj, e⟩ | e)
          · exact ⟨j, by omega, e⟩
          · exact ⟨m, by omega, e.symm⟩
        · rintro ⟨j, hj, e⟩
          rcases Nat.lt_or_ge j m with c | c
          · exact .inl ⟨j, c, e⟩
          · have : j = m := by omega
            subst this; exact .inr e.symm
    · rw [if_neg hk, List.append_nil]
      refine ⟨h1, fun x => ?_⟩
      rw [h2]
      have hm0 : ¬ (m = 0 ∨ zs.toArray[m]! ≠ zs.toArray[m - 1]!) := by simpa [keeps] using hk
      have hm1 : m ≠ 0 := fun e => hm0 (.inl e)
      have heq : zs.toArray[m]! = zs.toArray[m - 1]! := Classical.byContradiction fun e => hm0 (.inr e)
      constructor
      · rintro ⟨j, hj, e⟩; exact ⟨j, by omega, e⟩
      · rintro ⟨j, hj, e⟩
        rcases Nat.lt_or_ge j m with c | c
        · exact ⟨j, c, e⟩
        · have : j = m := by omega
          subst this; exact ⟨j - 1, by omega, heq ▸ e⟩
theorem setT_spec (l : List S23) : Up (setT l) ∧ ∀ x, x ∈ setT l ↔ x ∈ l := by
  have htr : ∀ a b c : S23, (!ltT b a) = true → (!ltT c b) = true → (!ltT c a) = true := fun a b c h1 h2 => by
    simp only [Bool.not_eq_true'] at *
    exact swo.ntrans c b a h2 h1
  have hto : ∀ a b : S23, ((!ltT b a) || (!ltT a b)) = true := fun a b => by
    cases h : ltT a b
    · simp
    · rw [asymm _ _ h]; rfl
  have hs := List.pairwise_mergeSort (le := fun x y => !ltT y x) htr hto l
  have hs' : (l.mergeSort fun x y => !ltT y x).Pairwise fun a b => ltT b a = false := hs.imp fun h => by simpa using h
  obtain ⟨h1, h2⟩ := compact_up _ hs' _ (Nat.le_refl _)
  refine ⟨h1, fun x => ?_⟩
  have h3 := h2 x
  rw [show setT l = compactUpTo (l.mergeSort fun x y => !ltT y x).toArray (l.mergeSort fun x y => !ltT y x).length from rfl, h3]
  rw [← List.mem_mergeSort (le := fun x y => !ltT y x), List.mem_iff_getElem]
  constructor
  · rintro ⟨j, hj, e⟩; exact ⟨j, hj, by rw [← get_nth _ j hj]; exact e⟩
  · rintro ⟨j, hj, e⟩; exact ⟨j, hj, by rw [get_nth _ j hj]; exact e⟩
theorem setT_len (l : List S23) : (setT l).length ≤ l.length := by
  unfold setT compact compactUpTo
  rw [List.length_map]
  refine Nat.le_trans (List.length_filter_le _ _) ?_
  rw [List.length_range, List.length_mergeSort]
  exact Nat.le_refl _
theorem setT_eq {l s : List S23} (h : Up s) (hm : ∀ x, x ∈ s ↔ x ∈ l) : setT l = s := uniq _ _ (setT_spec l).1 h fun x => ((setT_spec l).2 x).trans (hm x).symm
/-! ### The document's insertion -/
def ins (t : S23) : List S23 → List S23
  | [] => [t]
  | x :: r => if ltT x t = true then x :: ins t r else if x = t then x :: r else t :: x :: r
theorem ins_mem (t : S23) : ∀ (l : List S23) (x : S23), x ∈ ins t l ↔ x = t ∨ x ∈ l
  | [], x => by simp [ins]
  | y :: r, x => by
    unfold ins
    by_cases h : ltT y t = true
    · rw [if_pos h, List.mem_cons, ins_mem t r x, List.mem_cons]
      constructor
      · rintro (h | h | h)
        · exact .inr (.inl h)
        · exact .inl h
        · exact .inr (.inr h)
      · rintro (h | h | h)
        · exact .inr (.inl h)
        · exact .inl h
        · exact .inr (.inr h)
    · rw [if_neg h]
      by_cases e : y = t
      · subst e
        rw [if_pos rfl]
        simp
      · rw [if_neg e]; simp
theorem ins_up (t : S23) : ∀ (l : List S23), Up l → Up (ins t l)
  | [], _ => List.pairwise_singleton _ _
  | y :: r, h => by
    unfold ins
    by_cases h1 : ltT y t = true
    · rw [if_pos h1]
      refine List.pairwise_cons.2 ⟨fun z hz => ?_, ins_up t r (up_tail h)⟩
      rcases (ins_mem t r z).1 hz with e | e
      · subst e; exact h1
      · exact up_mem h z e
    · rw [if_neg h1]
      by_cases e : y = t
      · rw [if_pos e]; exact h
      · rw [if_neg e]
        have h2 : ltT t y = true := by
          rcases tri t y with a | a | a
          · exact a
          · exact absurd a.symm e
          · exact absurd a h1
        refine List.pairwise_cons.2 ⟨fun z hz => ?_, h⟩
        rcases List.mem_cons.1 hz with e | e
        · subst e; exact h2
        · exact trans _ _ _ h2 (up_mem h z e)
theorem ins_len (t : S23) : ∀ (l : List S23), (ins t l).length ≤ l.length + 1
  | [] => by simp [ins]
  | y :: r => by
    unfold ins
    have := ins_len t r
    split
    · simp only [List.length_cons]; omega
    · split <;> simp only [List.length_cons] <;> omega
end Go.Proofs.YtpmpmgoddgcnjaaDoor.TagSet
