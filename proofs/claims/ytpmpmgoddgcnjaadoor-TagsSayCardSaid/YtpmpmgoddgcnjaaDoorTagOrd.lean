/- The order of tags: by kind, then name, then number. No condition. -/
import Derived.Test.YtpmpmgoddgcnjaaDoorPTagsBx0
import Derived.Test.YtpmpmgoddgcnjaaDoorCompact
import Derived.Sort.Walk0
import Derived.Shelf.SlSortCmp.Insertion
namespace Go.Proofs.YtpmpmgoddgcnjaaDoor.TagOrd
open Go.RowKit Go.Sort Go.Proofs.YtpmpmgoddgcnjaaDoor.PTagsB Go.Proofs.YtpmpmgoddgcnjaaDoorW.PrintWords Go.Proofs.YtpmpmgoddgcnjaaDoorW.PrintLast
set_option linter.unusedVariables false
set_option linter.unusedSimpArgs false
def cmpI (a b : Int) : Int := if a < b then -1 else if b < a then 1 else 0
def cmpS (a b : ByteArray) : Int := if Op.bytesLess a.toList b.toList = true then -1 else if a.toList = b.toList then 0 else 1
def or3 (x y z : Int) : Int := if x ≠ 0 then x else if y ≠ 0 then y else z
def cmpT (a b : S23) : Int := or3 (cmpI a.f0 b.f0) (cmpS a.f1 b.f1) (cmpI a.f2 b.f2)
def ltT (a b : S23) : Bool := ltOf cmpT a b
theorem bl_iff (a b : List UInt8) : Op.bytesLess a b = true ↔ a < b := by rw [bytesLess_eq]; simp
theorem cmpI_neg (a b : Int) : cmpI a b < 0 ↔ a < b := by 
  unfold cmpI
  split
  · constructor <;> intro _ <;> omega
  · split <;> constructor <;> intro _ <;> omega
theorem cmpI_zero (a b : Int) : cmpI a b = 0 ↔ a = b := by 
  unfold cmpI
  split
  · constructor <;> intro _ <;> omega
  · split <;> constructor <;> intro _ <;> omega
theorem cmpS_neg (a b : ByteArray) : cmpS a b < 0 ↔ a.toList < b.toList := by
  unfold cmpS
  by_cases h : Op.bytesLess a.toList b.toList = true
  · rw [if_pos h]; simp [(bl_iff _ _).1 h]
  · rw [if_neg h]
    have h' : ¬ a.toList < b.toList := fun e => h ((bl_iff _ _).2 e)
    split <;> simp [h']
theorem cmpS_zero (a b : ByteArray) : cmpS a b = 0 ↔ a = b := by
  unfold cmpS
  by_cases h : Op.bytesLess a.toList b.toList = true
  · rw [if_pos h]
    refine ⟨fun e => by omega, fun e => ?_⟩
    subst e
    exact absurd ((bl_iff _ _).1 h) (List.lt_irrefl _)
  · rw [if_neg h]
    by_cases e : a.toList = b.toList
    · rw [if_pos e]; exact ⟨fun _ => Compact.toList_inj e, fun _ => rfl⟩
    · rw [if_neg e]
      exact ⟨fun x => by omega, fun x => absurd (by rw [x]) e⟩
theorem lt_iff (a b : S23) : ltT a b = true ↔ a.f0 < b.f0 ∨ (a.f0 = b.f0 ∧ (a.f1.toList < b.f1.toList ∨ (a.f1 = b.f1 ∧ a.f2 < b.f2))) := by
  unfold ltT ltOf cmpT or3
  rw [decide_eq_true_eq]
  by_cases h0 : a.f0 = b.f0
  · rw [if_neg (by simpa using (cmpI_zero _ _).2 h0)]
    by_cases h1 : a.f1 = b.f1
    · rw [if_neg (by simpa using (cmpS_zero _ _).2 h1), cmpI_neg]
      constructor
      · intro h; exact .inr ⟨h0, .inr ⟨h1, h⟩⟩
      · rintro (h | ⟨_, h | ⟨_, h⟩⟩)
        · omega
        · rw [h1] at h; exact absurd h (List.lt_irrefl _)
        · exact h
    · rw [if_pos (by simpa using fun e => h1 ((cmpS_zero _ _).1 e)), cmpS_neg]
      constructor
      · intro h; exact .inr ⟨h0, .inl h⟩
      · rintro (h | ⟨_, h | ⟨h, _⟩⟩)
        · omega
        · exact h
        · exact absurd h h1
  · rw [if_pos (by simpa using fun e => h0 ((cmpI_zero _ _).1 e)), cmpI_neg]
    constructor
    · intro h; exact .inl h
    · rintro (h | ⟨h, _⟩)
      · exact h
      · exact absurd h h0
theorem bl_tri (a b : ByteArray) : a.toList < b.toList ∨ a = b ∨ b.toList < a.toList := by
  by_cases h : a.toList < b.toList
  · exact .inl h
  · by_cases h' : b.toList < a.toList
    · exact .inr (.inr h')
    · exact .inr (.inl (Compact.toList_inj (List.le_antisymm (List.not_lt.1 h') (List.not_lt.1 h))))
theorem tri (a b : S23) : ltT a b = true ∨ a = b ∨ ltT b a = true := by
  rw [lt_iff, lt_iff]
  rcases Int.lt_trichotomy a.f0 b.f0 with h | h | h
  · exact .inl (.inl h)
  · rcases bl_tri a.f1 b.f1 with h1 | h1 | h1
    · exact .inl (.inr ⟨h, .inl h1⟩)
    · rcases Int.lt_trichotomy a.f2 b.f2 with h2 | h2 | h2
      · exact .inl (.inr ⟨h, .inr ⟨h1, h2⟩⟩)
      · refine .inr (.inl ?_)
        cases a; cases b; simp_all
      · exact .inr (.inr (.inr ⟨h.symm, .inr ⟨h1.symm, h2⟩⟩))
    · exact .inr (.inr (.inr ⟨h.symm, .inl h1⟩))
  · exact .inr (.inr (.inl h))
theorem irrefl (a : S23) : ltT a a = false := by
  rw [Bool.eq_false_iff]
  intro h
  rcases (lt_iff a a).1 h with h | ⟨_, h | ⟨_, h⟩⟩
  · omega
  · exact List.lt_irrefl _ h
  · omega
theorem trans (a b c : S23) (h : ltT a b = true) (h' : ltT b c = true) : ltT a c = true := by
  rw [lt_iff] at *
  rcases h with h | ⟨e, h | ⟨e1, h⟩⟩ <;> rcases h' with h' | ⟨e', h' | ⟨e1', h'⟩⟩
  · exact .inl (by omega)
  · exact .inl (by omega)
  · exact .inl (by omega)
  · exact .inl (by omega)
  · exact .inr ⟨by omega, .inl (List.lt_trans h h')⟩
  · exact .inr ⟨by omega, .inl (by rw [← e1']; exact h)⟩
  · exact .inl (by omega)
  · exact .inr ⟨by omega, .inl (by rw [e1]; exact h')⟩
  · exact .inr ⟨by omega, .inr ⟨e1.trans e1', by omega⟩⟩
theorem asymm (a b : S23) (h : ltT a b = true) : ltT b a = false := by
  rw [Bool.eq_false_iff]
  intro h'
  have := trans a b a h h'
  rw [irrefl] at this
  cases this
theorem total (a b : S23) (h : ltT a b = false) (h' : ltT b a = false) : a = b := by
  rcases tri a b with x | x | x
  · rw [h] at x; cases x
  · exact x
  · rw [h'] at x; cases x
theorem swo : SWO ltT where
  irrefl := irrefl
  trans := trans
  ntrans x y z h h' := by
    rw [Bool.eq_false_iff]
    intro h2
    rcases tri x y with a | a | a
    · rw [h] at a; cases a
    · subst a; rw [h'] at h2; cases h2
    · have := trans y x z a h2
      rw [h'] at this; cases this
end Go.Proofs.YtpmpmgoddgcnjaaDoor.TagOrd
