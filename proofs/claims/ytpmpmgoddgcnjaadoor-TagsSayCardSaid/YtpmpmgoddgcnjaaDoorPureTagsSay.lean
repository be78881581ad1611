/- Tags, their order, texts and sets are what the chapter says: the pure law of TagsSay, for all tags and lists (the statement's own guards: at most 30 tags, names of at most 60 bytes). -/
import Derived.Test.YtpmpmgoddgcnjaaDoorPTagsBx7
import Derived.Test.YtpmpmgoddgcnjaaDoorTagVal
namespace Go.Proofs.YtpmpmgoddgcnjaaDoor.Pure
open Go.RowKit Go.Proofs.YtpmpmgoddgcnjaaDoor.PTagsB Go.Proofs.YtpmpmgoddgcnjaaDoor.TagOrd Go.Proofs.YtpmpmgoddgcnjaaDoor.TagSet Go.Proofs.YtpmpmgoddgcnjaaDoor.TagEv Go.Proofs.YtpmpmgoddgcnjaaDoor.ExtT Go.Proofs.YtpmpmgoddgcnjaaDoorW.PrintWords Go.Proofs.YtpmpmgoddgcnjaaDoorW.PrintLast
open Go.Proofs.YtpmpmgoddgcnjaaDoor
set_option linter.unusedVariables false
set_option linter.unusedSimpArgs false
theorem say_text (a : S23) (hs : a.f1.size ≤ 140737488351232) (hv : validB a = true) : gristmillref14_TagText.f a.f0 a.f1 a.f2 = some (textB a) := by
  obtain ⟨⟨h1, h6⟩, h2, h3⟩ := valid_facts hv
  unfold gristmillref14_TagText.f
  rw [if_pos ⟨h1, h6, hs, h2, by omega⟩]
  congr 1
  unfold textB
  congr 3
  obtain h | h | h | h | h | h : a.f0 = 1 ∨ a.f0 = 2 ∨ a.f0 = 3 ∨ a.f0 = 4 ∨ a.f0 = 5 ∨ a.f0 = 6 := by omega
  all_goals (rw [h]; rfl)
theorem beq_self (x : Bool) : ((x == x) = true) := by cases x <;> rfl
theorem say_end (a b : S23) (ha : a.f1.size ≤ 60) (l : List S23) (hl : l.length ≤ 30) (j : Nat) (hj : j = l.length) : Ev (fun k => gristmilllaw14_TagsSay.l0 k l true (j : Int) a.f0 a.f1 a.f2 b.f0 b.f1 b.f2) true := by
  have hss := sameTags_ev (setT l) (setT l) (by have := setT_len l; omega)
  rw [decide_eq_true rfl] at hss
  have hlast : Ev (fun k => (tag_Waits.f a.f0 a.f1 a.f2).bind fun t192 => ((gristmillref14_Waits.f a.f0 a.f1 a.f2).bind fun t193 => (if (t192 == t193) = true then ((tag_Bare.f a.f0 a.f1 a.f2).bind fun t194 => ((gristmillref14_Bare.f a.f0 a.f1 a.f2).bind fun t195 => (if (t194 == t195) = true then (if validB a = true then ((tag_Text.f a.f0 a.f1 a.f2).bind fun t196 => ((gristmillref14_TagText.f a.f0 a.f1 a.f2).bind fun t197 => (some (t196.toList == t197.toList)))) else (some true)) else (none)))) else (none)))) true := by
    have e1 : gristmillref14_Waits.f a.f0 a.f1 a.f2 = some (decide (a.f0 = 2 ∨ a.f0 = 4)) := waits_eq a
    have e2 : gristmillref14_Bare.f a.f0 a.f1 a.f2 = some (decide (a.f0 = 5 ∨ a.f0 = 6)) := bare_eq a
    refine Ev.congr (f := fun _ => some true) (fun k => ?_) (Ev.now _)
    rw [waits_eq, e1, bare_eq, e2]
    simp only [Option.bind_some]
    rw [if_pos (beq_self _), if_pos (beq_self _)]
    cases hv : validB a with
    | false => rw [if_neg (by decide)]
    | true =>
      obtain ⟨_, h2, h3⟩ := valid_facts hv
      rw [if_pos rfl, text_eq a (by omega) h2 (by omega), Option.bind_some, say_text a (by omega) hv, Option.bind_some]
      simp
  obtain ⟨K1, h1⟩ := less_ev a b
  obtain ⟨K2, h2⟩ := setTags_ev l (by omega)
  obtain ⟨K3, h3⟩ := hss
  obtain ⟨K4, h4⟩ := has_ev l a (by omega)
  obtain ⟨K5, h5⟩ := hasTag_ev l a (by omega)
  obtain ⟨K6, h6⟩ := hlast
  dsimp only at h1 h2 h3 h4 h5 h6
  refine ⟨K1 + K2 + K3 + K4 + K5 + K6 + 2, fun k hk => ?_⟩
  obtain ⟨m, rfl⟩ : ∃ m, k = m + 2 := ⟨k - 2, by omega⟩
  simp only [gristmilllaw14_TagsSay.l0]
  rw [if_neg (by omega), validTag_eq, Option.bind_some, if_pos trivial, valid_eq, Option.bind_some, if_pos (beq_self _), h1 (m + 1) (by omega), Option.bind_some, lessTag_eq, Option.bind_some, if_pos (beq_self _), set_eq l (by omega), Option.bind_some, h2 (m + 1) (by omega), Option.bind_some, h3 (m + 1) (by omega), Option.bind_some, if_pos rfl, h4 (m + 1) (by omega), Option.bind_some, h5 (m + 1) (by omega), Option.bind_some, if_pos (beq_self _)]
  exact h6 m (by omega)
theorem say_l0 (a b : S23) (ha : a.f1.size ≤ 60) (l : List S23) (hl : l.length ≤ 30) (d : Nat) : ∀ j : Nat, j + d = l.length → Ev (fun k => gristmilllaw14_TagsSay.l0 k l true (j : Int) a.f0 a.f1 a.f2 b.f0 b.f1 b.f2) true := by
  induction d with
  | zero => intro j hj; exact say_end a b ha l hl j (by omega)
  | succ d ih =>
    intro j hj
    have h1 : j < l.length := by omega
    by_cases h : (l[j].f1.size : Int) > 60
    · refine Ev.step (f := fun _ => some true) (fun k => ?_) (Ev.now _)
      rw [gristmilllaw14_TagsSay.l0, if_pos (by omega), if_pos (by omega), rd_get l j h1, if_pos h]
    · refine Ev.step (fun k => ?_) (ih (j + 1) (by omega))
      rw [gristmilllaw14_TagsSay.l0, if_pos (by omega), if_pos (by omega), rd_get l j h1, if_neg h, w64 j (by omega)]
theorem TagsSay : ∀ (t0 : S23) (t1 : S23) (l2 : List S23), t0.f1.size ≤ 140737488351232 → t1.f1.size ≤ 140737488351232 → l2.length * 32 ≤ 140737488351232 → ∃ k, PTagsB.gristmilllaw14_TagsSay.f k t0.f0 t0.f1 t0.f2 t1.f0 t1.f1 t1.f2 l2 = some true := by
  intro a b l _ _ _
  refine Ev.rounds (g := fun k => PTagsB.gristmilllaw14_TagsSay.f k a.f0 a.f1 a.f2 b.f0 b.f1 b.f2 l) ?_
  unfold gristmilllaw14_TagsSay.f
  simp only [first_ok, Option.bind_some, if_true]
  have ht : Ev (fun k => gristmilllaw14_TagsSay.j0 k l true true a.f0 a.f1 a.f2 b.f0 b.f1 b.f2) true := by
    refine Ev.step (f := fun _ => some true) (fun k => ?_) (Ev.now _)
    rw [gristmilllaw14_TagsSay.j0, if_pos rfl]
  by_cases hl : (l.length : Int) > 30
  · exact Ev.congr (fun k => if_pos hl) ht
  · refine Ev.congr (fun k => if_neg hl) ?_
    by_cases h1 : (a.f1.size : Int) > 60
    · exact Ev.congr (fun k => if_pos h1) ht
    · refine Ev.congr (fun k => if_neg h1) ?_
      by_cases h2 : (b.f1.size : Int) > 60
      · rw [decide_eq_true h2]; exact ht
      · rw [decide_eq_false h2]
        refine Ev.step (fun k => ?_) (say_l0 a b (by omega) l (by omega) l.length 0 (by omega))
        rw [gristmilllaw14_TagsSay.j0, if_neg (by decide)]; rfl
end Go.Proofs.YtpmpmgoddgcnjaaDoor.Pure
