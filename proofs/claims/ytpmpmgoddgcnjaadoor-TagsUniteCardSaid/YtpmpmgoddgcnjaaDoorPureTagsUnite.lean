/- A set of two lists has what is in either, once, in order, whatever the lists' order: the pure law of TagsUnite, for any two lists (the statement's own guard: at most 15 tags each). -/
import Derived.Test.YtpmpmgoddgcnjaaDoorPTagsBx9
import Derived.Test.YtpmpmgoddgcnjaaDoorTagEv
namespace Go.Proofs.YtpmpmgoddgcnjaaDoor.Pure
open Go.RowKit Go.Proofs.YtpmpmgoddgcnjaaDoor.PTagsB Go.Proofs.YtpmpmgoddgcnjaaDoor.TagOrd Go.Proofs.YtpmpmgoddgcnjaaDoor.TagSet Go.Proofs.YtpmpmgoddgcnjaaDoor.TagEv Go.Proofs.YtpmpmgoddgcnjaaDoor.ExtT Go.Proofs.YtpmpmgoddgcnjaaDoorW.PrintWords Go.Proofs.YtpmpmgoddgcnjaaDoorW.PrintLast
open Go.Proofs.YtpmpmgoddgcnjaaDoor
set_option linter.unusedVariables false
set_option linter.unusedSimpArgs false
theorem unite_end (a b s o both : List S23) (ha : a.length ≤ 15) (hb : both.length ≤ 30) (ho : o.length ≤ 30) (hs : s = setT both) (hm : ∀ x, x ∈ o ↔ x ∈ both) (hsub : ∀ x, x ∈ a → x ∈ both) (j : Nat) (hj : j = s.length) :
    Ev (fun k => gristmilllaw14_TagsUnite.l0 k a b true both o s (j : Int)) true := by
  have hl := setT_len both
  have hu := (setT_spec both).1
  have hsm := (setT_spec both).2
  have e1 : setT o = s := by rw [hs]; exact setT_eq hu fun x => (hsm x).trans (hm x).symm
  have e2 : setT s = s := by rw [hs]; exact setT_eq hu fun x => Iff.rfl
  have e3 : (setT a).length ≤ s.length := by
    rw [hs]
    exact up_sub _ _ (setT_spec a).1 hu fun x hx => (hsm x).2 (hsub x (((setT_spec a).2 x).1 hx))
  have hsl : s.length ≤ 30 := by rw [hs]; omega
  have s1 := sameTags_ev s s (by omega)
  rw [decide_eq_true rfl] at s1
  refine Ev.step (f := fun k => (gristmillref_SameTags.f k s s).bind fun t => if t = true then (gristmillref_SameTags.f k s s).bind fun t2 => if t2 = true then some true else none else none) (fun k => ?_) (Ev.bind s1 (Ev.congr (fun k => if_pos rfl) (Ev.bind s1 (Ev.congr (fun k => if_pos rfl) (Ev.now _)))))
  simp only [gristmilllaw14_TagsUnite.l0]
  rw [if_neg (by omega), if_pos trivial, set_eq o (by omega), Option.bind_some, e1, set_eq s (by omega), set_eq a (by omega), e2]
  simp only [Option.bind_some]
  rw [if_pos (by rw [hs]; omega), decide_eq_true (by omega)]
theorem unite_l (a b s o both : List S23) (ha : a.length ≤ 15) (hb2 : b.length ≤ 15) (hb : both.length ≤ 30) (ho : o.length ≤ 30) (hs : s = setT both) (hm : ∀ x, x ∈ o ↔ x ∈ both) (hab : ∀ x, x ∈ both ↔ x ∈ a ∨ x ∈ b) (d : Nat) : ∀ j : Nat, j + d = s.length →
    Ev (fun k => gristmilllaw14_TagsUnite.l0 k a b true both o s (j : Int)) true := by
  induction d with
  | zero => intro j hj; exact unite_end a b s o both ha hb ho hs hm (fun x hx => (hab x).2 (.inl hx)) j (by omega)
  | succ d ih =>
    intro j hj
    have h1 : j < s.length := by omega
    have hl := setT_len both
    have hsl : s.length ≤ 30 := by rw [hs]; omega
    have hx : s[j] ∈ both := by
      have h0 : s[j] ∈ s := List.getElem_mem h1
      have h2 : ∀ x, x ∈ s → x ∈ both := fun x hx => ((setT_spec both).2 x).1 (hs ▸ hx)
      exact h2 _ h0
    have hn := ih (j + 1) (by omega)
    have h2 := has_ev a s[j] (by omega)
    have h3 := has_ev b s[j] (by omega)
    have hst : ∀ k, gristmilllaw14_TagsUnite.l0 (k + 1) a b true both o s (j : Int) = (tag_Has.f k a s[j].f0 s[j].f1 s[j].f2).bind fun t => if (t == false) = true then (tag_Has.f k b s[j].f0 s[j].f1 s[j].f2).bind fun t2 => if (t2 == false) = true then none else gristmilllaw14_TagsUnite.l0 k a b true both o s ((j + 1 : Nat) : Int) else gristmilllaw14_TagsUnite.l0 k a b true both o s ((j + 1 : Nat) : Int) := fun k => by
      simp only [gristmilllaw14_TagsUnite.l0]
      rw [if_pos (by omega), if_pos (by omega), rd_get s j h1, w64 j (by omega)]
    refine Ev.step hst (Ev.bind h2 ?_)
    by_cases e : s[j] ∈ a
    · rw [decide_eq_true e]
      exact Ev.congr (fun k => if_neg (by decide)) hn
    · rw [decide_eq_false e]
      refine Ev.congr (fun k => if_pos rfl) (Ev.bind h3 ?_)
      rw [decide_eq_true (((hab _).1 hx).resolve_left e)]
      exact Ev.congr (fun k => if_neg (by decide)) hn
theorem TagsUnite : ∀ (l0 : List S23) (l1 : List S23), l0.length * 32 ≤ 140737488351232 → l1.length * 32 ≤ 140737488351232 → ∃ k, PTagsB.gristmilllaw14_TagsUnite.f k l0 l1 = some true := by
  intro a b _ _
  by_cases h0 : (a.length : Int) > 15
  · refine ⟨1, ?_⟩
    unfold gristmilllaw14_TagsUnite.f
    rw [first_ok, Option.bind_some, if_pos rfl, if_pos h0]
    simp only [gristmilllaw14_TagsUnite.j0, if_true]
  · by_cases h1 : (b.length : Int) > 15
    · refine ⟨1, ?_⟩
      unfold gristmilllaw14_TagsUnite.f
      rw [first_ok, Option.bind_some, if_pos rfl, if_neg h0, decide_eq_true h1]
      simp only [gristmilllaw14_TagsUnite.j0, if_true]
    · have hl := unite_l a b (setT (a ++ b)) (b ++ a) (a ++ b) (by omega) (by omega) (by rw [List.length_append]; omega) (by rw [List.length_append]; omega) rfl (fun x => by rw [List.mem_append, List.mem_append]; exact or_comm) (fun x => List.mem_append) (setT (a ++ b)).length 0 (by omega)
      obtain ⟨k, hk⟩ := hl.rounds
      refine ⟨k + 1, ?_⟩
      unfold gristmilllaw14_TagsUnite.f
      rw [first_ok, Option.bind_some, if_pos rfl, if_neg h0, decide_eq_false h1]
      simp only [gristmilllaw14_TagsUnite.j0]
      rw [if_neg (by decide), tags_eq a (by omega), tags_eq b (by omega)]
      simp only [Option.bind_some]
      rw [if_pos (by omega), if_pos (by omega), set_eq (a ++ b) (by rw [List.length_append]; omega), Option.bind_some]
      exact hk
end Go.Proofs.YtpmpmgoddgcnjaaDoor.Pure
