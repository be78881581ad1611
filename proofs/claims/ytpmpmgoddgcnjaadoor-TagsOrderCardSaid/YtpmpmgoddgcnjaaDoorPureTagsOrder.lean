/- Of two tags one stands ahead, or they are the same; a set rises, and has all; unlike ones that may be have unlike texts: the pure law of TagsOrder, for all tags and lists (the statement's own guard: at most 20 tags). -/
import Derived.Test.YtpmpmgoddgcnjaaDoorPTagsBx8
import Derived.Test.YtpmpmgoddgcnjaaDoorTagVal
namespace Go.Proofs.YtpmpmgoddgcnjaaDoor.Pure
open Go.RowKit Go.Proofs.YtpmpmgoddgcnjaaDoor.PTagsB Go.Proofs.YtpmpmgoddgcnjaaDoor.TagOrd Go.Proofs.YtpmpmgoddgcnjaaDoor.TagSet Go.Proofs.YtpmpmgoddgcnjaaDoor.TagEv Go.Proofs.YtpmpmgoddgcnjaaDoor.ExtT Go.Proofs.YtpmpmgoddgcnjaaDoorW.PrintWords Go.Proofs.YtpmpmgoddgcnjaaDoorW.PrintLast
open Go.Proofs.YtpmpmgoddgcnjaaDoor
set_option linter.unusedVariables false
set_option linter.unusedSimpArgs false
theorem order_j3 (a b : S23) (ha : a.f1.size ≤ 140737488351232) (x : Bool) (hx : x = true → a.f0 = b.f0 ∧ ¬ a.f1.toList = b.f1.toList) : Ev (fun k => gristmilllaw14_TagsOrder.j3 k true x a.f0 a.f1 a.f2 b.f0 b.f1 b.f2) true := by
  cases x with
  | true =>
    obtain ⟨h0, h1⟩ := hx rfl
    refine Ev.step (f := fun _ => some true) (fun k => ?_) (Ev.now _)
    simp only [gristmilllaw14_TagsOrder.j3, if_true]
    rw [if_pos h0]
    congr 1
    exact bne_iff_ne.2 h1
  | false =>
    refine Ev.step (f := fun _ => some true) (fun k => ?_) (Ev.now _)
    simp only [gristmilllaw14_TagsOrder.j3, if_true]
    rw [if_neg (by decide), waits_eq, Option.bind_some, bare_eq, Option.bind_some]
    by_cases h : a.f0 = 2 ∨ a.f0 = 4
    · rw [if_pos (by simpa using h), decide_eq_false (by omega)]; rfl
    · rw [if_neg (by simpa using h)]; rfl
theorem order_end (a b : S23) (ha : a.f1.size ≤ 140737488351232) (hb : b.f1.size ≤ 140737488351232) (l s : List S23) (j : Nat) (hj : j = l.length) : Ev (fun k => gristmilllaw14_TagsOrder.l1 k l true (decide (a = b)) s (j : Int) a.f0 a.f1 a.f2 b.f0 b.f1 b.f2) true := by
  have hst : ∀ k, gristmilllaw14_TagsOrder.l1 (k + 2) l true (decide (a = b)) s (j : Int) a.f0 a.f1 a.f2 b.f0 b.f1 b.f2 = gristmilllaw14_TagsOrder.j3 (k + 1) true (validB a && validB b && (decide ((textB a).toList = (textB b).toList) != decide (a = b))) a.f0 a.f1 a.f2 b.f0 b.f1 b.f2 := fun k => by
    rw [gristmilllaw14_TagsOrder.l1, if_neg (by omega), valid_eq, Option.bind_some]
    cases va : validB a with
    | false => rw [if_neg (by decide)]; rfl
    | true =>
      rw [if_pos rfl, valid_eq, Option.bind_some]
      cases vb : validB b with
      | false => rw [if_neg (by decide)]; rfl
      | true =>
        obtain ⟨_, a3, a4⟩ := valid_facts va
        obtain ⟨_, b3, b4⟩ := valid_facts vb
        rw [if_pos rfl, text_eq a ha a3 (by omega), Option.bind_some, text_eq b hb b3 (by omega), Option.bind_some, show ((textB a).toList == (textB b).toList) = decide ((textB a).toList = (textB b).toList) from by rw [Bool.eq_iff_iff]; simp]
        simp only [Bool.true_and]
  obtain ⟨K, hK⟩ := order_j3 a b ha (validB a && validB b && (decide ((textB a).toList = (textB b).toList) != decide (a = b))) (fun h => by
    simp only [Bool.and_eq_true, bne_iff_ne, ne_eq] at h
    obtain ⟨⟨va, vb⟩, hne⟩ := h
    have hab : ¬ a = b := fun e => hne (by subst e; simp)
    have ht : (textB a).toList = (textB b).toList := Classical.byContradiction fun e => hne (by rw [decide_eq_false e, decide_eq_false hab])
    obtain ⟨h0, h1⟩ := text_apart a b va vb ht
    exact ⟨h0, fun e => hab (h1 e)⟩)
  refine ⟨K + 2, fun k hk => ?_⟩
  obtain ⟨m, rfl⟩ : ∃ m, k = m + 2 := ⟨k - 2, by omega⟩
  exact (hst m).trans (hK (m + 1) (by omega))
theorem order_l1 (a b : S23) (ha : a.f1.size ≤ 140737488351232) (hb : b.f1.size ≤ 140737488351232) (l s : List S23) (hl : l.length ≤ 20) (hs : s.length ≤ 20) (hm : ∀ x, x ∈ l → x ∈ s) (d : Nat) : ∀ j : Nat, j + d = l.length → Ev (fun k => gristmilllaw14_TagsOrder.l1 k l true (decide (a = b)) s (j : Int) a.f0 a.f1 a.f2 b.f0 b.f1 b.f2) true := by
  induction d with
  | zero => intro j hj; exact order_end a b ha hb l s j (by omega)
  | succ d ih =>
    intro j hj
    have h1 : j < l.length := by omega
    have h2 := has_ev s l[j] (by omega)
    rw [decide_eq_true (hm _ (List.getElem_mem h1))] at h2
    refine Ev.step (f := fun k => (tag_Has.f k s l[j].f0 l[j].f1 l[j].f2).bind fun t => if t = true then gristmilllaw14_TagsOrder.l1 k l true (decide (a = b)) s ((j + 1 : Nat) : Int) a.f0 a.f1 a.f2 b.f0 b.f1 b.f2 else none) (fun k => ?_) (Ev.bind h2 (Ev.congr (fun k => if_pos rfl) (ih (j + 1) (by omega))))
    rw [gristmilllaw14_TagsOrder.l1, if_pos (by omega), if_pos (by omega), rd_get l j h1, w64 j (by omega)]
theorem order_l0 (a b : S23) (ha : a.f1.size ≤ 140737488351232) (hb : b.f1.size ≤ 140737488351232) (l s : List S23) (hl : l.length ≤ 20) (hs : s = setT l) (d : Nat) : ∀ j : Nat, j + d = s.length → Ev (fun k => gristmilllaw14_TagsOrder.l0 k l true (decide (a = b)) s (j : Int) a.f0 a.f1 a.f2 b.f0 b.f1 b.f2) true := by
  have hsl : s.length ≤ 20 := by have := setT_len l; rw [hs]; omega
  have hup : Up s := hs ▸ (setT_spec l).1
  have hmem : ∀ x, x ∈ s ↔ x ∈ l := fun x => by rw [hs]; exact (setT_spec l).2 x
  induction d with
  | zero =>
    intro j hj
    refine Ev.step (f := fun k => gristmilllaw14_TagsOrder.l1 k l true (decide (a = b)) s ((0 : Nat) : Int) a.f0 a.f1 a.f2 b.f0 b.f1 b.f2) (fun k => ?_) (order_l1 a b ha hb l s hl hsl (fun x hx => (hmem x).2 hx) l.length 0 (by omega))
    rw [gristmilllaw14_TagsOrder.l0, if_neg (by omega)]; rfl
  | succ d ih =>
    intro j hj
    have h1 : j < s.length := by omega
    have h2 := has_ev l s[j] (by omega)
    rw [decide_eq_true ((hmem _).1 (List.getElem_mem h1))] at h2
    have hn := Ev.bind h2 (f := fun k t => if t = true then gristmilllaw14_TagsOrder.l0 k l true (decide (a = b)) s ((j + 1 : Nat) : Int) a.f0 a.f1 a.f2 b.f0 b.f1 b.f2 else none) (Ev.congr (fun k => if_pos rfl) (ih (j + 1) (by omega)))
    by_cases h0 : j = 0
    · subst h0
      refine Ev.step (fun k => ?_) hn
      rw [gristmilllaw14_TagsOrder.l0, if_pos (by omega), if_neg (by omega), if_pos (by omega), rd_get s 0 h1, w64 0 (by omega)]
    · obtain ⟨i, rfl⟩ : ∃ i, j = i + 1 := ⟨j - 1, by omega⟩
      have h3 : i < s.length := by omega
      have hw : wrap64 (((i + 1 : Nat) : Int) - 1) = (i : Int) := by unfold wrap64; omega
      have hlt : ltT s[i] s[i + 1] = true := List.pairwise_iff_getElem.1 hup i (i + 1) h3 h1 (by omega)
      have h4 := less_ev s[i] s[i + 1]
      rw [hlt] at h4
      refine Ev.step (fun k => ?_) (Ev.bind h4 (f := fun k t => if t = true then (tag_Has.f k l s[i + 1].f0 s[i + 1].f1 s[i + 1].f2).bind fun t => if t = true then gristmilllaw14_TagsOrder.l0 k l true (decide (a = b)) s ((i + 1 + 1 : Nat) : Int) a.f0 a.f1 a.f2 b.f0 b.f1 b.f2 else none else none) (Ev.congr (fun k => if_pos rfl) hn))
      rw [gristmilllaw14_TagsOrder.l0, if_pos (by omega), if_pos (by omega), hw, if_pos (by omega), if_pos (by omega), if_pos (by omega), rd_get s i h3, rd_get s (i + 1) h1, w64 (i + 1) (by omega)]
theorem order_j0 (a b : S23) (ha : a.f1.size ≤ 140737488351232) (hb : b.f1.size ≤ 140737488351232) (l : List S23) (hl : l.length ≤ 20) : Ev (fun k => gristmilllaw14_TagsOrder.j0 k l true (decide (a = b)) false a.f0 a.f1 a.f2 b.f0 b.f1 b.f2) true := by
  refine Ev.step (fun k => ?_) (order_l0 a b ha hb l (setT l) hl rfl (setT l).length 0 (by omega))
  rw [gristmilllaw14_TagsOrder.j0, if_neg (by decide), set_eq l (by omega), Option.bind_some]; rfl
theorem TagsOrder : ∀ (t0 : S23) (t1 : S23) (t2 : S23) (l3 : List S23), t0.f1.size ≤ 140737488351232 → t1.f1.size ≤ 140737488351232 → t2.f1.size ≤ 140737488351232 → l3.length * 32 ≤ 140737488351232 → ∃ k, PTagsB.gristmilllaw14_TagsOrder.f k t0.f0 t0.f1 t0.f2 t1.f0 t1.f1 t1.f2 t2.f0 t2.f1 t2.f2 l3 = some true := by
  intro a b c l ha hb _ _
  refine Ev.rounds (g := fun k => PTagsB.gristmilllaw14_TagsOrder.f k a.f0 a.f1 a.f2 b.f0 b.f1 b.f2 c.f0 c.f1 c.f2 l) ?_
  unfold gristmilllaw14_TagsOrder.f
  simp only [first_ok, Option.bind_some, if_true]
  by_cases hl : (l.length : Int) > 20
  · exact Ev.congr (fun k => if_pos hl) (Ev.now _)
  · refine Ev.congr (fun k => if_neg hl) ?_
    simp only [sameTag_eq, Option.bind_some]
    have hj := order_j0 a b ha hb l (by omega)
    have hab := less_ev a b
    have hba := less_ev b a
    cases h1 : ltT a b with
    | true =>
      rw [h1] at hab
      rw [asymm _ _ h1] at hba
      have hne : ¬ a = b := fun e => by subst e; rw [irrefl] at h1; cases h1
      rw [decide_eq_false hne] at hj ⊢
      refine Ev.bind hab (Ev.congr (fun k => if_pos rfl) (Ev.bind hba (Ev.congr (fun k => if_neg (by decide)) (Ev.bind hab (Ev.congr (fun k => if_pos rfl) (Ev.congr (fun k => if_neg (by decide)) (Ev.bind hab (Ev.congr (fun k => if_pos rfl) ?_))))))))
      have hbc := less_ev b c
      cases h2 : ltT b c with
      | true =>
        rw [h2] at hbc
        have hac := less_ev a c
        rw [trans _ _ _ h1 h2] at hac
        exact Ev.bind hbc (Ev.congr (fun k => if_pos rfl) (Ev.bind hac hj))
      | false =>
        rw [h2] at hbc
        exact Ev.bind hbc (Ev.congr (fun k => if_neg (by decide)) hj)
    | false =>
      rw [h1] at hab
      refine Ev.bind hab (Ev.congr (fun k => if_neg (by decide)) (Ev.bind hab (Ev.congr (fun k => if_neg (by decide)) (Ev.bind hba (Ev.congr (fun k => if_neg ?_) (Ev.bind hab (Ev.congr (fun k => if_neg (by decide)) hj)))))))
      rcases tri a b with h | h | h
      · rw [h1] at h; cases h
      · subst h; rw [irrefl]; simp
      · rw [h]
        have hne : ¬ a = b := fun e => by subst e; rw [irrefl] at h; cases h
        simp [hne]
end Go.Proofs.YtpmpmgoddgcnjaaDoor.Pure
