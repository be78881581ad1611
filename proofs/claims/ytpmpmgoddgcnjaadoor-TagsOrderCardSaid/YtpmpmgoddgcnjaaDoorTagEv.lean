/- What the printed functions over tags answer: order, likeness, sets, texts. No condition but sizes. -/
import Derived.Test.YtpmpmgoddgcnjaaDoorTagSet
import Derived.Test.YtpmpmgoddgcnjaaDoorPTagsBx6
namespace Go.Proofs.YtpmpmgoddgcnjaaDoor.TagEv
open Go.RowKit Go.Proofs.YtpmpmgoddgcnjaaDoor.PTagsB Go.Proofs.YtpmpmgoddgcnjaaDoor.TagOrd Go.Proofs.YtpmpmgoddgcnjaaDoor.TagSet Go.Proofs.YtpmpmgoddgcnjaaDoor.ExtT Go.Proofs.YtpmpmgoddgcnjaaDoorW.PrintWords Go.Proofs.YtpmpmgoddgcnjaaDoorW.PrintLast
open Go.Proofs.YtpmpmgoddgcnjaaDoor.Compact (toList_inj)
set_option linter.unusedVariables false
set_option linter.unusedSimpArgs false
theorem w64 (i : Nat) (h : i < 140737488355328) : wrap64 ((i : Int) + 1) = ((i + 1 : Nat) : Int) := by unfold wrap64; omega
theorem rd_get (l : List S23) (j : Nat) (h : j < l.length) : rd_T23 l (j : Int) = l[j] := by simp [rd_T23, h]
/-! ### Order -/
theorem cmpI_eq (a b : Int) : cmp_Compare_int.f a b = some (TagOrd.cmpI a b) := by
  unfold cmp_Compare_int.f cmp_isNaN_int.f TagOrd.cmpI
  simp only [Option.bind_some, bne_self_eq_false, Bool.false_eq_true, if_false]
  by_cases h : a < b
  · rw [if_pos h, if_pos h]
  · rw [if_neg h, if_neg h]
    by_cases h' : b < a
    · rw [if_pos h', if_pos h']
    · rw [if_neg h', if_neg h']
theorem cmpS_eq (a b : ByteArray) : ExtT.cmp_Compare_string.f a b = some (TagOrd.cmpS a b) := ExtT.cmpS_eq a b
theorem or_eq (k : Nat) (x y z : Int) : cmp_Or_int.f (k + 4) [x, y, z] = some (TagOrd.or3 x y z) := by
  unfold cmp_Or_int.f TagOrd.or3
  simp only [cmp_Or_int.l0]
  have w0 : wrap64 (0 + 1) = 1 := by unfold wrap64; omega
  have w1 : wrap64 (1 + 1) = 2 := by unfold wrap64; omega
  have w2 : wrap64 (2 + 1) = 3 := by unfold wrap64; omega
  have r0 : rd [x, y, z] 0 = x := rfl
  have r1 : rd [x, y, z] 1 = y := rfl
  have r2 : rd [x, y, z] 2 = z := rfl
  have l3 : (([x, y, z].length : Nat) : Int) = 3 := rfl
  rw [l3, if_pos (by decide), if_pos (by decide), if_pos (by decide), r0, w0]
  by_cases hx : x = 0
  · rw [if_pos hx, if_pos (by decide), if_pos (by decide), if_pos (by decide), r1, w1]
    by_cases hy : y = 0
    · rw [if_pos hy, if_pos (by decide), if_pos (by decide), if_pos (by decide), r2, w2]
      by_cases hz : z = 0
      · rw [if_pos hz, if_neg (by decide)]
        simp [hx, hy, hz]
      · rw [if_neg hz]
        simp [hx, hy]
    · rw [if_neg hy]
      simp [hx, hy]
  · rw [if_neg hx]
    simp [hx]
theorem less_eq (k : Nat) (a b : S23) : tag_Less.f (k + 4) a.f0 a.f1 a.f2 b.f0 b.f1 b.f2 = some (ltT a b) := by
  unfold tag_Less.f tag_compare.f
  rw [cmpI_eq, Option.bind_some, cmpS_eq, Option.bind_some, cmpI_eq, Option.bind_some, or_eq]
  rfl
theorem less_ev (a b : S23) : Ev (fun k => tag_Less.f k a.f0 a.f1 a.f2 b.f0 b.f1 b.f2) (ltT a b) := ⟨4, fun k hk => by
  obtain ⟨m, rfl⟩ : ∃ m, k = m + 4 := ⟨k - 4, by omega⟩
  exact less_eq m a b⟩
theorem lessTag_eq (a b : S23) : gristmillref14_LessTag.f a.f0 a.f1 a.f2 b.f0 b.f1 b.f2 = some (ltT a b) := by
  unfold gristmillref14_LessTag.f
  by_cases h0 : a.f0 = b.f0
  · rw [if_pos h0]
    by_cases h1 : a.f1.toList = b.f1.toList
    · rw [if_pos h1]
      congr 1
      rw [Bool.eq_iff_iff, lt_iff, decide_eq_true_eq]
      constructor
      · intro h; exact .inr ⟨h0, .inr ⟨toList_inj h1, h⟩⟩
      · rintro (h | ⟨_, h | ⟨_, h⟩⟩)
        · omega
        · rw [h1] at h; exact absurd h (List.lt_irrefl _)
        · exact h
    · rw [if_neg h1]
      congr 1
      rw [Bool.eq_iff_iff, lt_iff, bl_iff]
      constructor
      · intro h; exact .inr ⟨h0, .inl h⟩
      · rintro (h | ⟨_, h | ⟨h, _⟩⟩)
        · omega
        · exact h
        · exact absurd (by rw [h]) h1
  · rw [if_neg h0]
    congr 1
    rw [Bool.eq_iff_iff, lt_iff, decide_eq_true_eq]
    constructor
    · intro h; exact .inl h
    · rintro (h | ⟨h, _⟩)
      · exact h
      · exact absurd h h0
theorem same_iff (a b : S23) : (a.f0 = b.f0 ∧ a.f1.toList = b.f1.toList ∧ a.f2 = b.f2) ↔ a = b := by
  constructor
  · rintro ⟨h0, h1, h2⟩
    have := toList_inj h1
    cases a; cases b
    simp_all
  · rintro rfl
    exact ⟨rfl, rfl, rfl⟩
theorem sameTag_eq (a b : S23) : gristmillref_SameTag.f a.f0 a.f1 a.f2 b.f0 b.f1 b.f2 = some (decide (a = b)) := by
  have h := same_iff a b
  unfold gristmillref_SameTag.f
  by_cases h0 : a.f0 = b.f0
  · rw [if_pos h0]
    by_cases h1 : a.f1.toList = b.f1.toList
    · rw [if_pos h1]
      congr 1
      rw [Bool.eq_iff_iff, beq_iff_eq, decide_eq_true_eq, ← h]
      exact ⟨fun x => ⟨h0, h1, x⟩, fun x => x.2.2⟩
    · rw [if_neg h1, decide_eq_false]
      exact fun e => h1 (h.2 e).2.1
  · rw [if_neg h0, decide_eq_false]
    exact fun e => h0 (h.2 e).1
/-! ### Likeness of lists -/
theorem sames_ev (a b : List S23) (hl : a.length = b.length) (ha : a.length ≤ 140737488351232) (d : Nat) : ∀ j : Nat, j + d = a.length → Ev (fun k => gristmillref_SameTags.l0 k a b (j : Int)) (decide (a.drop j = b.drop j)) := by
  induction d with
  | zero =>
    intro j hj
    rw [List.drop_eq_nil_of_le (by omega), List.drop_eq_nil_of_le (by omega)]
    refine Ev.step (f := fun _ => some true) (fun k => ?_) (Ev.now _)
    simp only [gristmillref_SameTags.l0]
    rw [if_neg (by omega)]
  | succ d ih =>
    intro j hj
    have h1 : j < a.length := by omega
    have h2 : j < b.length := by omega
    rw [List.drop_eq_getElem_cons h1, List.drop_eq_getElem_cons h2]
    have hh : ∀ k, gristmillref_SameTags.l0 (k + 1) a b (j : Int) = if decide (a[j] = b[j]) = true then gristmillref_SameTags.l0 k a b ((j + 1 : Nat) : Int) else some false := fun k => by
      simp only [gristmillref_SameTags.l0]
      rw [if_pos (by omega), if_pos (by omega), if_pos (by omega), rd_get a j h1, rd_get b j h2, sameTag_eq, Option.bind_some, w64 j (by omega)]
    by_cases e : a[j] = b[j]
    · have := ih (j + 1) (by omega)
      rw [show decide (a[j] :: a.drop (j + 1) = b[j] :: b.drop (j + 1)) = decide (a.drop (j + 1) = b.drop (j + 1)) from decide_eq_decide.2 ⟨fun x => (List.cons.inj x).2, fun x => by rw [e, x]⟩]
      exact Ev.step (fun k => by rw [hh k, if_pos (by simpa using e)]) this
    · rw [decide_eq_false (by intro x; exact e (List.cons.inj x).1)]
      exact Ev.step (f := fun _ => some false) (fun k => by rw [hh k, if_neg (by simpa using e)]) (Ev.now _)
theorem sameTags_ev (a b : List S23) (ha : a.length ≤ 140737488351232) : Ev (fun k => gristmillref_SameTags.f k a b) (decide (a = b)) := by
  unfold gristmillref_SameTags.f
  by_cases h : (a.length : Int) = (b.length : Int)
  · have := sames_ev a b (by omega) ha a.length 0 (by omega)
    simp only [List.drop_zero] at this
    exact Ev.congr (fun k => if_pos h) this
  · rw [decide_eq_false (fun e => h (by rw [e]))]
    exact Ev.congr (fun k => if_neg h) (Ev.now _)
/-! ### Is one among others? -/
theorem hasl_ev (l : List S23) (t : S23) (hl : l.length ≤ 140737488351232) (d : Nat) : ∀ j : Nat, j + d = l.length →
    ∃ r : Int, Ev (fun k => api_Tag_39.l0 k l (l.length : Int) (j : Int) t.f0 t.f1 t.f2) r ∧ decide (r ≥ 0) = decide (t ∈ l.drop j) := by
  induction d with
  | zero =>
    intro j hj
    refine ⟨-1, Ev.step (f := fun _ => some (-1)) (fun k => ?_) (Ev.now _), ?_⟩
    · simp only [api_Tag_39.l0]
      rw [if_neg (by omega)]
    · rw [List.drop_eq_nil_of_le (by omega)]; simp
  | succ d ih =>
    intro j hj
    have h1 : j < l.length := by omega
    obtain ⟨r, hr, hr2⟩ := ih (j + 1) (by omega)
    rw [List.drop_eq_getElem_cons h1]
    have hc : (t.f0 == l[j].f0 && (t.f1.toList == l[j].f1.toList && (t.f2 == l[j].f2))) = decide (t = l[j]) := by
      rw [Bool.eq_iff_iff, decide_eq_true_eq, ← same_iff]
      simp
    by_cases e : t = l[j]
    · refine ⟨(j : Int), Ev.step (f := fun _ => some (j : Int)) (fun k => ?_) (Ev.now _), ?_⟩
      · simp only [api_Tag_39.l0]
        rw [if_pos (by omega), if_pos (by omega), if_pos (by omega), rd_get l j h1, hc, if_pos (by simpa using e)]
      · exact (decide_eq_true (by omega)).trans (decide_eq_true (List.mem_cons.2 (.inl e))).symm
    · refine ⟨r, Ev.step (fun k => ?_) hr, ?_⟩
      · simp only [api_Tag_39.l0]
        rw [if_pos (by omega), if_pos (by omega), if_pos (by omega), rd_get l j h1, hc, if_neg (by simpa using e), w64 j (by omega)]
      · rw [hr2]; exact decide_eq_decide.2 ⟨fun x => List.mem_cons_of_mem _ x, fun x => (List.mem_cons.1 x).resolve_left e⟩
theorem has_ev (l : List S23) (t : S23) (hl : l.length ≤ 140737488351232) : Ev (fun k => tag_Has.f k l t.f0 t.f1 t.f2) (decide (t ∈ l)) := by
  obtain ⟨r, hr, hr2⟩ := hasl_ev l t hl l.length 0 (by omega)
  rw [List.drop_zero] at hr2
  rw [← hr2]
  unfold tag_Has.f api_Tag_31.f api_Tag_39.f
  exact Ev.bind (Ev.bind hr (Ev.now _)) (Ev.now _)
theorem hast_ev (l : List S23) (t : S23) (hl : l.length ≤ 140737488351232) (d : Nat) : ∀ j : Nat, j + d = l.length → Ev (fun k => gristmillref14_HasTag.l0 k l (j : Int) t.f0 t.f1 t.f2) (decide (t ∈ l.drop j)) := by
  induction d with
  | zero =>
    intro j hj
    rw [List.drop_eq_nil_of_le (by omega)]
    refine Ev.step (f := fun _ => some false) (fun k => ?_) (by simpa using Ev.now false)
    simp only [gristmillref14_HasTag.l0]
    rw [if_neg (by omega)]
  | succ d ih =>
    intro j hj
    have h1 : j < l.length := by omega
    rw [List.drop_eq_getElem_cons h1]
    by_cases e : l[j] = t
    · rw [decide_eq_true (by rw [e]; exact List.mem_cons_self)]
      refine Ev.step (f := fun _ => some true) (fun k => ?_) (Ev.now _)
      simp only [gristmillref14_HasTag.l0]
      rw [if_pos (by omega), if_pos (by omega), rd_get l j h1, sameTag_eq, Option.bind_some, if_pos (by simpa using e)]
    · have := ih (j + 1) (by omega)
      rw [show decide (t ∈ l[j] :: l.drop (j + 1)) = decide (t ∈ l.drop (j + 1)) from decide_eq_decide.2 ⟨fun x => (List.mem_cons.1 x).resolve_left (Ne.symm e), List.mem_cons_of_mem _⟩]
      refine Ev.step (fun k => ?_) this
      simp only [gristmillref14_HasTag.l0]
      rw [if_pos (by omega), if_pos (by omega), rd_get l j h1, sameTag_eq, Option.bind_some, if_neg (by simpa using e), w64 j (by omega)]
theorem hasTag_ev (l : List S23) (t : S23) (hl : l.length ≤ 140737488351232) : Ev (fun k => gristmillref14_HasTag.f k l t.f0 t.f1 t.f2) (decide (t ∈ l)) := by
  have := hast_ev l t hl l.length 0 (by omega)
  rw [List.drop_zero] at this
  exact this
/-! ### Sets -/
theorem tags_eq (l : List S23) (h : l.length * 32 ≤ 140737488355328) : gristmillref_Tags.f l = some l := if_pos h
theorem set_eq (l : List S23) (h : l.length * 32 ≤ 140737488355328) : tag_Set.f l = some (setT l) := if_pos h
theorem put_ev (l : List S23) (t : S23) (hl : l.length ≤ 1000000) (d : Nat) : ∀ j : Nat, j + d = l.length → Ev (fun k => gristmillref14_PutTag.l0 k l (j : Int) t.f0 t.f1 t.f2) (l.take j ++ ins t (l.drop j)) := by
  have j2f : ∀ (k j : Nat), j ≤ l.length → gristmillref14_PutTag.j2 (k + 1) l (j : Int) false t.f0 t.f1 t.f2 = some (l.take j ++ t :: l.drop j) := fun k j hj => by
    simp only [gristmillref14_PutTag.j2]
    rw [if_neg (by decide), if_pos (by omega), if_pos (by omega), Int.toNat_natCast, tags_eq _ (by rw [List.length_take]; omega)]
    simp only [Option.bind_some]
    rw [if_pos (by rw [List.length_take]; simp; omega), if_pos (by simp only [List.length_append, List.length_take, List.length_drop, List.length_cons, List.length_nil]; omega)]
    simp
  induction d with
  | zero =>
    intro j hj
    rw [List.drop_eq_nil_of_le (by omega)]
    refine Ev.step (f := fun k => gristmillref14_PutTag.j1 k l (j : Int) t.f0 t.f1 t.f2) (fun k => ?_) (Ev.step (f := fun k => gristmillref14_PutTag.j2 k l (j : Int) false t.f0 t.f1 t.f2) (fun k => ?_) (Ev.step (f := fun _ => _) (fun k => ?_) (Ev.now _)))
    · simp only [gristmillref14_PutTag.l0]; rw [if_neg (by omega)]
    · simp only [gristmillref14_PutTag.j1]; rw [if_neg (by omega)]
    · rw [j2f k j (by omega), List.drop_eq_nil_of_le (by omega)]; rfl
  | succ d ih =>
    intro j hj
    have h1 : j < l.length := by omega
    have hd : l.drop j = l[j] :: l.drop (j + 1) := List.drop_eq_getElem_cons h1
    by_cases hlt : ltT l[j] t = true
    · have := ih (j + 1) (by omega)
      have e : l.take j ++ ins t (l.drop j) = l.take (j + 1) ++ ins t (l.drop (j + 1)) := by
        rw [hd, ins, if_pos hlt, List.take_add_one, List.getElem?_eq_getElem h1, Option.toList_some, List.append_assoc]
        rfl
      rw [e]
      refine Ev.step (fun k => ?_) this
      simp only [gristmillref14_PutTag.l0]
      rw [if_pos (by omega), if_pos (by omega), rd_get l j h1, lessTag_eq, Option.bind_some, if_pos hlt, w64 j (by omega)]
    · refine Ev.step (f := fun k => gristmillref14_PutTag.j1 k l (j : Int) t.f0 t.f1 t.f2) (fun k => ?_) ?_
      · simp only [gristmillref14_PutTag.l0]
        rw [if_pos (by omega), if_pos (by omega), rd_get l j h1, lessTag_eq, Option.bind_some, if_neg hlt]
      · refine Ev.step (f := fun k => gristmillref14_PutTag.j2 k l (j : Int) (decide (l[j] = t)) t.f0 t.f1 t.f2) (fun k => ?_) ?_
        · simp only [gristmillref14_PutTag.j1]
          rw [if_pos (by omega), if_pos (by omega), rd_get l j h1, sameTag_eq, Option.bind_some]
        · by_cases e : l[j] = t
          · have e2 : l.take j ++ ins t (l.drop j) = l := by
              rw [hd, ins, if_neg hlt, if_pos e, ← hd, List.take_append_drop]
            rw [e2, decide_eq_true e]
            refine Ev.step (f := fun _ => some l) (fun k => ?_) (Ev.now _)
            simp only [gristmillref14_PutTag.j2]
            rw [if_pos trivial, tags_eq l (by omega)]
            rfl
          · rw [decide_eq_false e]
            refine Ev.step (f := fun _ => _) (fun k => ?_) (Ev.now _)
            rw [j2f k j (by omega)]
            rw [hd, ins, if_neg hlt, if_neg e]
theorem putTag_ev (l : List S23) (t : S23) (hl : l.length ≤ 1000000) : Ev (fun k => gristmillref14_PutTag.f k l t.f0 t.f1 t.f2) (ins t l) := by
  have := put_ev l t hl l.length 0 (by omega)
  rw [List.take_zero, List.drop_zero, List.nil_append] at this
  exact this
theorem setTags_l (l : List S23) (hl : l.length ≤ 100000) (d : Nat) : ∀ (j : Nat) (s : List S23), j + d = l.length → Up s → (∀ x, x ∈ s ↔ x ∈ l.take j) → s.length ≤ j → Ev (fun k => gristmillref14_SetTags.l0 k l s (j : Int)) (setT l) := by
  induction d with
  | zero =>
    intro j s hj hs hm _
    rw [setT_eq hs (by rw [List.take_of_length_le (by omega)] at hm; exact hm)]
    refine Ev.step (f := fun _ => some s) (fun k => ?_) (Ev.now _)
    simp only [gristmillref14_SetTags.l0]
    rw [if_neg (by omega)]
  | succ d ih =>
    intro j s hj hs hm hsl
    have h1 : j < l.length := by omega
    have hp := putTag_ev s l[j] (by omega)
    have hn := ih (j + 1) (ins l[j] s) (by omega) (ins_up _ _ hs) (fun x => by
      rw [ins_mem, hm, List.take_add_one, List.getElem?_eq_getElem h1]
      simp only [Option.toList_some, List.mem_append, List.mem_singleton]
      exact or_comm) (by have := ins_len l[j] s; omega)
    refine Ev.step (f := fun k => (gristmillref14_PutTag.f k s l[j].f0 l[j].f1 l[j].f2).bind fun t => gristmillref14_SetTags.l0 k l t ((j + 1 : Nat) : Int)) (fun k => ?_) (Ev.bind hp hn)
    simp only [gristmillref14_SetTags.l0]
    rw [if_pos (by omega), if_pos (by omega), rd_get l j h1, w64 j (by omega)]
theorem setTags_ev (l : List S23) (hl : l.length ≤ 100000) : Ev (fun k => gristmillref14_SetTags.f k l) (setT l) :=
  setTags_l l hl l.length 0 [] (by omega) List.Pairwise.nil (by simp) (Nat.le_refl _)
/-! ### Texts -/
theorem lit_toList (l : List UInt8) : (⟨l.toArray⟩ : ByteArray).toList = l := ByteArray.toList_mk l
theorem dec_size (n : Nat) : (⟨(Lib.decDigits n).toArray⟩ : ByteArray).size = (Lib.decDigits n).length := rfl
theorem itoa_eq (n : Int) (h0 : 0 ≤ n) (h1 : n < 100) : ExtT.strconv_Itoa.f n = some (⟨(Lib.decDigits n.toNat).toArray⟩ : ByteArray) := by
  show Ext.strconv_Itoa.f n = _
  unfold Ext.strconv_Itoa.f
  rw [if_pos h0, if_pos h1]
def letterB (kind : Int) : ByteArray := if kind = 1 then ⟨#[67]⟩ else if kind = 2 then ⟨#[70]⟩ else if kind = 3 then ⟨#[80]⟩ else if kind = 4 then ⟨#[65]⟩ else if kind = 5 then ⟨#[73]⟩ else if kind = 6 then ⟨#[68]⟩ else ⟨#[]⟩
theorem letter_eq (kind : Int) : tag_letter.f kind = some (letterB kind) := by
  unfold tag_letter.f letterB
  repeat' split
  all_goals rfl
theorem letter_size (kind : Int) : (letterB kind).size ≤ 1 := by
  unfold letterB
  repeat' split
  all_goals decide
def textB (t : S23) : ByteArray := ((letterB t.f0 ++ t.f1) ++ (⟨#[47]⟩ : ByteArray)) ++ (⟨(Lib.decDigits t.f2.toNat).toArray⟩ : ByteArray)
theorem text_eq (t : S23) (hs : t.f1.size ≤ 140737488351232) (h0 : 0 ≤ t.f2) (h1 : t.f2 < 100) : tag_Text.f t.f0 t.f1 t.f2 = some (textB t) := by
  unfold tag_Text.f textB
  have a := letter_size t.f0
  have b : (⟨(Lib.decDigits t.f2.toNat).toArray⟩ : ByteArray).size ≤ 2 := dec_len t.f2.toNat (by omega)
  have c : (⟨#[47]⟩ : ByteArray).size = 1 := rfl
  rw [letter_eq, Option.bind_some, if_pos (by omega), if_pos (by simp only [ByteArray.size_append]; omega), itoa_eq _ h0 h1, Option.bind_some, if_pos (by simp only [ByteArray.size_append]; omega)]
theorem first_ok : gristmilllaw14_first.f = some true := by
  unfold gristmilllaw14_first.f
  rw [show tag_Text.f 4 (⟨#[]⟩ : ByteArray) 2 = some (textB ⟨4, ⟨#[]⟩, 2⟩) from text_eq ⟨4, ⟨#[]⟩, 2⟩ (by decide) (by decide) (by decide), Option.bind_some]
  have e : (textB ⟨4, ⟨#[]⟩, 2⟩).toList = [65, 47, 50] := by
    rw [ByteArray.toList_eq]
    unfold textB
    simp [ByteArray.data_append, letterB, Lib.decDigits]
  rw [e]
  rfl
end Go.Proofs.YtpmpmgoddgcnjaaDoor.TagEv
