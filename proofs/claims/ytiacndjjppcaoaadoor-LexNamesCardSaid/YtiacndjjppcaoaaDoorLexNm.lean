/- What the printed functions of lex.Name, lex.Upper and the reference's come to: plain tests on a text's bytes. No condition but the texts' own sizes. -/
import Derived.Test.YtiacndjjppcaoaaDoorLexSpec
import Derived.Test.YtiacndjjppcaoaaDoorPLexx4
import Derived.Test.YtiacndjjppcaoaaDoorPLexx7
import Derived.Laws.Strings
namespace Go.Proofs.YtiacndjjppcaoaaDoor.LexSpec
open Go.RowKit Go.Proofs.YtiacndjjppcaoaaDoor.PLex Go.Proofs.YtiacndjjppcaoaaDoorW.PrintWords Go.Proofs.YtiacndjjppcaoaaDoorW.PrintLast
set_option linter.unusedVariables false
set_option linter.unusedSimpArgs false

theorem space_eq (c : UInt8) : gristmillref1_space.f (c.toNat : Int) = some (sp c) := apart_eq c
def smI (x : Int) : Bool := decide (97 ≤ x ∧ x ≤ 122)
def grI (x : Int) : Bool := decide (65 ≤ x ∧ x ≤ 90)
def dgI (x : Int) : Bool := decide (48 ≤ x ∧ x ≤ 57)
def ncI (x : Int) : Bool := smI x || grI x || dgI x || decide (x = 95)
def nc (c : UInt8) : Bool := ncI (c.toNat : Int)
theorem small_eq (x : Int) : lex_small.f x = some (smI x) := by
  unfold lex_small.f smI
  by_cases h : x ≥ 97
  · rw [if_pos h]; simp; omega
  · rw [if_neg h]; simp; omega
theorem great_eq (x : Int) : lex_great.f x = some (grI x) := by
  unfold lex_great.f grI
  by_cases h : x ≥ 65
  · rw [if_pos h]; simp; omega
  · rw [if_neg h]; simp; omega
theorem digit_eq (x : Int) : lex_digit.f x = some (dgI x) := by
  unfold lex_digit.f dgI
  by_cases h : x ≥ 48
  · rw [if_pos h]; simp; omega
  · rw [if_neg h]; simp; omega
def restB (s : ByteArray) : Bool := s.data.toList.all nc && decide (s.size ≤ 40)

theorem rest_ev (s : ByteArray) (hs : s.size ≤ 140737488351232) (d : Nat) : ∀ j : Nat, j + d = s.size →
    Ev (fun k => lex_rest.l0 k s (s.size : Int) (j : Int)) ((s.data.toList.drop j).all nc && decide (s.size ≤ 40)) := by
  induction d with
  | zero =>
    intro j hj
    refine Ev.step (f := fun _ => some ((s.data.toList.drop j).all nc && decide (s.size ≤ 40))) (fun k => ?_) (Ev.now _)
    simp only [lex_rest.l0]
    rw [if_neg (by omega), List.drop_eq_nil_of_le (by rw [data_length]; omega)]
    simp
    omega
  | succ d ih =>
    intro j hj
    have hlt : j < s.size := by omega
    have hd := drop_get s j hlt
    have hb := bt_get s j hlt
    have hn := ih (j + 1) (by omega)
    have hw := wrap_in j (by omega)
    generalize hc : s[j] = c at hb hd
    rw [hd, List.all_cons]
    by_cases h1 : smI (c.toNat : Int) = true
    · rw [show nc c = true by simp [nc, ncI, h1], Bool.true_and]
      refine Ev.step (fun k => ?_) hn
      simp only [lex_rest.l0]
      rw [if_pos (by omega), if_pos (by omega), if_pos (by omega), hb, small_eq, Option.bind_some, if_pos h1, hw]
    · by_cases h2 : grI (c.toNat : Int) = true
      · rw [show nc c = true by simp [nc, ncI, h2], Bool.true_and]
        refine Ev.step (fun k => ?_) hn
        simp only [lex_rest.l0]
        rw [if_pos (by omega), if_pos (by omega), if_pos (by omega), hb, small_eq, Option.bind_some, if_neg h1, great_eq, Option.bind_some, if_pos h2, hw]
      · by_cases h3 : dgI (c.toNat : Int) = true
        · rw [show nc c = true by simp [nc, ncI, h3], Bool.true_and]
          refine Ev.step (fun k => ?_) hn
          simp only [lex_rest.l0]
          rw [if_pos (by omega), if_pos (by omega), if_pos (by omega), hb, small_eq, Option.bind_some, if_neg h1, great_eq, Option.bind_some, if_neg h2, digit_eq, Option.bind_some, if_pos h3, hw]
        · by_cases h4 : (c.toNat : Int) = 95
          · rw [show nc c = true by simp only [nc, ncI]; rw [h4]; rfl, Bool.true_and]
            refine Ev.step (fun k => ?_) hn
            simp only [lex_rest.l0]
            rw [if_pos (by omega), if_pos (by omega), if_pos (by omega), hb, small_eq, Option.bind_some, if_neg h1, great_eq, Option.bind_some, if_neg h2, digit_eq, Option.bind_some, if_neg h3, if_pos h4, hw]
          · rw [show nc c = false by simp [nc, ncI, h1, h2, h3, h4], Bool.false_and, Bool.false_and]
            refine Ev.step (f := fun _ => some false) (fun k => ?_) (Ev.now _)
            simp only [lex_rest.l0]
            rw [if_pos (by omega), if_pos (by omega), if_pos (by omega), hb, small_eq, Option.bind_some, if_neg h1, great_eq, Option.bind_some, if_neg h2, digit_eq, Option.bind_some, if_neg h3, if_neg h4]
theorem Rest_ev (s : ByteArray) (hs : s.size ≤ 140737488351232) : Ev (fun k => lex_rest.f k s) (restB s) := rest_ev s hs s.size 0 (by omega)

theorem tail_ev (s : ByteArray) (hs : s.size ≤ 140737488351232) (d : Nat) : ∀ j : Nat, j + d = s.size →
    Ev (fun k => gristmillref1_tail.l0 k s (j : Int)) ((s.data.toList.drop j).all nc && decide (s.size ≤ 40)) := by
  induction d with
  | zero =>
    intro j hj
    refine Ev.step (f := fun _ => some ((s.data.toList.drop j).all nc && decide (s.size ≤ 40))) (fun k => ?_) (Ev.now _)
    simp only [gristmillref1_tail.l0]
    rw [if_neg (by omega), List.drop_eq_nil_of_le (by rw [data_length]; omega)]
    simp
    omega
  | succ d ih =>
    intro j hj
    have hlt : j < s.size := by omega
    have hd := drop_get s j hlt
    have hb := bt_get s j hlt
    have hn := ih (j + 1) (by omega)
    have hw := wrap_in j (by omega)
    generalize hc : s[j] = c at hb hd
    rw [hd, List.all_cons]
    by_cases h1 : nc c = true
    · rw [h1, Bool.true_and]
      refine Ev.step (fun k => ?_) hn
      simp only [nc, ncI, smI, grI, dgI, Bool.or_eq_true, decide_eq_true_eq] at h1
      simp only [gristmillref1_tail.l0]
      rw [if_pos (by omega), if_pos (by omega), hb, hw]
      repeat' split
      all_goals first | rfl | omega
    · rw [show nc c = false by simpa using h1, Bool.false_and, Bool.false_and]
      refine Ev.step (f := fun _ => some false) (fun k => ?_) (Ev.now _)
      simp only [nc, ncI, smI, grI, dgI, Bool.or_eq_true, decide_eq_true_eq] at h1
      simp only [gristmillref1_tail.l0]
      rw [if_pos (by omega), if_pos (by omega), hb, hw]
      repeat' split
      all_goals first | rfl | omega

/-! ### Among words -/
def among (l : List ByteArray) (x : ByteArray) : Bool := l.any fun y => y.data.toList == x.data.toList
theorem among_cons (y : ByteArray) (l : List ByteArray) (x : ByteArray) : among (y :: l) x = (y.data.toList == x.data.toList || among l x) := rfl
theorem index_ev (l : List ByteArray) (x : ByteArray) (hl : l.length ≤ 1000) (d : Nat) : ∀ j : Nat, j + d = l.length →
    ∃ r : Int, Ev (fun k => slices_Index_string_string.l0 k l x (l.length : Int) (j : Int)) r ∧ decide (r ≥ 0) = among (l.drop j) x := by
  induction d with
  | zero =>
    intro j hj
    refine ⟨-1, Ev.step (f := fun _ => some (-1)) (fun k => ?_) (Ev.now _), ?_⟩
    · simp only [slices_Index_string_string.l0]
      rw [if_neg (by omega)]
    · rw [List.drop_eq_nil_of_le (by omega)]; rfl
  | succ d ih =>
    intro j hj
    have hlt : j < l.length := by omega
    obtain ⟨r, hr, hr2⟩ := ih (j + 1) (by omega)
    have hd : l.drop j = l[j] :: l.drop (j + 1) := List.drop_eq_getElem_cons hlt
    have hg : rdOf ByteArray.empty l (j : Int) = l[j] := by simp [rdOf, hlt]
    rw [hd, among_cons]
    by_cases h : l[j].data.toList = x.data.toList
    · refine ⟨(j : Int), Ev.step (f := fun _ => some (j : Int)) (fun k => ?_) (Ev.now _), ?_⟩
      · simp only [slices_Index_string_string.l0]
        rw [if_pos (by omega), if_pos (by omega), if_pos (by omega), hg, if_pos (by rw [ByteArray.toList_eq, ByteArray.toList_eq, h])]
      · simp [h]
    · refine ⟨r, Ev.step (fun k => ?_) hr, ?_⟩
      · simp only [slices_Index_string_string.l0]
        rw [if_pos (by omega), if_pos (by omega), if_pos (by omega), hg, if_neg (by rw [ByteArray.toList_eq, ByteArray.toList_eq]; exact fun e => h e.symm), wrap_in j (by omega)]
      · rw [hr2, beq_eq_false_iff_ne.mpr h, Bool.false_or]
theorem Contains_ev (l : List ByteArray) (x : ByteArray) (hl : l.length ≤ 1000) : Ev (fun k => slices_Contains_string_string.f k l x) (among l x) := by
  obtain ⟨r, hr, hr2⟩ := index_ev l x hl l.length 0 (by omega)
  rw [List.drop_zero] at hr2
  rw [← hr2]
  unfold slices_Contains_string_string.f slices_Index_string_string.f
  exact Ev.bind hr (Ev.now _)
theorem place_ev (l : List ByteArray) (x : ByteArray) (hl : l.length ≤ 1000) (d : Nat) : ∀ j : Nat, j + d = l.length →
    ∃ r : Int, Ev (fun k => gristmillref_Place.l0 k l x (j : Int)) r ∧ decide (r ≥ 0) = among (l.drop j) x := by
  induction d with
  | zero =>
    intro j hj
    refine ⟨-1, Ev.step (f := fun _ => some (-1)) (fun k => ?_) (Ev.now _), ?_⟩
    · simp only [gristmillref_Place.l0]
      rw [if_neg (by omega)]
    · rw [List.drop_eq_nil_of_le (by omega)]; rfl
  | succ d ih =>
    intro j hj
    have hlt : j < l.length := by omega
    obtain ⟨r, hr, hr2⟩ := ih (j + 1) (by omega)
    have hd : l.drop j = l[j] :: l.drop (j + 1) := List.drop_eq_getElem_cons hlt
    have hg : rdOf ByteArray.empty l (j : Int) = l[j] := by simp [rdOf, hlt]
    rw [hd, among_cons]
    by_cases h : l[j].data.toList = x.data.toList
    · refine ⟨(j : Int), Ev.step (f := fun _ => some (j : Int)) (fun k => ?_) (Ev.now _), ?_⟩
      · simp only [gristmillref_Place.l0]
        rw [if_pos (by omega), if_pos (by omega), hg, if_pos (by rw [ByteArray.toList_eq, ByteArray.toList_eq, h])]
      · simp [h]
    · refine ⟨r, Ev.step (fun k => ?_) hr, ?_⟩
      · simp only [gristmillref_Place.l0]
        rw [if_pos (by omega), if_pos (by omega), hg, if_neg (by rw [ByteArray.toList_eq, ByteArray.toList_eq]; exact h), wrap_in j (by omega)]
      · rw [hr2, beq_eq_false_iff_ne.mpr h, Bool.false_or]
theorem Has_ev (l : List ByteArray) (x : ByteArray) (hl : l.length ≤ 1000) : Ev (fun k => gristmillref_Has.f k l x) (among l x) := by
  obtain ⟨r, hr, hr2⟩ := place_ev l x hl l.length 0 (by omega)
  rw [List.drop_zero] at hr2
  rw [← hr2]
  unfold gristmillref_Has.f gristmillref_Place.f
  exact Ev.bind hr (Ev.now _)

/-! ### Names -/
def KEPT : List ByteArray := (([(⟨#[102, 110]⟩ : ByteArray), (⟨#[108, 101, 116]⟩ : ByteArray), (⟨#[99, 97, 115, 101]⟩ : ByteArray), (⟨#[102, 97, 105, 108]⟩ : ByteArray), (⟨#[100, 97, 116, 97]⟩ : ByteArray), (⟨#[100, 101, 102]⟩ : ByteArray), (⟨#[100, 105, 118]⟩ : ByteArray), (⟨#[109, 111, 100]⟩ : ByteArray), (⟨#[102, 108, 111, 97, 116]⟩ : ByteArray), (⟨#[119, 104, 111, 108, 101]⟩ : ByteArray), (⟨#[115, 101, 113]⟩ : ByteArray), (⟨#[105, 110, 102]⟩ : ByteArray), (⟨#[110, 97, 110]⟩ : ByteArray)] : List ByteArray))
def headB (p : Int → Bool) (s : ByteArray) : Bool := match s.data.toList with
  | [] => false
  | c :: _ => p (c.toNat : Int)
def NameB (s : ByteArray) : Bool := headB smI s && restB s && !among KEPT s
def UpperB (s : ByteArray) : Bool := headB grI s && restB s
theorem head_bt (p : Int → Bool) (s : ByteArray) (h : ¬ s.toList = []) : 0 < s.size ∧ headB p s = p (bt s 0) := by
  rw [ByteArray.toList_eq] at h
  have hl := data_length s
  have h0 : 0 < s.size := by
    rcases Nat.eq_zero_or_pos s.size with e | e
    · exact absurd (List.eq_nil_of_length_eq_zero (by omega)) h
    · exact e
  have hb := bt_get s 0 h0
  have hd := drop_get s 0 h0
  rw [List.drop_zero] at hd
  refine ⟨h0, ?_⟩
  unfold headB
  rw [hd]
  simp only
  rw [show ((0 : Nat) : Int) = 0 from rfl] at hb
  rw [hb]
theorem head_nil (p : Int → Bool) (s : ByteArray) (h : s.toList = []) : headB p s = false := by
  rw [ByteArray.toList_eq] at h
  unfold headB
  rw [h]
theorem Name_ev (s : ByteArray) (hs : s.size ≤ 140737488351232) : Ev (fun k => lex_Name.f k s) (NameB s) := by
  unfold lex_Name.f NameB
  by_cases he : s.toList = []
  · simp only [if_pos he, head_nil _ s he, Bool.false_and]
    exact Ev.now _
  · obtain ⟨h0, hh⟩ := head_bt smI s he
    simp only [if_neg he, if_pos (show 0 < (s.size : Int) by omega), small_eq, Option.bind_some, hh]
    by_cases h1 : smI (bt s 0) = true
    · simp only [h1, if_true, Bool.true_and]
      refine Ev.bind (Rest_ev s hs) ?_
      by_cases h2 : restB s = true
      · simp only [h2, if_true, Bool.true_and]
        exact Ev.bind (Contains_ev KEPT s (by decide)) (Ev.now _)
      · simp only [show restB s = false by simpa using h2, Bool.false_and]
        exact Ev.now _
    · simp only [show smI (bt s 0) = false by simpa using h1, Bool.false_and]
      exact Ev.now _
theorem Upper_ev (s : ByteArray) (hs : s.size ≤ 140737488351232) : Ev (fun k => lex_Upper.f k s) (UpperB s) := by
  unfold lex_Upper.f UpperB
  by_cases he : s.toList = []
  · simp only [if_pos he, head_nil _ s he, Bool.false_and]
    exact Ev.now _
  · obtain ⟨h0, hh⟩ := head_bt grI s he
    simp only [if_neg he, if_pos (show 0 < (s.size : Int) by omega), great_eq, Option.bind_some, hh]
    by_cases h1 : grI (bt s 0) = true
    · simp only [h1, if_true, Bool.true_and]
      exact Ev.bind (Rest_ev s hs) (Ev.now _)
    · simp only [show grI (bt s 0) = false by simpa using h1, Bool.false_and]
      exact Ev.now _
theorem tail_rest (s : ByteArray) (h0 : 0 < s.size) (hs : s.size ≤ 140737488351232) (hc : ncI (bt s 0) = true) : Ev (fun k => gristmillref1_tail.f k s) (restB s) := by
  have h := tail_ev s hs (s.size - 1) 1 (by omega)
  have hd := drop_get s 0 h0
  have hb := bt_get s 0 h0
  rw [List.drop_zero] at hd
  rw [show ((0 : Nat) : Int) = 0 from rfl] at hb
  have : restB s = ((s.data.toList.drop 1).all nc && decide (s.size ≤ 40)) := by
    unfold restB
    rw [hd]
    simp only [List.all_cons, List.drop_succ_cons, List.drop_zero]
    rw [show nc s[0] = true by unfold nc; rw [← hb]; exact hc, Bool.true_and]
  rw [this]
  exact h
theorem RName_ev (s : ByteArray) (hs : s.size ≤ 140737488351232) : Ev (fun k => gristmillref1_Name.f k s) (NameB s) := by
  unfold gristmillref1_Name.f NameB
  by_cases he : s.toList = []
  · simp only [if_pos he, head_nil _ s he, Bool.false_and]
    exact Ev.now _
  · obtain ⟨h0, hh⟩ := head_bt smI s he
    simp only [if_neg he, if_pos (show 0 < (s.size : Int) by omega), hh]
    by_cases h1 : bt s 0 ≥ 97
    · by_cases h2 : bt s 0 ≤ 122
      · have h3 : smI (bt s 0) = true := by simp [smI]; omega
        simp only [if_pos h1, if_pos h2, h3, Bool.true_and]
        refine Ev.bind (tail_rest s h0 hs (by simp [ncI, h3])) ?_
        by_cases h4 : restB s = true
        · simp only [h4, if_true, Bool.true_and]
          exact Ev.bind (Has_ev KEPT s (by decide)) (Ev.now _)
        · simp only [show restB s = false by simpa using h4, Bool.false_and]
          exact Ev.now _
      · have h3 : smI (bt s 0) = false := by simp [smI]; omega
        simp only [if_pos h1, if_neg h2, h3, Bool.false_and]
        exact Ev.now _
    · have h3 : smI (bt s 0) = false := by simp [smI]; omega
      simp only [if_neg h1, h3, Bool.false_and]
      exact Ev.now _
theorem RUpper_ev (s : ByteArray) (hs : s.size ≤ 140737488351232) : Ev (fun k => gristmillref1_Upper.f k s) (UpperB s) := by
  unfold gristmillref1_Upper.f UpperB
  by_cases he : s.toList = []
  · simp only [if_pos he, head_nil _ s he, Bool.false_and]
    exact Ev.now _
  · obtain ⟨h0, hh⟩ := head_bt grI s he
    simp only [if_neg he, if_pos (show 0 < (s.size : Int) by omega), hh]
    by_cases h1 : bt s 0 ≥ 65
    · by_cases h2 : bt s 0 ≤ 90
      · have h3 : grI (bt s 0) = true := by simp [grI]; omega
        simp only [if_pos h1, if_pos h2, h3, Bool.true_and]
        exact Ev.bind (tail_rest s h0 hs (by simp [ncI, h3])) (Ev.now _)
      · have h3 : grI (bt s 0) = false := by simp [grI]; omega
        simp only [if_pos h1, if_neg h2, h3, Bool.false_and]
        exact Ev.now _
    · have h3 : grI (bt s 0) = false := by simp [grI]; omega
      simp only [if_neg h1, h3, Bool.false_and]
      exact Ev.now _
end Go.Proofs.YtiacndjjppcaoaaDoor.LexSpec
