/- A text of as many bytes as may be is read, one more is told; a name as long as may be is one, one byte more is none: the pure law of LexMany, for every whole number. -/
import Derived.Test.YtiacndjjppcaoaaDoorPLexNx3
import Derived.Laws.Strings
import Derived.OpenShut
import Derived.KernelRfl
namespace Go.Proofs.YtiacndjjppcaoaaDoor.Pure
open Go.RowKit Go.Proofs.YtiacndjjppcaoaaDoor.PLexN Go.Proofs.YtiacndjjppcaoaaDoorW.PrintWords Go.Proofs.YtiacndjjppcaoaaDoorW.PrintLast Go.Proofs.YtiacndjjppcaoaaDoor.ExtS
set_option linter.unusedVariables false
set_option linter.unusedSimpArgs false
namespace M
theorem ceq (c d : UInt8) : ((c.toNat : Int) = (d.toNat : Int)) ↔ c = d := by
  constructor
  · intro h
    exact UInt8.toNat_inj.mp (by omega)
  · rintro rfl
    rfl

theorem bt_get (s : ByteArray) (i : Nat) (h : i < s.size) : bt s (i : Int) = ((s[i]'h).toNat : Int) := by
  unfold bt
  rw [dif_pos (by simpa using h)]
  rfl

theorem drop_get (s : ByteArray) (i : Nat) (h : i < s.size) : s.data.toList.drop i = s[i] :: s.data.toList.drop (i + 1) := by
  rw [List.drop_eq_getElem_cons (by simpa using h)]
  rfl

theorem wrap_in (i : Nat) (h : i ≤ 140737488351232) : wrap64 ((i : Int) + 1) = ((i + 1 : Nat) : Int) := by
  unfold wrap64
  omega

theorem data_length (s : ByteArray) : s.data.toList.length = s.size := by rw [Array.length_toList]; rfl

def sp (c : UInt8) : Bool := c == 32 || c == 9 || c == 10 || c == 13

theorem apart_eq (c : UInt8) : lex_apart.f (c.toNat : Int) = some (sp c) := by
  have e (d : UInt8) : ((c.toNat : Int) = (d.toNat : Int)) = (c = d) := propext (ceq c d)
  have e1 := e 32; have e2 := e 9; have e3 := e 10; have e4 := e 13
  simp only [lex_apart.f, sp]
  rw [show (32 : Int) = ((32 : UInt8).toNat : Int) from rfl, show (9 : Int) = ((9 : UInt8).toNat : Int) from rfl, show (10 : Int) = ((10 : UInt8).toNat : Int) from rfl, show (13 : Int) = ((13 : UInt8).toNat : Int) from rfl]
  by_cases h1 : c = 32
  · simp [h1]
  · by_cases h2 : c = 9
    · simp [h2]
    · by_cases h3 : c = 10
      · simp [h3]
      · by_cases h4 : c = 13
        · simp [h4]
        · have n1 : ¬ (c.toNat : Int) = ((32 : UInt8).toNat : Int) := by rw [e1]; exact h1
          have n2 : ¬ (c.toNat : Int) = ((9 : UInt8).toNat : Int) := by rw [e2]; exact h2
          have n3 : ¬ (c.toNat : Int) = ((10 : UInt8).toNat : Int) := by rw [e3]; exact h3
          have n4 : ¬ (c.toNat : Int) = ((13 : UInt8).toNat : Int) := by rw [e4]; exact h4
          rw [if_neg n1, if_neg n2, if_neg n3, beq_eq_false_iff_ne.mpr n4]
          simp [h1, h2, h3, h4]

def smI (x : Int) : Bool := decide (97 ≤ x ∧ x ≤ 122)

def grI (x : Int) : Bool := decide (65 ≤ x ∧ x ≤ 90)

def dgI (x : Int) : Bool := decide (48 ≤ x ∧ x ≤ 57)

def ncI (x : Int) : Bool := smI x || grI x || dgI x || decide (x = 95)

def nc (c : UInt8) : Bool := ncI (c.toNat : Int)

theorem small_eq (x : Int) : lex_small.f x = some (smI x) := by
  unfold lex_small.f smI
  by_cases h : x ≥ 97
  · rw [if_pos h]; simp; omega
  · rw [if_neg h]; simp; omega

theorem great_eq (x : Int) : lex_great.f x = some (grI x) := by
  unfold lex_great.f grI
  by_cases h : x ≥ 65
  · rw [if_pos h]; simp; omega
  · rw [if_neg h]; simp; omega

theorem digit_eq (x : Int) : lex_digit.f x = some (dgI x) := by
  unfold lex_digit.f dgI
  by_cases h : x ≥ 48
  · rw [if_pos h]; simp; omega
  · rw [if_neg h]; simp; omega

def restB (s : ByteArray) : Bool := s.data.toList.all nc && decide (s.size ≤ 40)


theorem rest_ev (s : ByteArray) (hs : s.size ≤ 140737488351232) (d : Nat) : ∀ j : Nat, j + d = s.size →
    Ev (fun k => lex_rest.l0 k s (s.size : Int) (j : Int)) ((s.data.toList.drop j).all nc && decide (s.size ≤ 40)) := by
  induction d with
  | zero =>
    intro j hj
    refine Ev.step (f := fun _ => some ((s.data.toList.drop j).all nc && decide (s.size ≤ 40))) (fun k => ?_) (Ev.now _)
    simp only [lex_rest.l0]
    rw [if_neg (by omega), List.drop_eq_nil_of_le (by rw [data_length]; omega)]
    simp
    omega
  | succ d ih =>
    intro j hj
    have hlt : j < s.size := by omega
    have hd := drop_get s j hlt
    have hb := bt_get s j hlt
    have hn := ih (j + 1) (by omega)
    have hw := wrap_in j (by omega)
    generalize hc : s[j] = c at hb hd
    rw [hd, List.all_cons]
    by_cases h1 : smI (c.toNat : Int) = true
    · rw [show nc c = true by simp [nc, ncI, h1], Bool.true_and]
      refine Ev.step (fun k => ?_) hn
      simp only [lex_rest.l0]
      rw [if_pos (by omega), if_pos (by omega), if_pos (by omega), hb, small_eq, Option.bind_some, if_pos h1, hw]
    · by_cases h2 : grI (c.toNat : Int) = true
      · rw [show nc c = true by simp [nc, ncI, h2], Bool.true_and]
        refine Ev.step (fun k => ?_) hn
        simp only [lex_rest.l0]
        rw [if_pos (by omega), if_pos (by omega), if_pos (by omega), hb, small_eq, Option.bind_some, if_neg h1, great_eq, Option.bind_some, if_pos h2, hw]
      · by_cases h3 : dgI (c.toNat : Int) = true
        · rw [show nc c = true by simp [nc, ncI, h3], Bool.true_and]
          refine Ev.step (fun k => ?_) hn
          simp only [lex_rest.l0]
          rw [if_pos (by omega), if_pos (by omega), if_pos (by omega), hb, small_eq, Option.bind_some, if_neg h1, great_eq, Option.bind_some, if_neg h2, digit_eq, Option.bind_some, if_pos h3, hw]
        · by_cases h4 : (c.toNat : Int) = 95
          · rw [show nc c = true by simp only [nc, ncI]; rw [h4]; rfl, Bool.true_and]
            refine Ev.step (fun k => ?_) hn
            simp only [lex_rest.l0]
            rw [if_pos (by omega), if_pos (by omega), if_pos (by omega), hb, small_eq, Option.bind_some, if_neg h1, great_eq, Option.bind_some, if_neg h2, digit_eq, Option.bind_some, if_neg h3, if_pos h4, hw]
          · rw [show nc c = false by simp [nc, ncI, h1, h2, h3, h4], Bool.false_and, Bool.false_and]
            refine Ev.step (f := fun _ => some false) (fun k => ?_) (Ev.now _)
            simp only [lex_rest.l0]
            rw [if_pos (by omega), if_pos (by omega), if_pos (by omega), hb, small_eq, Option.bind_some, if_neg h1, great_eq, Option.bind_some, if_neg h2, digit_eq, Option.bind_some, if_neg h3, if_neg h4]

theorem Rest_ev (s : ByteArray) (hs : s.size ≤ 140737488351232) : Ev (fun k => lex_rest.f k s) (restB s) := rest_ev s hs s.size 0 (by omega)


def among (l : List ByteArray) (x : ByteArray) : Bool := l.any fun y => y.data.toList == x.data.toList

theorem among_cons (y : ByteArray) (l : List ByteArray) (x : ByteArray) : among (y :: l) x = (y.data.toList == x.data.toList || among l x) := rfl

theorem index_ev (l : List ByteArray) (x : ByteArray) (hl : l.length ≤ 1000) (d : Nat) : ∀ j : Nat, j + d = l.length →
    ∃ r : Int, Ev (fun k => slices_Index_string_string.l0 k l x (l.length : Int) (j : Int)) r ∧ decide (r ≥ 0) = among (l.drop j) x := by
  induction d with
  | zero =>
    intro j hj
    refine ⟨-1, Ev.step (f := fun _ => some (-1)) (fun k => ?_) (Ev.now _), ?_⟩
    · simp only [slices_Index_string_string.l0]
      rw [if_neg (by omega)]
    · rw [List.drop_eq_nil_of_le (by omega)]; rfl
  | succ d ih =>
    intro j hj
    have hlt : j < l.length := by omega
    obtain ⟨r, hr, hr2⟩ := ih (j + 1) (by omega)
    have hd : l.drop j = l[j] :: l.drop (j + 1) := List.drop_eq_getElem_cons hlt
    have hg : rdOf ByteArray.empty l (j : Int) = l[j] := by simp [rdOf, hlt]
    rw [hd, among_cons]
    by_cases h : l[j].data.toList = x.data.toList
    · refine ⟨(j : Int), Ev.step (f := fun _ => some (j : Int)) (fun k => ?_) (Ev.now _), ?_⟩
      · simp only [slices_Index_string_string.l0]
        rw [if_pos (by omega), if_pos (by omega), if_pos (by omega), hg, if_pos (by rw [ByteArray.toList_eq, ByteArray.toList_eq, h])]
      · simp [h]
    · refine ⟨r, Ev.step (fun k => ?_) hr, ?_⟩
      · simp only [slices_Index_string_string.l0]
        rw [if_pos (by omega), if_pos (by omega), if_pos (by omega), hg, if_neg (by rw [ByteArray.toList_eq, ByteArray.toList_eq]; exact fun e => h e.symm), wrap_in j (by omega)]
      · rw [hr2, beq_eq_false_iff_ne.mpr h, Bool.false_or]

theorem Contains_ev (l : List ByteArray) (x : ByteArray) (hl : l.length ≤ 1000) : Ev (fun k => slices_Contains_string_string.f k l x) (among l x) := by
  obtain ⟨r, hr, hr2⟩ := index_ev l x hl l.length 0 (by omega)
  rw [List.drop_zero] at hr2
  rw [← hr2]
  unfold slices_Contains_string_string.f slices_Index_string_string.f
  exact Ev.bind hr (Ev.now _)

def KEPT : List ByteArray := (([(⟨#[102, 110]⟩ : ByteArray), (⟨#[108, 101, 116]⟩ : ByteArray), (⟨#[99, 97, 115, 101]⟩ : ByteArray), (⟨#[102, 97, 105, 108]⟩ : ByteArray), (⟨#[100, 97, 116, 97]⟩ : ByteArray), (⟨#[100, 101, 102]⟩ : ByteArray), (⟨#[100, 105, 118]⟩ : ByteArray), (⟨#[109, 111, 100]⟩ : ByteArray), (⟨#[102, 108, 111, 97, 116]⟩ : ByteArray), (⟨#[119, 104, 111, 108, 101]⟩ : ByteArray), (⟨#[115, 101, 113]⟩ : ByteArray), (⟨#[105, 110, 102]⟩ : ByteArray), (⟨#[110, 97, 110]⟩ : ByteArray)] : List ByteArray))

def headB (p : Int → Bool) (s : ByteArray) : Bool := match s.data.toList with
  | [] => false
  | c :: _ => p (c.toNat : Int)

def NameB (s : ByteArray) : Bool := headB smI s && restB s && !among KEPT s

def UpperB (s : ByteArray) : Bool := headB grI s && restB s

theorem head_bt (p : Int → Bool) (s : ByteArray) (h : ¬ s.toList = []) : 0 < s.size ∧ headB p s = p (bt s 0) := by
  rw [ByteArray.toList_eq] at h
  have hl := data_length s
  have h0 : 0 < s.size := by
    rcases Nat.eq_zero_or_pos s.size with e | e
    · exact absurd (List.eq_nil_of_length_eq_zero (by omega)) h
    · exact e
  have hb := bt_get s 0 h0
  have hd := drop_get s 0 h0
  rw [List.drop_zero] at hd
  refine ⟨h0, ?_⟩
  unfold headB
  rw [hd]
  simp only
  rw [show ((0 : Nat) : Int) = 0 from rfl] at hb
  rw [hb]

theorem head_nil (p : Int → Bool) (s : ByteArray) (h : s.toList = []) : headB p s = false := by
  rw [ByteArray.toList_eq] at h
  unfold headB
  rw [h]

theorem Name_ev (s : ByteArray) (hs : s.size ≤ 140737488351232) : Ev (fun k => lex_Name.f k s) (NameB s) := by
  unfold lex_Name.f NameB
  by_cases he : s.toList = []
  · simp only [if_pos he, head_nil _ s he, Bool.false_and]
    exact Ev.now _
  · obtain ⟨h0, hh⟩ := head_bt smI s he
    simp only [if_neg he, if_pos (show 0 < (s.size : Int) by omega), small_eq, Option.bind_some, hh]
    by_cases h1 : smI (bt s 0) = true
    · simp only [h1, if_true, Bool.true_and]
      refine Ev.bind (Rest_ev s hs) ?_
      by_cases h2 : restB s = true
      · simp only [h2, if_true, Bool.true_and]
        exact Ev.bind (Contains_ev KEPT s (by decide)) (Ev.now _)
      · simp only [show restB s = false by simpa using h2, Bool.false_and]
        exact Ev.now _
    · simp only [show smI (bt s 0) = false by simpa using h1, Bool.false_and]
      exact Ev.now _

theorem Upper_ev (s : ByteArray) (hs : s.size ≤ 140737488351232) : Ev (fun k => lex_Upper.f k s) (UpperB s) := by
  unfold lex_Upper.f UpperB
  by_cases he : s.toList = []
  · simp only [if_pos he, head_nil _ s he, Bool.false_and]
    exact Ev.now _
  · obtain ⟨h0, hh⟩ := head_bt grI s he
    simp only [if_neg he, if_pos (show 0 < (s.size : Int) by omega), great_eq, Option.bind_some, hh]
    by_cases h1 : grI (bt s 0) = true
    · simp only [h1, if_true, Bool.true_and]
      exact Ev.bind (Rest_ev s hs) (Ev.now _)
    · simp only [show grI (bt s 0) = false by simpa using h1, Bool.false_and]
      exact Ev.now _


theorem number_ok (a b : Int) (hb : 0 < b) (hb2 : b ≤ 1099511627776) : ∃ r, gristmillworld_Number.f a b = some r ∧ 0 ≤ r ∧ r < b := by
  have h1 := Int.lt_tmod_of_pos a hb
  have h2 := Int.tmod_lt_of_pos a hb
  unfold gristmillworld_Number.f
  rw [if_neg (by omega)]
  by_cases h : Int.tmod a b < 0
  · rw [if_pos h]
    refine ⟨_, rfl, ?_, ?_⟩ <;> (unfold wrap64; omega)
  · rw [if_neg h]
    exact ⟨_, rfl, by omega, h2⟩
/-! ### The text of spaces -/
theorem sp_size (m : Nat) : (strOfNums (List.replicate m 32)).size = m := by
  show (strOfNums (List.replicate m 32)).data.size = m
  simp [strOfNums]
theorem sp_bt (m j : Nat) (h : j < m) : bt (strOfNums (List.replicate m 32)) (j : Int) = 32 := by
  have h1 : j < (strOfNums (List.replicate m 32)).size := by rw [sp_size]; exact h
  rw [bt_get _ j h1]
  have e : (strOfNums (List.replicate m 32))[j] = (32 : UInt8) := by
    show (strOfNums (List.replicate m 32)).data[j] = _
    simp [strOfNums]
  rw [e]
  rfl
theorem sp_loop (m : Nat) (hm : m ≤ 70000) (d : Nat) : ∀ j : Nat, j + d = m → Ev (fun k => lex_Words.l0 k (strOfNums (List.replicate m 32)) [] (j : Int)) ([], none) := by
  have hs := sp_size m
  induction d with
  | zero =>
    intro j hj
    refine Ev.step (f := fun _ => some ([], none)) (fun k => ?_) (Ev.now _)
    simp only [lex_Words.l0]
    rw [if_neg (by omega)]
  | succ d ih =>
    intro j hj
    refine Ev.step (fun k => ?_) (ih (j + 1) (by omega))
    simp only [lex_Words.l0]
    rw [if_pos (by omega), if_pos (by omega), sp_bt m j (by omega)]
    have e : lex_apart.f 32 = some true := rfl
    rw [e, Option.bind_some, if_pos rfl, wrap_in j (by omega)]
theorem words_ev (m : Nat) (hm : m ≤ 70000) : Ev (fun k => lex_Words.f k (strOfNums (List.replicate m 32))) ([], if m ≤ 65536 then none else some 104) := by
  have hs := sp_size m
  unfold lex_Words.f
  by_cases h : m ≤ 65536
  · rw [if_pos h]
    simp only [if_neg (show ¬ ((strOfNums (List.replicate m 32)).size : Int) > 65536 by omega)]
    exact sp_loop m hm m 0 (by omega)
  · rw [if_neg h]
    simp only [if_pos (show ((strOfNums (List.replicate m 32)).size : Int) > 65536 by omega)]
    exact Ev.now _
/-! ### The name -/
def nm (i : Nat) : ByteArray := ⟨(97 :: List.replicate i 98).toArray⟩
theorem nm_data (i : Nat) : (nm i).data.toList = 97 :: List.replicate i 98 := rfl
theorem nm_size (i : Nat) : (nm i).size = i + 1 := by
  rw [← data_length, nm_data]
  simp
theorem ba_of (w : List UInt8) (s : ByteArray) (h : s.data.toList = w) : s = ⟨w.toArray⟩ := by
  subst h
  cases s
  rfl
theorem nm_succ (i : Nat) : nm i ++ (⟨#[98]⟩ : ByteArray) = nm (i + 1) := by
  refine ba_of _ _ ?_
  rw [ByteArray.data_append, Array.toList_append, nm_data, List.replicate_succ']
  rfl
theorem nm_name (i : Nat) : NameB (nm i) = decide (i + 1 ≤ 40) := by
  unfold NameB headB restB
  have h1 : (List.replicate i (98 : UInt8)).all nc = true := by
    rw [List.all_eq_true]
    intro x hx
    rw [List.eq_of_mem_replicate hx]
    rfl
  have h2 : among KEPT (nm i) = false := by
    simp [among, KEPT, nm_data]
  rw [h2, nm_data, nm_size, List.all_cons, h1]
  simp [smI, nc, ncI]
theorem nm_upper (i : Nat) : UpperB (nm i) = false := by
  unfold UpperB headB
  rw [nm_data]
  simp [grI]
theorem fn_name : NameB (⟨#[102, 110]⟩ : ByteArray) = false := by decide
theorem nan_name : NameB (⟨#[110, 97, 110]⟩ : ByteArray) = false := by decide
theorem is_104 : gristmillsee_Is.f (some 104) 104 = some true := by rfl
theorem is_none : gristmillsee_Is.f none 104 = some false := by rfl
/-! ### The end -/
theorem last_ev (n : Int) (h0 : -3 ≤ n) (h1 : n ≤ 3) : Ev (fun k => gristmilllaw3_LexMany.l1 k n true [] (if n ≤ 0 then none else some 104) (nm (39 + n).toNat) (40 + n)) true := by
  have hn : Ev (fun k => lex_Name.f k (nm (39 + n).toNat)) (decide (n ≤ 0)) := by
    have h := Name_ev (nm (39 + n).toNat) (by rw [nm_size]; omega)
    rw [nm_name] at h
    have e : decide ((39 + n).toNat + 1 ≤ 40) = decide (n ≤ 0) := by rw [Bool.eq_iff_iff]; simp; omega
    rwa [e] at h
  have hu : Ev (fun k => lex_Upper.f k (nm (39 + n).toNat)) false := by
    have h := Upper_ev (nm (39 + n).toNat) (by rw [nm_size]; omega)
    rwa [nm_upper] at h
  have hf := Name_ev (⟨#[102, 110]⟩ : ByteArray) (by decide)
  rw [fn_name] at hf
  have ha := Name_ev (⟨#[110, 97, 110]⟩ : ByteArray) (by decide)
  rw [nan_name] at ha
  by_cases h : n ≤ 0
  · rw [if_pos h]
    refine Ev.step (f := fun k => (lex_Name.f k (nm (39 + n).toNat)).bind fun t164 => (if (t164 == (decide (n ≤ 0))) = true then ((lex_Name.f k (⟨#[102, 110]⟩ : ByteArray)).bind fun t165 => (if t165 = true then (some false) else ((lex_Name.f k (⟨#[110, 97, 110]⟩ : ByteArray)).bind fun t166 => (if t166 = true then (some false) else ((lex_Upper.f k (nm (39 + n).toNat)).bind fun t167 => (some (!t167))))))) else (some false))) (fun k => ?_) ?_
    · simp only [gristmilllaw3_LexMany.l1]
      rw [if_neg (by unfold wrap64; omega), if_true, if_pos (by rfl), is_none, Option.bind_some, if_pos (by rw [decide_eq_false (by omega)]; rfl), if_pos (by rfl), if_pos (by rw [decide_eq_true h]; rfl)]
    · refine Ev.bind hn ?_
      simp only [beq_self_eq_true, if_true]
      refine Ev.bind hf ?_
      simp only [Bool.false_eq_true, if_false]
      refine Ev.bind ha ?_
      simp only [Bool.false_eq_true, if_false]
      exact Ev.bind hu (Ev.now _)
  · rw [if_neg h]
    refine Ev.step (f := fun k => (lex_Name.f k (nm (39 + n).toNat)).bind fun t164 => (if (t164 == (decide (n ≤ 0))) = true then ((lex_Name.f k (⟨#[102, 110]⟩ : ByteArray)).bind fun t165 => (if t165 = true then (some false) else ((lex_Name.f k (⟨#[110, 97, 110]⟩ : ByteArray)).bind fun t166 => (if t166 = true then (some false) else ((lex_Upper.f k (nm (39 + n).toNat)).bind fun t167 => (some (!t167))))))) else (some false))) (fun k => ?_) ?_
    · simp only [gristmilllaw3_LexMany.l1]
      rw [if_neg (by unfold wrap64; omega), if_true, if_pos (by rfl), is_104, Option.bind_some, if_pos (by rw [decide_eq_true (by omega)]; rfl), if_neg (by simp), if_pos (by rw [decide_eq_false h]; rfl)]
    · refine Ev.bind hn ?_
      simp only [beq_self_eq_true, if_true]
      refine Ev.bind hf ?_
      simp only [Bool.false_eq_true, if_false]
      refine Ev.bind ha ?_
      simp only [Bool.false_eq_true, if_false]
      exact Ev.bind hu (Ev.now _)
theorem name_ev (n : Int) (h0 : -3 ≤ n) (h1 : n ≤ 3) (d : Nat) : ∀ i : Nat, (i : Int) + d = 39 + n → Ev (fun k => gristmilllaw3_LexMany.l1 k n true [] (if n ≤ 0 then none else some 104) (nm i) ((i : Int) + 1)) true := by
  induction d with
  | zero =>
    intro i hi
    have h := last_ev n h0 h1
    rw [show (39 + n).toNat = i by omega, show 40 + n = (i : Int) + 1 by omega] at h
    exact h
  | succ d ih =>
    intro i hi
    refine Ev.step (fun k => ?_) (ih (i + 1) (by omega))
    have hs := nm_size i
    simp only [gristmilllaw3_LexMany.l1]
    rw [if_pos (by unfold wrap64; omega), if_pos (by omega), nm_succ, show wrap64 ((i : Int) + 1 + 1) = ((i + 1 : Nat) : Int) + 1 by unfold wrap64; omega]
theorem set_ev (n : Int) (h0 : -3 ≤ n) (h1 : n ≤ 3) (m : Nat) (hm : (m : Int) = 65536 + n) (d : Nat) : ∀ j : Nat, j + d = m → Ev (fun k => gristmilllaw3_LexMany.l0 k n true (List.replicate j 32 ++ List.replicate d 0) (j : Int)) true := by
  induction d with
  | zero =>
    intro j hj
    have hw := words_ev m (by omega)
    have e : (if m ≤ 65536 then none else some (104 : Int)) = if n ≤ 0 then none else some 104 := by
      by_cases h : n ≤ 0
      · rw [if_pos h, if_pos (by omega)]
      · rw [if_neg h, if_neg (by omega)]
    rw [e] at hw
    have hl := name_ev n h0 h1 (39 + n).toNat 0 (by omega)
    rw [show j = m by omega]
    refine Ev.step (f := fun k => (lex_Words.f k (strOfNums (List.replicate m 32))).bind fun bt158 => (gristmilllaw3_LexMany.l1 k n true bt158.1 bt158.2 (⟨#[97]⟩ : ByteArray) 1)) (fun k => ?_) (Ev.bind hw hl)
    simp only [gristmilllaw3_LexMany.l0]
    rw [List.replicate_zero, List.append_nil, if_neg (by rw [List.length_replicate]; omega)]
  | succ d ih =>
    intro j hj
    refine Ev.step (fun k => ?_) (ih (j + 1) (by omega))
    have hset : (List.replicate j (32 : Int) ++ List.replicate (d + 1) 0).set (j : Int).toNat 32 = List.replicate (j + 1) 32 ++ List.replicate d 0 := by
      rw [Int.toNat_natCast, List.set_append_right _ _ (by rw [List.length_replicate]; exact Nat.le_refl _), List.length_replicate, Nat.sub_self, List.replicate_succ, List.set_cons_zero, List.replicate_succ', List.append_assoc]
      rfl
    simp only [gristmilllaw3_LexMany.l0]
    rw [if_pos (by rw [List.length_append, List.length_replicate, List.length_replicate]; omega), if_pos (by omega), hset, wrap_in j (by omega)]
theorem first_words : lex_Words.f 30 (⟨#[40, 97, 32, 98, 41]⟩ : ByteArray) = some ([⟨⟨#[40]⟩, 0⟩, ⟨⟨#[97]⟩, 1⟩, ⟨⟨#[98]⟩, 3⟩, ⟨⟨#[41]⟩, 4⟩], none) := by kernel_rfl
theorem first_ev : Ev (fun k => gristmilllaw3_first.f k) true := by
  refine Ev.of (fun k => gristmilllaw3_first.mono k) (k := 30) ?_
  unfold gristmilllaw3_first.f
  rw [first_words, Option.bind_some, if_pos (by rfl), if_pos (by rfl), if_pos (by decide), if_pos (by rw [ByteArray.toList_eq]; rfl), if_pos (by decide)]
  rfl
end M
theorem LexMany : gristmilllaw3_LexMany.Pure := by
  intro a ha
  obtain ⟨r, hr, r0, r1⟩ := M.number_ok a 7 (by decide) (by decide)
  refine Ev.rounds (g := fun k => gristmilllaw3_LexMany.f k a) ?_
  unfold gristmilllaw3_LexMany.f
  refine Ev.bind M.first_ev ?_
  have e1 : wrap64 (r - 3) = r - 3 := by unfold wrap64; omega
  have e2 : wrap64 (65536 + (r - 3)) = 65536 + (r - 3) := by unfold wrap64; omega
  simp only [if_true, hr, Option.bind_some, e1, e2]
  simp only [if_pos (show 0 ≤ 65536 + (r - 3) by omega), if_pos (show (65536 + (r - 3)).toNat ≤ 281474976710656 by omega)]
  have h := M.set_ev (r - 3) (by omega) (by omega) (65536 + (r - 3)).toNat (by omega) (65536 + (r - 3)).toNat 0 (by omega)
  exact h
end Go.Proofs.YtiacndjjppcaoaaDoor.Pure
