/- Whole numbers and their words are what the reference says: the pure law of NumSays, for every name and text of at most 60 bytes and every two whole numbers of 64 bits. -/
import Derived.Test.YtkikfkhonjobcaaDoorNumText
import Derived.Test.YtkikfkhonjobcaaDoorPNumSx5
import Derived.Laws.Strings
import Derived.Laws.Bits64
import Derived.OpenShut
namespace Go.Proofs.YtkikfkhonjobcaaDoor.Pure
open Go.RowKit Go.Proofs.YtkikfkhonjobcaaDoor.PNumS Go.Proofs.YtkikfkhonjobcaaDoorW.PrintWords Go.Proofs.YtkikfkhonjobcaaDoorW.PrintLast Go.Proofs.YtkikfkhonjobcaaDoor.ExtS Go.Proofs.YtkikfkhonjobcaaDoor.NumText
set_option linter.unusedVariables false
set_option linter.unusedSimpArgs false
namespace S
theorem lit_toList (l : List UInt8) : (⟨l.toArray⟩ : ByteArray).toList = l := ByteArray.toList_mk l
theorem data_length (s : ByteArray) : s.data.toList.length = s.size := by rw [Array.length_toList]; rfl
theorem bt_get (s : ByteArray) (i : Nat) (h : i < s.size) : bt s (i : Int) = ((s[i]'h).toNat : Int) := by
  unfold bt
  rw [dif_pos (by simpa using h)]
  rfl
theorem drop_get (s : ByteArray) (i : Nat) (h : i < s.size) : s.data.toList.drop i = s[i] :: s.data.toList.drop (i + 1) := by
  rw [List.drop_eq_getElem_cons (by simpa using h)]
  rfl
theorem wrap_in (i : Nat) (h : i ≤ 140737488351232) : wrap64 ((i : Int) + 1) = ((i + 1 : Nat) : Int) := by
  unfold wrap64
  omega
theorem ext_toList (s : ByteArray) (a b : Nat) : (s.extract a b).data.toList = (s.data.toList.take b).drop a := by
  simp [ByteArray.data_extract, List.extract_eq_take_drop, List.drop_take]

/-! ### Among words -/
def among (l : List ByteArray) (x : ByteArray) : Bool := l.any fun y => y.data.toList == x.data.toList
theorem among_cons (y : ByteArray) (l : List ByteArray) (x : ByteArray) : among (y :: l) x = (y.data.toList == x.data.toList || among l x) := rfl
theorem index_ev (l : List ByteArray) (x : ByteArray) (hl : l.length ≤ 1000) (d : Nat) : ∀ j : Nat, j + d = l.length →
    ∃ r : Int, Ev (fun k => slices_Index_string_string.l0 k l x (l.length : Int) (j : Int)) r ∧ decide (r ≥ 0) = among (l.drop j) x := by
  induction d with
  | zero =>
    intro j hj
    refine ⟨-1, Ev.step (f := fun _ => some (-1)) (fun k => ?_) (Ev.now _), ?_⟩
    · simp only [slices_Index_string_string.l0]
      rw [if_neg (by omega)]
    · rw [List.drop_eq_nil_of_le (by omega)]; rfl
  | succ d ih =>
    intro j hj
    have hlt : j < l.length := by omega
    obtain ⟨r, hr, hr2⟩ := ih (j + 1) (by omega)
    have hd : l.drop j = l[j] :: l.drop (j + 1) := List.drop_eq_getElem_cons hlt
    have hg : rdOf ByteArray.empty l (j : Int) = l[j] := by simp [rdOf, hlt]
    rw [hd, among_cons]
    by_cases h : l[j].data.toList = x.data.toList
    · refine ⟨(j : Int), Ev.step (f := fun _ => some (j : Int)) (fun k => ?_) (Ev.now _), ?_⟩
      · simp only [slices_Index_string_string.l0]
        rw [if_pos (by omega), if_pos (by omega), if_pos (by omega), hg, if_pos (by rw [ByteArray.toList_eq, ByteArray.toList_eq, h])]
      · simp [h]
    · refine ⟨r, Ev.step (fun k => ?_) hr, ?_⟩
      · simp only [slices_Index_string_string.l0]
        rw [if_pos (by omega), if_pos (by omega), if_pos (by omega), hg, if_neg (by rw [ByteArray.toList_eq, ByteArray.toList_eq]; exact fun e => h e.symm), wrap_in j (by omega)]
      · rw [hr2, beq_eq_false_iff_ne.mpr h, Bool.false_or]
theorem Contains_ev (l : List ByteArray) (x : ByteArray) (hl : l.length ≤ 1000) : Ev (fun k => slices_Contains_string_string.f k l x) (among l x) := by
  obtain ⟨r, hr, hr2⟩ := index_ev l x hl l.length 0 (by omega)
  rw [List.drop_zero] at hr2
  rw [← hr2]
  unfold slices_Contains_string_string.f slices_Index_string_string.f
  exact Ev.bind hr (Ev.now _)
theorem place_ev (l : List ByteArray) (x : ByteArray) (hl : l.length ≤ 1000) (d : Nat) : ∀ j : Nat, j + d = l.length →
    ∃ r : Int, Ev (fun k => gristmillref_Place.l0 k l x (j : Int)) r ∧ decide (r ≥ 0) = among (l.drop j) x := by
  induction d with
  | zero =>
    intro j hj
    refine ⟨-1, Ev.step (f := fun _ => some (-1)) (fun k => ?_) (Ev.now _), ?_⟩
    · simp only [gristmillref_Place.l0]
      rw [if_neg (by omega)]
    · rw [List.drop_eq_nil_of_le (by omega)]; rfl
  | succ d ih =>
    intro j hj
    have hlt : j < l.length := by omega
    obtain ⟨r, hr, hr2⟩ := ih (j + 1) (by omega)
    have hd : l.drop j = l[j] :: l.drop (j + 1) := List.drop_eq_getElem_cons hlt
    have hg : rdOf ByteArray.empty l (j : Int) = l[j] := by simp [rdOf, hlt]
    rw [hd, among_cons]
    by_cases h : l[j].data.toList = x.data.toList
    · refine ⟨(j : Int), Ev.step (f := fun _ => some (j : Int)) (fun k => ?_) (Ev.now _), ?_⟩
      · simp only [gristmillref_Place.l0]
        rw [if_pos (by omega), if_pos (by omega), hg, if_pos (by rw [ByteArray.toList_eq, ByteArray.toList_eq, h])]
      · simp [h]
    · refine ⟨r, Ev.step (fun k => ?_) hr, ?_⟩
      · simp only [gristmillref_Place.l0]
        rw [if_pos (by omega), if_pos (by omega), hg, if_neg (by rw [ByteArray.toList_eq, ByteArray.toList_eq]; exact h), wrap_in j (by omega)]
      · rw [hr2, beq_eq_false_iff_ne.mpr h, Bool.false_or]
theorem Has_ev (l : List ByteArray) (x : ByteArray) (hl : l.length ≤ 1000) : Ev (fun k => gristmillref_Has.f k l x) (among l x) := by
  obtain ⟨r, hr, hr2⟩ := place_ev l x hl l.length 0 (by omega)
  rw [List.drop_zero] at hr2
  rw [← hr2]
  unfold gristmillref_Has.f gristmillref_Place.f
  exact Ev.bind hr (Ev.now _)


/-! ### Words -/
def PR : List ByteArray := [(⟨#[43]⟩ : ByteArray), (⟨#[45]⟩ : ByteArray), (⟨#[42]⟩ : ByteArray), (⟨#[100, 105, 118]⟩ : ByteArray), (⟨#[109, 111, 100]⟩ : ByteArray), (⟨#[60]⟩ : ByteArray), (⟨#[61]⟩ : ByteArray), (⟨#[102, 43]⟩ : ByteArray), (⟨#[102, 45]⟩ : ByteArray), (⟨#[102, 42]⟩ : ByteArray), (⟨#[102, 47]⟩ : ByteArray), (⟨#[102, 60]⟩ : ByteArray), (⟨#[102, 61]⟩ : ByteArray), (⟨#[102, 108, 111, 97, 116]⟩ : ByteArray), (⟨#[119, 104, 111, 108, 101]⟩ : ByteArray), (⟨#[115, 101, 113]⟩ : ByteArray)]
def FL : List ByteArray := [(⟨#[102, 43]⟩ : ByteArray), (⟨#[102, 45]⟩ : ByteArray), (⟨#[102, 42]⟩ : ByteArray), (⟨#[102, 47]⟩ : ByteArray), (⟨#[102, 108, 111, 97, 116]⟩ : ByteArray)]
theorem prims : num_Prims.f = some PR := rfl
theorem prims1 : gristmillref1_Prims.f = some PR := rfl
theorem arity_j (x : ByteArray) : Ev (fun k => num_Arity.j0 k x false) (if among PR x = true then (2, true) else (0, false)) := by
  refine Ev.step (f := fun k => (slices_Contains_string_string.f k PR x).bind fun t => if t = true then some ((2 : Int), true) else some (0, false)) (fun k => ?_) (Ev.bind (Contains_ev PR x (by decide)) ?_)
  · simp only [num_Arity.j0]
    rw [if_neg (by simp), prims, Option.bind_some]
  · by_cases h : among PR x = true
    · simp only [h, if_true]; exact Ev.now _
    · simp only [h, if_false]; exact Ev.now _
theorem arity1_j (x : ByteArray) : Ev (fun k => gristmillref1_Arity.j0 k x false) (if among PR x = true then 2 else 0) := by
  refine Ev.step (f := fun k => (gristmillref_Has.f k PR x).bind fun t => if t = true then some (2 : Int) else some 0) (fun k => ?_) (Ev.bind (Has_ev PR x (by decide)) ?_)
  · simp only [gristmillref1_Arity.j0]
    rw [if_neg (by simp), prims1, Option.bind_some]
  · by_cases h : among PR x = true
    · simp only [h, if_true]; exact Ev.now _
    · simp only [h, if_false]; exact Ev.now _
theorem arity_t (x : ByteArray) : Ev (fun k => num_Arity.j0 k x true) (1, true) := Ev.step (f := fun _ => some (1, true)) (fun k => by simp only [num_Arity.j0, if_true]) (Ev.now _)
theorem arity1_t (x : ByteArray) : Ev (fun k => gristmillref1_Arity.j0 k x true) 1 := Ev.step (f := fun _ => some 1) (fun k => by simp only [gristmillref1_Arity.j0, if_true]) (Ev.now _)
theorem arity (x : ByteArray) : ∃ n : Int, ∃ b : Bool, Ev (fun k => num_Arity.f k x) (n, b) ∧ Ev (fun k => gristmillref1_Arity.f k x) n ∧ b = decide (n > 0) := by
  unfold num_Arity.f gristmillref1_Arity.f
  by_cases h1 : x.toList = [102, 108, 111, 97, 116]
  · simp only [if_pos h1]
    exact ⟨1, true, arity_t x, arity1_t x, rfl⟩
  · simp only [if_neg h1]
    cases h2 : (x.toList == ([119, 104, 111, 108, 101] : List UInt8)) with
    | true => exact ⟨1, true, arity_t x, arity1_t x, rfl⟩
    | false =>
      have e1 := arity_j x
      have e2 := arity1_j x
      by_cases h : among PR x = true
      · rw [if_pos h] at e1 e2
        exact ⟨2, true, e1, e2, rfl⟩
      · rw [if_neg h] at e1 e2
        exact ⟨0, false, e1, e2, rfl⟩
theorem fl_j (b : Bool) : Ev (fun k => gristmillref1_Floaty.j0 k b) b := Ev.step (f := fun _ => some b) (fun k => by simp only [gristmillref1_Floaty.j0]) (Ev.now _)
theorem floaty (x : ByteArray) : ∃ b : Bool, Ev (fun k => num_Floaty.f k x) b ∧ Ev (fun k => gristmillref1_Floaty.f k x) b := by
  refine ⟨among FL x, Ev.bind (Contains_ev FL x (by decide)) (Ev.now _), ?_⟩
  unfold gristmillref1_Floaty.f
  have e : x.data.toList = x.toList := (ByteArray.toList_eq x).symm
  have key : among FL x = (([102, 43] : List UInt8) == x.toList || (([102, 45] : List UInt8) == x.toList || (([102, 42] : List UInt8) == x.toList || (([102, 47] : List UInt8) == x.toList || (([102, 108, 111, 97, 116] : List UInt8) == x.toList || false))))) := by rw [← e]; rfl
  rw [key]
  by_cases h1 : x.toList = [102, 43]
  · simp only [if_pos h1, h1]; exact fl_j _
  · have n1 : (([102, 43] : List UInt8) == x.toList) = false := beq_eq_false_iff_ne.mpr (fun h => h1 h.symm)
    simp only [if_neg h1, n1, Bool.false_or]
    by_cases h2 : x.toList = [102, 45]
    · simp only [if_pos h2, h2]; exact fl_j _
    · have n2 : (([102, 45] : List UInt8) == x.toList) = false := beq_eq_false_iff_ne.mpr (fun h => h2 h.symm)
      simp only [if_neg h2, n2, Bool.false_or]
      by_cases h3 : x.toList = [102, 42]
      · simp only [if_pos h3, h3]; exact fl_j _
      · have n3 : (([102, 42] : List UInt8) == x.toList) = false := beq_eq_false_iff_ne.mpr (fun h => h3 h.symm)
        simp only [if_neg h3, n3, Bool.false_or]
        by_cases h4 : x.toList = [102, 47]
        · simp only [if_pos h4, h4]; exact fl_j _
        · have n4 : (([102, 47] : List UInt8) == x.toList) = false := beq_eq_false_iff_ne.mpr (fun h => h4 h.symm)
          simp only [if_neg h4, n4, Bool.false_or, Bool.or_false]
          have ec : (([102, 108, 111, 97, 116] : List UInt8) == x.toList) = (x.toList == ([102, 108, 111, 97, 116] : List UInt8)) := by
            by_cases h5 : x.toList = [102, 108, 111, 97, 116]
            · rw [h5]
            · rw [beq_eq_false_iff_ne.mpr h5, beq_eq_false_iff_ne.mpr (fun e => h5 e.symm)]
          rw [ec]
          exact fl_j _
theorem same_ev (l : List ByteArray) (hl : l.length ≤ 1000) (d : Nat) : ∀ j : Nat, j + d = l.length → Ev (fun k => gristmillref_SameTexts.l0 k l l (j : Int)) true := by
  induction d with
  | zero =>
    intro j hj
    refine Ev.step (f := fun _ => some true) (fun k => ?_) (Ev.now _)
    simp only [gristmillref_SameTexts.l0]
    rw [if_neg (by omega)]
  | succ d ih =>
    intro j hj
    refine Ev.step (fun k => ?_) (ih (j + 1) (by omega))
    simp only [gristmillref_SameTexts.l0]
    rw [if_pos (by omega), if_pos (by omega), if_pos (by omega), if_true, wrap_in j (by omega)]
theorem Same_ev : Ev (fun k => gristmillref_SameTexts.f k PR PR) true := by
  have h := same_ev PR (by decide) PR.length 0 (by omega)
  refine Ev.congr (fun k => ?_) h
  unfold gristmillref_SameTexts.f
  rw [if_pos rfl]
  rfl
/-! ### Operations -/
theorem do_same (n : ByteArray) (a b : Int) : ∃ r : Int × Int × Bool, Ev (fun k => num_Do.f k n a b) r ∧ gristmillref1_NumDo.f n a b = some r := by
  have ev1 : ∀ r : Int × Int × Bool, (∀ k, num_Do.f (k + 1) n a b = some r) → Ev (fun k => num_Do.f k n a b) r := fun r h => Ev.step (f := fun _ => some r) h (Ev.now _)
  have one : ∀ x : Bool, num_one.f x = some (if x = true then 1 else 0) := fun x => by unfold num_one.f; split <;> rfl
  have one1 : ∀ x : Bool, gristmillref1_One.f x = some (if x = true then 1 else 0) := fun x => by unfold gristmillref1_One.f; split <;> rfl
  unfold gristmillref1_NumDo.f
  by_cases h1 : n.toList = [43]
  · exact ⟨_, ev1 _ fun k => by unfold num_Do.f; rw [if_pos h1], by rw [if_pos h1]⟩
  by_cases h2 : n.toList = [45]
  · exact ⟨_, ev1 _ fun k => by unfold num_Do.f; rw [if_neg h1, if_pos h2], by rw [if_neg h1, if_pos h2]⟩
  by_cases h3 : n.toList = [42]
  · exact ⟨_, ev1 _ fun k => by unfold num_Do.f; rw [if_neg h1, if_neg h2, if_pos h3], by rw [if_neg h1, if_neg h2, if_pos h3]⟩
  by_cases h4 : n.toList = [60]
  · have n5 : ¬ n.toList = [100, 105, 118] := by rw [h4]; decide
    have n6 : ¬ n.toList = [109, 111, 100] := by rw [h4]; decide
    exact ⟨_, ev1 _ fun k => by unfold num_Do.f; rw [if_neg h1, if_neg h2, if_neg h3, if_pos h4, one, Option.bind_some], by rw [if_neg h1, if_neg h2, if_neg h3, if_neg n5, if_neg n6, if_pos h4, one1, Option.bind_some]⟩
  by_cases h5 : n.toList = [61]
  · have n5 : ¬ n.toList = [100, 105, 118] := by rw [h5]; decide
    have n6 : ¬ n.toList = [109, 111, 100] := by rw [h5]; decide
    exact ⟨_, ev1 _ fun k => by unfold num_Do.f; rw [if_neg h1, if_neg h2, if_neg h3, if_neg h4, if_pos h5, one, Option.bind_some], by rw [if_neg h1, if_neg h2, if_neg h3, if_neg n5, if_neg n6, if_neg h4, if_pos h5, one1, Option.bind_some]⟩
  by_cases h6 : n.toList = [100, 105, 118]
  · refine ⟨if b = 0 then (0, -2, true) else (wrap64 (Int.tdiv a b), 0, true), ev1 _ fun k => ?_, ?_⟩
    · unfold num_Do.f
      rw [if_neg h1, if_neg h2, if_neg h3, if_neg h4, if_neg h5, if_pos h6, h6]
      simp only [num_Do.j0]
      rw [if_pos (by rfl)]
      unfold num_divide.f Ext.num_divide.f
      by_cases hb : b = 0
      · rw [if_pos hb, if_pos hb]; rfl
      · rw [if_neg hb, if_neg hb, if_pos h6]; rfl
    · rw [if_neg h1, if_neg h2, if_neg h3, if_pos h6]
      by_cases hb : b = 0
      · rw [if_pos hb, if_pos hb]
      · rw [if_neg hb, if_neg hb]
        by_cases hm : b = -1
        · rw [if_pos hm, hm, Int.tdiv_neg, Int.tdiv_one]
        · rw [if_neg hm]
  by_cases h7 : n.toList = [109, 111, 100]
  · refine ⟨if b = 0 then (0, -2, true) else (Int.tmod a b, 0, true), ev1 _ fun k => ?_, ?_⟩
    · unfold num_Do.f
      rw [if_neg h1, if_neg h2, if_neg h3, if_neg h4, if_neg h5, if_neg h6, h7]
      simp only [num_Do.j0]
      rw [if_pos (by rfl)]
      unfold num_divide.f Ext.num_divide.f
      by_cases hb : b = 0
      · rw [if_pos hb, if_pos hb]; rfl
      · rw [if_neg hb, if_neg hb, if_neg h6]; rfl
    · rw [if_neg h1, if_neg h2, if_neg h3, if_neg h6, if_pos h7]
      by_cases hb : b = 0
      · rw [if_pos hb, if_pos hb]
      · rw [if_neg hb, if_neg hb]
        by_cases hm : b = -1
        · rw [if_pos hm, hm, Int.tmod_neg, Int.tmod_one]
        · rw [if_neg hm]
  · refine ⟨(0, 0, false), ev1 _ fun k => ?_, ?_⟩
    · unfold num_Do.f
      rw [if_neg h1, if_neg h2, if_neg h3, if_neg h4, if_neg h5, if_neg h6, beq_eq_false_iff_ne.mpr h7]
      simp only [num_Do.j0]
      rw [if_neg (by simp)]
    · rw [if_neg h1, if_neg h2, if_neg h3, if_neg h6, if_neg h7, if_neg h4, if_neg h5]

/-! ### The number of a text -/
def fin (neg : Bool) (n : Nat) : Int × Bool := if 9223372036854775808 < n ∨ (n = 9223372036854775808 ∧ neg = false) then (0, false) else (if neg = true then -(n : Int) else (n : Int), true)
def digB (l : List UInt8) : Bool := l.all fun c => decide (48 ≤ c.toNat ∧ c.toNat ≤ 57)
theorem digB_iff (l : List UInt8) : digB l = true ↔ Dig l := by
  unfold digB Dig
  simp [List.all_eq_true]
theorem five (neg : Bool) (n : Nat) (b : Bool) (h : fin neg n = if b = true then (0, false) else (if neg = true then -(n : Int) else (n : Int), true)) (hb : b = false → n ≤ 9223372036854775808) (hp : b = false → neg = false → n < 9223372036854775808) : Ev (fun k => gristmillref1_NumParse.j5 k neg (n : Int) b) (fin neg n) := by
  rw [h]
  refine Ev.step (f := fun _ => some (if b = true then (0, false) else (if neg = true then -(n : Int) else (n : Int), true))) (fun k => ?_) (Ev.now _)
  simp only [gristmillref1_NumParse.j5]
  cases b with
  | true => simp
  | false =>
    have h1 := hb rfl
    simp only [Bool.false_eq_true, if_false]
    cases neg with
    | true =>
      simp only [if_true]
      congr 2
      unfold wrap64
      omega
    | false =>
      have h2 := hp rfl rfl
      simp only [Bool.false_eq_true, if_false]
      congr 2
      unfold wrap64
      omega
theorem loop_ev (t : ByteArray) (neg : Bool) (ht : t.size ≤ 19) (d : Nat) : ∀ j n : Nat, j + d = t.size → n < 10 ^ j →
    Ev (fun k => gristmillref1_NumParse.l0 k t neg (n : Int) (j : Int)) (if digB (t.data.toList.drop j) = true then fin neg (fold n (t.data.toList.drop j)) else (0, false)) := by
  induction d with
  | zero =>
    intro j n hj hn
    rw [List.drop_eq_nil_of_le (by rw [data_length]; omega), if_pos (show digB [] = true from rfl)]
    show Ev _ (fin neg n)
    by_cases h1 : 9223372036854775808 < n
    · refine Ev.step (fun k => ?_) (five neg n true (by unfold fin; rw [if_pos (.inl h1)]; rfl) (fun h => by cases h) (fun h => by cases h))
      simp only [gristmillref1_NumParse.l0]
      rw [if_neg (by omega), if_pos (by omega)]
    · by_cases h2 : n = 9223372036854775808
      · refine Ev.step (fun k => ?_) (five neg n (!neg) ?_ (fun _ => by omega) (fun h h' => by rw [h'] at h; cases h))
        · simp only [gristmillref1_NumParse.l0]
          rw [if_neg (by omega), if_neg (by omega), if_pos (by omega)]
        · unfold fin
          cases neg with
          | true => rw [if_neg (by simp; omega)]; rfl
          | false => rw [if_pos (.inr ⟨h2, rfl⟩)]; rfl
      · refine Ev.step (fun k => ?_) (five neg n false (by unfold fin; rw [if_neg (by omega)]; rfl) (fun _ => by omega) (fun _ _ => by omega))
        simp only [gristmillref1_NumParse.l0]
        rw [if_neg (by omega), if_neg (by omega), if_neg (by omega)]
  | succ d ih =>
    intro j n hj hn
    have hlt : j < t.size := by omega
    have hd := drop_get t j hlt
    have hb := bt_get t j hlt
    have hw := wrap_in j (by omega)
    generalize hc : t[j] = c at hb hd
    rw [hd]
    have hbad : Ev (fun k => gristmillref1_NumParse.j4 k t neg (n : Int) (j : Int) true) (0, false) := Ev.step (f := fun _ => some (0, false)) (fun k => by simp only [gristmillref1_NumParse.j4, if_true]) (Ev.now _)
    by_cases h1 : c.toNat < 48
    · rw [if_neg (by simp [digB]; omega)]
      refine Ev.step (fun k => ?_) hbad
      simp only [gristmillref1_NumParse.l0]
      rw [if_pos (by omega), if_pos (by omega), hb, if_pos (by omega)]
    · by_cases h2 : 57 < c.toNat
      · rw [if_neg (by simp [digB]; omega)]
        refine Ev.step (fun k => ?_) hbad
        simp only [gristmillref1_NumParse.l0]
        rw [if_pos (by omega), if_pos (by omega), hb, if_neg (by omega), show decide ((c.toNat : Int) > 57) = true from decide_eq_true (by omega)]
      · have hp : 10 ^ j ≤ 10 ^ 18 := Nat.pow_le_pow_right (by omega) (by omega)
        have hn18 : n < 1000000000000000000 := by
          have e18 : 10 ^ 18 = 1000000000000000000 := by decide
          omega
        have hn2 : n * 10 + (c.toNat - 48) < 10 ^ (j + 1) := by
          rw [Nat.pow_succ]
          omega
        have hi := ih (j + 1) (n * 10 + (c.toNat - 48)) (by omega) hn2
        have e1 : digB (c :: t.data.toList.drop (j + 1)) = digB (t.data.toList.drop (j + 1)) := by
          unfold digB
          rw [List.all_cons, decide_eq_true (by omega : 48 ≤ c.toNat ∧ c.toNat ≤ 57), Bool.true_and]
        rw [e1]
        refine Ev.step (f := fun k => gristmillref1_NumParse.j4 k t neg (n : Int) (j : Int) false) (fun k => ?_) (Ev.step (fun k => ?_) hi)
        · simp only [gristmillref1_NumParse.l0]
          rw [if_pos (by omega), if_pos (by omega), hb, if_neg (by omega), show decide ((c.toNat : Int) > 57) = false from decide_eq_false (by omega)]
        · simp only [gristmillref1_NumParse.j4]
          rw [if_neg (by simp), if_pos (by omega), if_pos (by omega), hb, hw]
          have ew : IntKind.u64.wrap ((IntKind.u64.wrap (10 * (n : Int))) + (((c.toNat : Int) - 48) % 256)) = ((n * 10 + (c.toNat - 48) : Nat) : Int) := by
            rw [IntKind.wrap_u64, IntKind.wrap_u64]
            omega
          rw [ew]

def core (neg : Bool) (l : List UInt8) : Int × Bool :=
  if l = [] then (0, false) else if 19 < l.length then (0, false) else if l.head? = some 48 ∧ (1 < l.length ∨ neg = true) then (0, false) else if digB l = true then fin neg (fold 0 l) else (0, false)
def refP : List UInt8 → Int × Bool
  | [] => core false []
  | c :: r => if c = 45 then core true r else core false (c :: r)
theorem two_true (t : ByteArray) (neg : Bool) : Ev (fun k => gristmillref1_NumParse.j2 k t neg true) (0, false) := Ev.step (f := fun _ => some (0, false)) (fun k => by simp only [gristmillref1_NumParse.j2, if_true]) (Ev.now _)
theorem two_false (t : ByteArray) (neg : Bool) (ht : t.size ≤ 19) : Ev (fun k => gristmillref1_NumParse.j2 k t neg false) (if digB t.data.toList = true then fin neg (fold 0 t.data.toList) else (0, false)) := by
  have h := loop_ev t neg ht t.size 0 0 (by omega) (by omega)
  rw [List.drop_zero] at h
  exact Ev.step (fun k => by simp only [gristmillref1_NumParse.j2]; rfl) h
theorem one_ev (t : ByteArray) (neg : Bool) : Ev (fun k => gristmillref1_NumParse.j1 k t neg) (core neg t.data.toList) := by
  have hl := data_length t
  unfold core
  by_cases h0 : t.data.toList = []
  · rw [if_pos h0]
    refine Ev.step (fun k => ?_) (two_true t neg)
    simp only [gristmillref1_NumParse.j1]
    rw [if_pos (by rw [ByteArray.toList_eq]; exact h0)]
  · have hp : 0 < t.size := by
      rcases Nat.eq_zero_or_pos t.size with e | e
      · exact absurd (List.eq_nil_of_length_eq_zero (by omega)) h0
      · exact e
    have n0 : ¬ t.toList = [] := by rw [ByteArray.toList_eq]; exact h0
    rw [if_neg h0, hl]
    by_cases h1 : 19 < t.size
    · rw [if_pos h1]
      refine Ev.step (fun k => ?_) (two_true t neg)
      simp only [gristmillref1_NumParse.j1]
      rw [if_neg n0, if_pos (by omega)]
    · rw [if_neg h1]
      have hb := bt_get t 0 hp
      have hd := drop_get t 0 hp
      rw [List.drop_zero] at hd
      have hh : t.data.toList.head? = some t[0] := by rw [hd]; rfl
      have h2f := two_false t neg (by omega)
      by_cases h2 : t[0] = 48
      · have hb48 : bt t 0 = 48 := by
          have := hb
          rw [h2] at this
          exact this
        by_cases h3 : 1 < t.size
        · rw [if_pos ⟨by rw [hh, h2], .inl h3⟩]
          refine Ev.step (fun k => ?_) (two_true t neg)
          simp only [gristmillref1_NumParse.j1]
          rw [if_neg n0, if_neg (by omega), if_pos (by omega), if_pos hb48, if_pos (by omega)]
        · cases neg with
          | true =>
            rw [if_pos ⟨by rw [hh, h2], .inr rfl⟩]
            refine Ev.step (fun k => ?_) (two_true t true)
            simp only [gristmillref1_NumParse.j1]
            rw [if_neg n0, if_neg (by omega), if_pos (by omega), if_pos hb48, if_neg (by omega)]
          | false =>
            rw [if_neg (by rintro ⟨_, h | h⟩; exact h3 h; cases h)]
            refine Ev.step (fun k => ?_) h2f
            simp only [gristmillref1_NumParse.j1]
            rw [if_neg n0, if_neg (by omega), if_pos (by omega), if_pos hb48, if_neg (by omega)]
      · have hb48 : ¬ bt t 0 = 48 := by
          intro e
          have e2 : ((t[0].toNat : Nat) : Int) = 48 := hb.symm.trans e
          apply h2
          apply UInt8.toNat_inj.1
          have : (48 : UInt8).toNat = 48 := rfl
          omega
        rw [if_neg (by rintro ⟨h, _⟩; rw [hh] at h; exact h2 (Option.some.inj h))]
        refine Ev.step (fun k => ?_) h2f
        simp only [gristmillref1_NumParse.j1]
        rw [if_neg n0, if_neg (by omega), if_pos (by omega), if_neg hb48]
theorem parse_ev (s : ByteArray) : Ev (fun k => gristmillref1_NumParse.f k s) (refP s.data.toList) := by
  have hl := data_length s
  have zero : ∀ t : ByteArray, Ev (fun k => gristmillref1_NumParse.j0 k t false) (core false t.data.toList) := fun t => Ev.step (fun k => by simp only [gristmillref1_NumParse.j0]; rw [if_neg (by simp)]) (one_ev t false)
  unfold gristmillref1_NumParse.f
  by_cases h0 : s.data.toList = []
  · have e0 : s.toList = [] := by rw [ByteArray.toList_eq]; exact h0
    simp only [if_pos e0]
    have := zero s
    rw [h0] at this ⊢
    exact this
  · have n0 : ¬ s.toList = [] := by rw [ByteArray.toList_eq]; exact h0
    have hp : 0 < s.size := by
      rcases Nat.eq_zero_or_pos s.size with e | e
      · exact absurd (List.eq_nil_of_length_eq_zero (by omega)) h0
      · exact e
    have hb := bt_get s 0 hp
    have hd := drop_get s 0 hp
    rw [List.drop_zero] at hd
    simp only [if_neg n0, if_pos (show 0 < (s.size : Int) by omega)]
    by_cases h2 : s[0] = 45
    · have hb45 : (bt s 0 == 45) = true := by
        have := hb
        rw [h2] at this
        rw [show bt s 0 = 45 from this]
        rfl
      rw [hb45]
      have he : (s.extract 1 s.size).data.toList = s.data.toList.drop 1 := by
        rw [ext_toList, List.take_of_length_le (by omega)]
      have h1 := one_ev (s.extract 1 s.size) true
      rw [he] at h1
      have hr : refP s.data.toList = core true (s.data.toList.drop 1) := by
        rw [hd, h2]
        rfl
      rw [hr]
      refine Ev.step (fun k => ?_) h1
      simp only [gristmillref1_NumParse.j0, if_true]
      rw [if_pos (by omega)]
    · have hb45 : (bt s 0 == 45) = false := by
        rw [beq_eq_false_iff_ne]
        intro e
        have e2 : ((s[0].toNat : Nat) : Int) = 45 := hb.symm.trans e
        apply h2
        apply UInt8.toNat_inj.1
        have : (45 : UInt8).toNat = 45 := rfl
        omega
      rw [hb45]
      have hr : refP s.data.toList = core false s.data.toList := by
        rw [hd]
        simp only [refP]
        rw [if_neg h2]
      rw [hr]
      exact zero s

/-! ### Digits and numerals -/
theorem dec_of (n : Nat) : ∀ l : List UInt8, l.length = n + 1 → Dig l → (l.head? = some 48 → l.length = 1) → Lib.decDigits (fold 0 l) = l := by
  induction n with
  | zero =>
    intro l hl hd hz
    obtain ⟨c, rfl⟩ := List.length_eq_one_iff.1 (by omega : l.length = 1)
    have hc := hd c (List.mem_singleton.2 rfl)
    show Lib.decDigits (0 * 10 + (c.toNat - 48)) = [c]
    rw [Lib.decDigits_one (by omega)]
    congr 1
    apply UInt8.toNat_inj.1
    rw [UInt8.toNat_ofNat']
    omega
  | succ n ih =>
    intro l hl hd hz
    have hne : l ≠ [] := by intro e; rw [e] at hl; simp at hl
    obtain ⟨q, c, rfl⟩ : ∃ q c, l = q ++ [c] := ⟨l.dropLast, l.getLast hne, (List.dropLast_concat_getLast hne).symm⟩
    have hq : q.length = n + 1 := by simp at hl; omega
    have hc := hd c (List.mem_append_right _ (List.mem_singleton.2 rfl))
    have hdq : Dig q := fun x hx => hd x (List.mem_append_left _ hx)
    cases q with
    | nil => simp at hq
    | cons a q' =>
      have ha : a ≠ 48 := by
        intro e
        have := hz (by rw [e]; rfl)
        rw [hl] at this
        omega
      have hi := ih (a :: q') hq hdq (fun e => by simp at e; exact absurd e ha)
      have h1 : 1 ≤ fold 0 (a :: q') := by
        have ha2 := hdq a (List.mem_cons_self ..)
        have hg := fold_ge q' (0 * 10 + (a.toNat - 48))
        have hne : a.toNat ≠ 48 := fun e => ha (UInt8.toNat_inj.1 e)
        show 1 ≤ fold (0 * 10 + (a.toNat - 48)) q'
        omega
      rw [fold_append]
      show Lib.decDigits (fold 0 (a :: q') * 10 + (c.toNat - 48)) = _
      rw [Lib.decDigits]
      rw [dif_neg (by omega), show (fold 0 (a :: q') * 10 + (c.toNat - 48)) / 10 = fold 0 (a :: q') by omega, hi]
      congr 2
      apply UInt8.toNat_inj.1
      rw [UInt8.toNat_ofNat']
      omega
theorem dec_len (k : Nat) : ∀ u, u < 10 ^ (k + 1) → (Lib.decDigits u).length ≤ k + 1 := by
  induction k with
  | zero =>
    intro u h
    rw [Lib.decDigits_one (by omega)]
    simp
  | succ k ih =>
    intro u h
    rw [Lib.decDigits]
    split
    · simp
    · have := ih (u / 10) (by rw [Nat.pow_succ] at h; omega)
      rw [List.length_append]
      simp
      omega
theorem core_good (neg : Bool) (l : List UInt8) (v : Int) (h : core neg l = (v, true)) : ∃ n : Nat, Lib.decDigits n = l ∧ n ≤ 9223372036854775808 ∧ (neg = false → n < 9223372036854775808) ∧ (neg = true → 1 ≤ n) ∧ v = if neg = true then -(n : Int) else (n : Int) := by
  unfold core at h
  by_cases h0 : l = []
  · rw [if_pos h0] at h; simp at h
  · rw [if_neg h0] at h
    by_cases h1 : 19 < l.length
    · rw [if_pos h1] at h; simp at h
    · rw [if_neg h1] at h
      by_cases h2 : l.head? = some 48 ∧ (1 < l.length ∨ neg = true)
      · rw [if_pos h2] at h; simp at h
      · rw [if_neg h2] at h
        by_cases h3 : digB l = true
        · rw [if_pos h3] at h
          unfold fin at h
          by_cases h4 : 9223372036854775808 < fold 0 l ∨ (fold 0 l = 9223372036854775808 ∧ neg = false)
          · rw [if_pos h4] at h; simp at h
          · rw [if_neg h4] at h
            have hpos : 1 ≤ l.length := by
              rcases Nat.eq_zero_or_pos l.length with e | e
              · exact absurd (List.eq_nil_of_length_eq_zero e) h0
              · exact e
            have hdec := dec_of (l.length - 1) l (by omega) ((digB_iff l).1 h3) (fun e => by
              rcases Nat.lt_or_ge 1 l.length with g | g
              · exact absurd ⟨e, .inl g⟩ h2
              · omega)
            have hv := (Prod.mk.inj h).1
            refine ⟨fold 0 l, hdec, by omega, fun hn => ?_, fun hn => ?_, hv.symm⟩
            · rcases Nat.lt_or_ge (fold 0 l) 9223372036854775808 with g | g
              · exact g
              · exact absurd (by rcases Nat.lt_or_ge 9223372036854775808 (fold 0 l) with g2 | g2; exact .inl g2; exact .inr ⟨by omega, hn⟩) h4
            · rcases Nat.eq_zero_or_pos (fold 0 l) with g | g
              · rw [g, Lib.decDigits_one (by omega)] at hdec
                exact absurd ⟨by rw [← hdec]; rfl, .inr hn⟩ h2
              · exact g
        · rw [if_neg h3] at h; simp at h
theorem core_dec (neg : Bool) (n : Nat) (h : n ≤ 9223372036854775808) (hn : neg = false → n < 9223372036854775808) (hp : neg = true → 1 ≤ n) : core neg (Lib.decDigits n) = (if neg = true then -(n : Int) else (n : Int), true) := by
  have hl := dec_len 18 n (by have e : 10 ^ (18 + 1) = 10000000000000000000 := by decide
                              omega)
  unfold core
  rw [if_neg (dec_ne n), if_neg (by omega), if_neg, if_pos ((digB_iff _).2 (dig_dec n)), fold_dec]
  · unfold fin
    rw [if_neg]
    rintro (g | ⟨g, e⟩)
    · omega
    · have := hn e
      omega
  · rintro ⟨g, e⟩
    rcases Nat.eq_zero_or_pos n with z | z
    · subst z
      rw [Lib.decDigits_one (by omega)] at e
      rcases e with e | e
      · simp at e
      · have := hp e
        omega
    · cases hd : Lib.decDigits n with
      | nil => exact dec_ne n hd
      | cons c r =>
        rw [hd] at g
        simp only [List.head?_cons, Option.some.injEq] at g
        subst g
        exact dec_head n z r hd
theorem refP_itoa (v : Int) (h0 : -9223372036854775808 ≤ v) (h1 : v ≤ 9223372036854775807) : refP (Lib.itoa v) = (v, true) := by
  unfold Lib.itoa
  split
  · rename_i hn
    have hr : refP (45 :: Lib.decDigits v.natAbs) = core true (Lib.decDigits v.natAbs) := by simp only [refP, if_true]
    rw [hr, core_dec true v.natAbs (by omega) (fun e => by cases e) (fun _ => by omega), if_pos rfl]
    congr 1
    omega
  · rename_i hn
    obtain ⟨c, r, hc, h2, h3⟩ := dec_cons v.toNat
    have hr : refP (Lib.decDigits v.toNat) = core false (Lib.decDigits v.toNat) := by
      rw [hc]
      simp only [refP]
      rw [if_neg]
      intro e
      rw [e] at h2
      exact absurd h2 (by decide)
    rw [hr, core_dec false v.toNat (by omega) (fun _ => by omega) (fun e => by cases e)]
    simp
    omega
theorem refP_good (l : List UInt8) (v : Int) (h : refP l = (v, true)) : Lib.itoa v = l ∧ -9223372036854775808 ≤ v ∧ v ≤ 9223372036854775807 := by
  have plain : ∀ l, core false l = (v, true) → Lib.itoa v = l ∧ -9223372036854775808 ≤ v ∧ v ≤ 9223372036854775807 := by
    intro l h
    obtain ⟨n, hd, h1, h2, _, hv⟩ := core_good false l v h
    have h2 := h2 rfl
    simp only [Bool.false_eq_true, if_false] at hv
    subst hv
    exact ⟨by rw [Lib.itoa_nonneg, hd], by omega, by omega⟩
  cases l with
  | nil => exact plain _ h
  | cons c r =>
    simp only [refP] at h
    by_cases hc : c = 45
    · rw [if_pos hc] at h
      obtain ⟨n, hd, h1, _, h2, hv⟩ := core_good true r v h
      have h2 := h2 rfl
      simp only [if_true] at hv
      subst hv
      subst hc
      exact ⟨by rw [Lib.itoa_neg n h2, hd], by omega, by omega⟩
    · rw [if_neg hc] at h
      exact plain _ h
theorem core_snd (neg : Bool) (l : List UInt8) (h : (core neg l).2 = false) : core neg l = (0, false) := by
  unfold core at h ⊢
  repeat' split
  all_goals first | rfl | skip
  rename_i h0 h1 h2 h3
  rw [if_neg h0, if_neg h1, if_neg h2, if_pos h3] at h
  unfold fin at h ⊢
  split
  · rfl
  · rename_i h4
    rw [if_neg h4] at h
    cases h
theorem refP_snd (l : List UInt8) (h : (refP l).2 = false) : refP l = (0, false) := by
  cases l with
  | nil => exact core_snd _ _ h
  | cons c r =>
    simp only [refP] at h ⊢
    split
    · rename_i hc
      rw [if_pos hc] at h
      exact core_snd _ _ h
    · rename_i hc
      rw [if_neg hc] at h
      exact core_snd _ _ h
theorem parse_both (s : ByteArray) (hs : s.size ≤ 60) : num_Parse.f s = some ((refP s.data.toList).1, if (refP s.data.toList).2 = true then none else some 118) := by
  unfold num_Parse.f
  cases h : (refP s.data.toList).2 with
  | true =>
    have hg : refP s.data.toList = ((refP s.data.toList).1, true) := by rw [← h]
    obtain ⟨h1, h2, h3⟩ := refP_good _ _ hg
    exact parse_at s _ h2 h3 h1.symm
  | false =>
    rw [refP_snd _ h]
    refine parse_none s (by omega) fun v h0 h1 e => ?_
    rw [← e, refP_itoa v h0 h1] at h
    cases h

theorem do_div (k : Nat) (a b : Int) : num_Do.f (k + 1) (⟨#[100, 105, 118]⟩ : ByteArray) a b = some (if b = 0 then 0 else wrap64 (Int.tdiv a b), if b = 0 then -2 else 0, true) := by
  unfold num_Do.f
  have e : (⟨#[100, 105, 118]⟩ : ByteArray).toList = [100, 105, 118] := lit_toList [100, 105, 118]
  rw [e, if_neg (by decide), if_neg (by decide), if_neg (by decide), if_neg (by decide), if_neg (by decide), if_pos rfl]
  simp only [num_Do.j0]
  unfold num_divide.f Ext.num_divide.f
  rw [e]
  by_cases h : b = 0 <;> simp [h]
theorem first_ok (k : Nat) : gristmilllaw2_first.f (k + 1) = some true := by
  unfold gristmilllaw2_first.f
  rw [do_div, Option.bind_some]
  simp only [if_true]
  have ht : num_Text.f (-5) = _ := text_at (-5) (by decide) (by decide)
  rw [ht, Option.bind_some, lit_toList]
  have e5 : Lib.itoa (-5) = [45, 53] := by
    simp [Lib.itoa, Lib.decDigits]
  rw [e5]
  simp only [gristmilllaw2_first.j0]
  rfl
theorem is_number (k : Nat) : gristmillsee_Is.f (k + 1) (some 118) 118 = some true := by
  unfold gristmillsee_Is.f gristmillref_Bare.f
  rw [Option.bind_some]
  unfold gristmillsee_Same.f gristmillsee_Fault.f See.gristmillsee_Fault.f
  simp only
  rw [if_pos ⟨by decide, by decide⟩, Option.bind_some]
  unfold gristmillref_SameFault.f
  simp only
  simp only [if_true, gristmillref_SameFault.j0]
  rfl
theorem text1 (a : Int) : gristmillref1_NumText.f a = num_Text.f a := by
  unfold gristmillref1_NumText.f num_Text.f ExtE.num_Text.f strconv_FormatInt.f
  cases Ext.strconv_FormatInt.f a 10 <;> rfl
theorem one_ok (x : ByteArray) (a : Int) (n : Int) (b : Bool) (a0 : -9223372036854775808 ≤ a) (a1 : a ≤ 9223372036854775807) (hn : Ev (fun k => gristmillref1_Arity.f k x) n) (hb : b = decide (n > 0)) :
    Ev (fun k => gristmilllaw2_NumSays.j1 k x a true n b false) true := by
  obtain ⟨c, hf, hf1⟩ := floaty x
  have ht : num_Text.f a = _ := text_at a a0 a1
  have h2 : ∀ y : Bool, Ev (fun k => gristmilllaw2_NumSays.j2 k y) y := fun y => Ev.step (f := fun _ => some y) (fun k => by simp only [gristmilllaw2_NumSays.j2]) (Ev.now _)
  refine Ev.step (f := fun k => (gristmillref1_Arity.f k x).bind fun t167 => if n = t167 then (if (b == decide (n > 0)) = true then ((num_Floaty.f k x).bind fun t168 => ((gristmillref1_Floaty.f k x).bind fun t169 => (if (t168 == t169) = true then ((gristmillref_SameTexts.f k PR PR).bind fun t176 => (gristmilllaw2_NumSays.j2 k t176)) else (gristmilllaw2_NumSays.j2 k false)))) else (gristmilllaw2_NumSays.j2 k false)) else (gristmilllaw2_NumSays.j2 k false)) (fun k => ?_) ?_
  · simp only [gristmilllaw2_NumSays.j1]
    rw [if_neg (by simp), if_true, ht, Option.bind_some, text1, ht, Option.bind_some, if_pos rfl, prims, prims1]
    rfl
  · refine Ev.bind hn ?_
    simp only [if_true, hb, beq_self_eq_true]
    refine Ev.bind hf (Ev.bind hf1 ?_)
    simp only [beq_self_eq_true, if_true]
    exact Ev.bind Same_ev (h2 true)
end S
theorem NumSays : gristmilllaw2_NumSays.Pure := by
  intro x s a b hx hs ha hb
  obtain ⟨a0, a1⟩ := bounds_i64 ha
  have fst : Ev (fun k => gristmilllaw2_first.f k) true := Ev.step (f := fun _ => some true) S.first_ok (Ev.now _)
  have skip : Ev (fun k => gristmilllaw2_NumSays.j0 k x s a b true true) true := Ev.step (f := fun _ => some true) (fun k => by simp only [gristmilllaw2_NumSays.j0, if_true]) (Ev.now _)
  refine Ev.rounds (g := fun k => gristmilllaw2_NumSays.f k x s a b) ?_
  unfold gristmilllaw2_NumSays.f
  refine Ev.bind fst ?_
  simp only [if_true]
  by_cases h1 : (s.size : Int) > 60
  · simp only [if_pos h1]
    exact skip
  · simp only [if_neg h1]
    cases h2 : decide ((x.size : Int) > 60) with
    | true => exact skip
    | false =>
      obtain ⟨r, hd, hd1⟩ := S.do_same x a b
      obtain ⟨n, y, hn, hn1, hy⟩ := S.arity x
      have hp := S.parse_both s (by omega)
      have hp1 := S.parse_ev s
      have hone := S.one_ok x a n y a0 a1 hn1 hy
      refine Ev.step (fun k => by simp only [gristmilllaw2_NumSays.j0, Bool.false_eq_true, if_false]; rfl) ?_
      refine Ev.bind hd ?_
      have hp' : num_Parse.f s = _ := hp
      simp only [hd1, hp', Option.bind_some]
      refine Ev.bind hp1 (Ev.bind hn ?_)
      simp only [if_true, bne_self_eq_false, Bool.false_eq_true, if_false]
      cases hg : (S.refP s.data.toList).2 with
      | true =>
        simp only [if_true, Option.isNone_none, bne_self_eq_false, Bool.false_eq_true, if_false]
        exact hone
      | false =>
        simp only [Bool.false_eq_true, if_false, Option.isNone_some, bne_self_eq_false, Option.getD_some]
        refine Ev.bind (Ev.step (f := fun _ => some true) S.is_number (Ev.now _)) ?_
        exact hone
end Go.Proofs.YtkikfkhonjobcaaDoor.Pure
