/- Nothing is a name and a great one; a letter more at a name's end is a name still; a sign in it is none: the pure law of LexNames, for every number and text (the statement's own guard: at most 60 bytes). -/
import Derived.Test.YtiacndjjppcaoaaDoorPureLexApart
import Derived.Test.YtiacndjjppcaoaaDoorPLexx8
import Derived.Test.YtiacndjjppcaoaaDoorLexNm
namespace Go.Proofs.YtiacndjjppcaoaaDoor.Pure
open Go.RowKit Go.Proofs.YtiacndjjppcaoaaDoor.PLex Go.Proofs.YtiacndjjppcaoaaDoor.LexSpec Go.Proofs.YtiacndjjppcaoaaDoorW.PrintWords Go.Proofs.YtiacndjjppcaoaaDoorW.PrintLast
set_option linter.unusedVariables false
set_option linter.unusedSimpArgs false

theorem name_not_upper (s : ByteArray) (h : NameB s = true) : UpperB s = false := by
  unfold NameB UpperB headB at *
  cases hl : s.data.toList with
  | nil => rfl
  | cons c r =>
    rw [hl] at h
    simp only [Bool.and_eq_true, smI, grI, decide_eq_true_eq] at h ⊢
    simp only [Bool.and_eq_false_iff, decide_eq_false_iff_not]
    left
    omega
theorem restB_snoc (s : ByteArray) (c : UInt8) : restB (s ++ ⟨#[c]⟩) = (s.data.toList.all nc && nc c && decide (s.size + 1 ≤ 40)) := by
  unfold restB
  simp only [ByteArray.data_append, Array.toList_append, List.all_append, ByteArray.size_append, show (⟨#[c]⟩ : ByteArray).size = 1 from rfl]
  simp
theorem headB_snoc (p : Int → Bool) (s : ByteArray) (c : UInt8) (h : headB p s = true) : headB p (s ++ ⟨#[c]⟩) = true := by
  unfold headB at *
  cases hl : s.data.toList with
  | nil => rw [hl] at h; exact absurd h (by simp)
  | cons d r =>
    rw [hl] at h
    simp only [ByteArray.data_append, Array.toList_append, hl, List.cons_append]
    exact h
theorem name_more (s : ByteArray) (c : UInt8) (hc : nc c = true) (h : NameB s = true) (hs : s.size < 40) (hk : among KEPT (s ++ ⟨#[c]⟩) = false) : NameB (s ++ ⟨#[c]⟩) = true := by
  unfold NameB at *
  simp only [Bool.and_eq_true, Bool.not_eq_true'] at h
  rw [headB_snoc _ _ _ h.1.1, restB_snoc, hk, hc]
  have := h.1.2
  unfold restB at this
  simp only [Bool.and_eq_true, decide_eq_true_eq] at this
  rw [this.1]
  simp
  omega
theorem upper_more (s : ByteArray) (c : UInt8) (hc : nc c = true) (h : UpperB s = true) (hs : s.size < 40) : UpperB (s ++ ⟨#[c]⟩) = true := by
  unfold UpperB at *
  simp only [Bool.and_eq_true] at h
  rw [headB_snoc _ _ _ h.1, restB_snoc, hc]
  have := h.2
  unfold restB at this
  simp only [Bool.and_eq_true, decide_eq_true_eq] at this
  rw [this.1]
  simp
  omega
theorem name_sign (s : ByteArray) (c : UInt8) (hc : nc c = false) : NameB (s ++ ⟨#[c]⟩) = false := by
  unfold NameB
  rw [restB_snoc, hc]
  simp
theorem upper_sign (s : ByteArray) (c : UInt8) (hc : nc c = false) : UpperB (s ++ ⟨#[c]⟩) = false := by
  unfold UpperB
  rw [restB_snoc, hc]
  simp

theorem j2_ev (s : ByteArray) (hs : s.size ≤ 60) : Ev (fun k => gristmilllaw3_LexNames.j2 k s true false) true := by
  obtain ⟨K1, e1⟩ := Name_ev (s ++ (⟨#[45]⟩ : ByteArray)) (by simp only [ByteArray.size_append]; have : (⟨#[45]⟩ : ByteArray).size = 1 := rfl; omega)
  obtain ⟨K2, e2⟩ := Name_ev (s ++ (⟨#[32]⟩ : ByteArray)) (by simp only [ByteArray.size_append]; have : (⟨#[32]⟩ : ByteArray).size = 1 := rfl; omega)
  obtain ⟨K3, e3⟩ := Upper_ev (s ++ (⟨#[39]⟩ : ByteArray)) (by simp only [ByteArray.size_append]; have : (⟨#[39]⟩ : ByteArray).size = 1 := rfl; omega)
  obtain ⟨K4, e4⟩ := Name_ev (⟨#[]⟩ : ByteArray) (by decide)
  obtain ⟨K5, e5⟩ := Upper_ev (⟨#[]⟩ : ByteArray) (by decide)
  rw [name_sign s 45 (by decide)] at e1
  rw [name_sign s 32 (by decide)] at e2
  rw [upper_sign s 39 (by decide)] at e3
  rw [show NameB (⟨#[]⟩ : ByteArray) = false from rfl] at e4
  rw [show UpperB (⟨#[]⟩ : ByteArray) = false from rfl] at e5
  refine ⟨K1 + K2 + K3 + K4 + K5 + 1, fun k hk => ?_⟩
  obtain ⟨k, rfl⟩ : ∃ m, k = m + 1 := ⟨k - 1, by omega⟩
  replace e1 : lex_Name.f k _ = some _ := e1 k (by omega)
  replace e2 : lex_Name.f k _ = some _ := e2 k (by omega)
  replace e3 : lex_Upper.f k _ = some _ := e3 k (by omega)
  replace e4 : lex_Name.f k _ = some _ := e4 k (by omega)
  replace e5 : lex_Upper.f k _ = some _ := e5 k (by omega)
  simp only [gristmilllaw3_LexNames.j2]
  rw [if_neg (by simp), if_pos (by trivial), if_pos (by omega), e1, Option.bind_some, if_neg (by simp), e2, Option.bind_some, if_neg (by simp), e3, Option.bind_some, if_neg (by simp), e4, Option.bind_some, if_neg (by simp), e5]
  rfl

theorem j1_ev (s : ByteArray) (hs : s.size ≤ 60) (c : UInt8) (hc : nc c = true) (b : Bool) (hb : b = false → among KEPT (s ++ ⟨#[c]⟩) = false) :
    Ev (fun k => gristmilllaw3_LexNames.j1 k s true (s ++ (⟨#[c]⟩ : ByteArray)) (decide ((s.size : Int) < 40)) b) true := by
  obtain ⟨K1, e1⟩ := Name_ev s (by omega)
  obtain ⟨K2, e2⟩ := Upper_ev s (by omega)
  obtain ⟨K3, e3⟩ := Name_ev (s ++ (⟨#[c]⟩ : ByteArray)) (by simp only [ByteArray.size_append]; have : (⟨#[c]⟩ : ByteArray).size = 1 := rfl; omega)
  obtain ⟨K4, e4⟩ := Upper_ev (s ++ (⟨#[c]⟩ : ByteArray)) (by simp only [ByteArray.size_append]; have : (⟨#[c]⟩ : ByteArray).size = 1 := rfl; omega)
  obtain ⟨K5, e5⟩ := j2_ev s hs
  refine ⟨K1 + K2 + K3 + K4 + K5 + 1, fun k hk => ?_⟩
  obtain ⟨k, rfl⟩ : ∃ m, k = m + 1 := ⟨k - 1, by omega⟩
  replace e1 : lex_Name.f k _ = some _ := e1 k (by omega)
  replace e2 : lex_Upper.f k _ = some _ := e2 k (by omega)
  replace e3 : lex_Name.f k _ = some _ := e3 k (by omega)
  replace e4 : lex_Upper.f k _ = some _ := e4 k (by omega)
  replace e5 : gristmilllaw3_LexNames.j2 k s true false = some true := e5 k (by omega)
  simp only [gristmilllaw3_LexNames.j1]
  simp only [e1, e2, e3, e4, Option.bind_some]
  by_cases hN : NameB s = true
  · have hU := name_not_upper s hN
    simp only [hN, hU, if_true]
    by_cases hl : s.size < 40
    · have hl' : decide ((s.size : Int) < 40) = true := by simp; omega
      simp only [hl', if_true]
      cases b with
      | true => simpa using e5
      | false => simpa [name_more s c hc hN hl (hb rfl)] using e5
    · have hl' : decide ((s.size : Int) < 40) = false := by simp; omega
      simp only [hl']
      simpa using e5
  · have hN' : NameB s = false := by simpa using hN
    simp only [hN']
    by_cases hU : UpperB s = true
    · by_cases hl : s.size < 40
      · have hl' : decide ((s.size : Int) < 40) = true := by simp; omega
        simp only [hl', hU, upper_more s c hc hU hl]
        simpa using e5
      · have hl' : decide ((s.size : Int) < 40) = false := by simp; omega
        simp only [hl', hU]
        simpa using e5
    · simp only [show UpperB s = false by simpa using hU]
      simpa using e5

theorem pick_ok (t : Int) (h0 : 0 ≤ t) (h1 : t < 9) : ∃ c : UInt8, strOfNums [bt (⟨#[97, 98, 122, 95, 48, 49, 57, 65, 90]⟩ : ByteArray) t] = ⟨#[c]⟩ ∧ nc c = true := by
  obtain rfl | rfl | rfl | rfl | rfl | rfl | rfl | rfl | rfl : t = 0 ∨ t = 1 ∨ t = 2 ∨ t = 3 ∨ t = 4 ∨ t = 5 ∨ t = 6 ∨ t = 7 ∨ t = 8 := by omega
  all_goals exact ⟨_, rfl, by decide⟩

theorem j0_ev (n : Int) (s : ByteArray) (hs : s.size ≤ 60) : Ev (fun k => gristmilllaw3_LexNames.j0 k n s true false) true := by
  obtain ⟨t, ht, h0, h1⟩ := number_ok n 9 (by omega) (by omega)
  obtain ⟨c, hc, hn⟩ := pick_ok t h0 h1
  obtain ⟨K1, e1⟩ := j1_ev s hs c hn true (by simp)
  obtain ⟨K2, e2⟩ : ∃ K2, ∀ k, K2 ≤ k → among KEPT (s ++ ⟨#[c]⟩) = false → gristmilllaw3_LexNames.j1 k s true (s ++ (⟨#[c]⟩ : ByteArray)) (decide ((s.size : Int) < 40)) false = some true := by
    by_cases h : among KEPT (s ++ ⟨#[c]⟩) = false
    · obtain ⟨K, e⟩ := j1_ev s hs c hn false (fun _ => h)
      exact ⟨K, fun k hk _ => e k hk⟩
    · exact ⟨0, fun k _ h' => absurd h' h⟩
  refine ⟨K1 + K2 + 1, fun k hk => ?_⟩
  obtain ⟨k, rfl⟩ : ∃ m, k = m + 1 := ⟨k - 1, by omega⟩
  have e1 : ∀ k', k' = k → gristmilllaw3_LexNames.j1 k' s true (s ++ (⟨#[c]⟩ : ByteArray)) (decide ((s.size : Int) < 40)) true = some true := fun k' e => by subst e; exact e1 _ (by omega)
  simp only [gristmilllaw3_LexNames.j0]
  rw [if_neg (by simp), ht, Option.bind_some, if_pos h0, if_pos h1, Option.bind_some, hc, if_pos (by have : (⟨#[c]⟩ : ByteArray).size = 1 := rfl; omega)]
  by_cases g1 : (s ++ (⟨#[c]⟩ : ByteArray)).toList = ([102, 110] : List UInt8)
  · rw [if_pos g1]
    exact e1 k rfl
  rw [if_neg g1]
  by_cases g2 : (s ++ (⟨#[c]⟩ : ByteArray)).toList = ([108, 101, 116] : List UInt8)
  · rw [if_pos g2]
    exact e1 k rfl
  rw [if_neg g2]
  by_cases g3 : (s ++ (⟨#[c]⟩ : ByteArray)).toList = ([99, 97, 115, 101] : List UInt8)
  · rw [if_pos g3]
    exact e1 k rfl
  rw [if_neg g3]
  by_cases g4 : (s ++ (⟨#[c]⟩ : ByteArray)).toList = ([102, 97, 105, 108] : List UInt8)
  · rw [if_pos g4]
    exact e1 k rfl
  rw [if_neg g4]
  by_cases g5 : (s ++ (⟨#[c]⟩ : ByteArray)).toList = ([100, 97, 116, 97] : List UInt8)
  · rw [if_pos g5]
    exact e1 k rfl
  rw [if_neg g5]
  by_cases g6 : (s ++ (⟨#[c]⟩ : ByteArray)).toList = ([100, 101, 102] : List UInt8)
  · rw [if_pos g6]
    exact e1 k rfl
  rw [if_neg g6]
  by_cases g7 : (s ++ (⟨#[c]⟩ : ByteArray)).toList = ([100, 105, 118] : List UInt8)
  · rw [if_pos g7]
    exact e1 k rfl
  rw [if_neg g7]
  by_cases g8 : (s ++ (⟨#[c]⟩ : ByteArray)).toList = ([109, 111, 100] : List UInt8)
  · rw [if_pos g8]
    exact e1 k rfl
  rw [if_neg g8]
  by_cases g9 : (s ++ (⟨#[c]⟩ : ByteArray)).toList = ([102, 108, 111, 97, 116] : List UInt8)
  · rw [if_pos g9]
    exact e1 k rfl
  rw [if_neg g9]
  by_cases g10 : (s ++ (⟨#[c]⟩ : ByteArray)).toList = ([119, 104, 111, 108, 101] : List UInt8)
  · rw [if_pos g10]
    exact e1 k rfl
  rw [if_neg g10]
  by_cases g11 : (s ++ (⟨#[c]⟩ : ByteArray)).toList = ([115, 101, 113] : List UInt8)
  · rw [if_pos g11]
    exact e1 k rfl
  rw [if_neg g11]
  by_cases g12 : (s ++ (⟨#[c]⟩ : ByteArray)).toList = ([105, 110, 102] : List UInt8)
  · rw [if_pos g12]
    exact e1 k rfl
  rw [if_neg g12]
  cases hb : ((s ++ (⟨#[c]⟩ : ByteArray)).toList == ([110, 97, 110] : List UInt8)) with
  | true => exact e1 k rfl
  | false =>
    have g13 : ¬ (s ++ (⟨#[c]⟩ : ByteArray)).toList = ([110, 97, 110] : List UInt8) := by simpa using hb
    refine e2 k (by omega) ?_
    rw [ByteArray.toList_eq] at g1 g2 g3 g4 g5 g6 g7 g8 g9 g10 g11 g12 g13
    simp only [among, KEPT, List.any_cons, List.any_nil, Bool.or_eq_false_iff, beq_eq_false_iff_ne]
    exact ⟨fun e => g1 e.symm, fun e => g2 e.symm, fun e => g3 e.symm, fun e => g4 e.symm, fun e => g5 e.symm, fun e => g6 e.symm, fun e => g7 e.symm, fun e => g8 e.symm, fun e => g9 e.symm, fun e => g10 e.symm, fun e => g11 e.symm, fun e => g12 e.symm, fun e => g13 e.symm, trivial⟩

theorem LexNames : gristmilllaw3_LexNames.Pure := by
  intro a0 a1 _ h1
  apply Ev.rounds
  unfold gristmilllaw3_LexNames.f
  refine Ev.bind first_ev ?_
  simp only [if_true]
  by_cases h0 : (a1.size : Int) > 60
  · simp only [if_pos h0]
    exact Ev.now true
  · simp only [if_neg h0]
    refine Ev.bind (Name_ev a1 h1) ?_
    by_cases hN : NameB a1 = true
    · simp only [hN, if_true]
      refine Ev.bind (Upper_ev a1 h1) ?_
      rw [name_not_upper a1 hN]
      exact j0_ev a0 a1 (by omega)
    · simp only [show NameB a1 = false by simpa using hN]
      exact j0_ev a0 a1 (by omega)
end Go.Proofs.YtiacndjjppcaoaaDoor.Pure
