/- Two texts with a line's end between have the words of both; a note takes what is on its line: the pure law of LexJoins, for every two texts (the statement's own guard: at most 200 bytes each). -/
import Derived.Test.YtiacndjjppcaoaaDoorPureLexApart
import Derived.Test.YtiacndjjppcaoaaDoorPLexx3
namespace Go.Proofs.YtiacndjjppcaoaaDoor.Pure
open Go.RowKit Go.Proofs.YtiacndjjppcaoaaDoor.PLex Go.Proofs.YtiacndjjppcaoaaDoor.LexSpec Go.Proofs.YtiacndjjppcaoaaDoorW.PrintWords Go.Proofs.YtiacndjjppcaoaaDoorW.PrintLast
set_option linter.unusedVariables false
set_option linter.unusedSimpArgs false

theorem wrap_small (x : Int) (h0 : -4611686018427387904 ≤ x) (h1 : x ≤ 4611686018427387904) : wrap64 x = x := by
  unfold wrap64
  omega
theorem rd_cv (W : List Wd) (j : Nat) (h : j < W.length) : rd_T32 (W.map cv) (j : Int) = cv W[j] := by simp [rd_T32, h]

theorem note_ev (x1 : ByteArray) (h1 : x1.size ≤ 200) (x6 x14 : List S32) (h6 : x6.length ≤ 200) (h14 : x14.length = x6.length + nlen x1.data.toList) (d : Nat) : ∀ j : Nat, j + d = x1.size → nlen (x1.data.toList.drop j) = nlen x1.data.toList →
    Ev (fun k => gristmilllaw3_LexJoins.l1 k x1 true x6 x14 none (j : Int)) true := by
  have hM : nlen x1.data.toList ≤ 200 := Nat.le_trans (lx_length _ 0).2.1 (by rw [data_length]; exact h1)
  have hend : ∀ j : Nat, j ≤ x1.size → (lx 0 .gap (x1.data.toList.drop j)).length = nlen x1.data.toList →
      Ev (fun k => (lex_Words.f k (x1.extract ((j : Int)).toNat x1.size)).bind fun bt183 => (if (true : Bool) = true then (if (none : Option Int).isNone = true then (if bt183.2.isNone = true then (some ((x14.length : Int) == (wrap64 ((x6.length : Int) + (bt183.1.length : Int))))) else (some false)) else (some false)) else (some false))) true := by
    intro j hj hn
    have e : (x1.extract ((j : Int)).toNat x1.size).data.toList = x1.data.toList.drop j := by
      rw [Int.toNat_natCast, ext_toList, List.take_of_length_le (by rw [data_length]; omega)]
    have hw := Words_ev (x1.extract ((j : Int)).toNat x1.size) (by simp; omega)
    rw [e] at hw
    refine Ev.bind hw (Ev.congr (fun k => ?_) (Ev.now true))
    rw [if_pos (by rfl), if_pos (by rfl), if_pos (by rfl)]
    simp only [List.length_map, hn, Option.some.injEq, beq_iff_eq, h14]
    unfold wrap64
    omega
  induction d with
  | zero =>
    intro j hj hn
    refine Ev.step (fun k => ?_) (hend j (by omega) ?_)
    · simp only [gristmilllaw3_LexJoins.l1]
      rw [if_neg (by omega), if_pos (by omega), if_pos (by omega)]
    · rw [← hn, List.drop_eq_nil_of_le (by rw [data_length]; omega)]
      rfl
  | succ d ih =>
    intro j hj hn
    have hlt : j < x1.size := by omega
    have hd := drop_get x1 j hlt
    have hb := bt_get x1 j hlt
    generalize hc : x1[j] = c at hb hd
    by_cases hnl : c = 10
    · subst hnl
      refine Ev.step (fun k => ?_) (hend j (by omega) ?_)
      · simp only [gristmilllaw3_LexJoins.l1]
        rw [if_pos (by omega), if_pos (by omega), hb, if_pos ((c10 _).2 rfl), if_pos (by omega)]
      · rw [← hn, hd, nlen_nl]
    · refine Ev.step (fun k => ?_) (ih (j + 1) (by omega) ?_)
      · simp only [gristmilllaw3_LexJoins.l1]
        rw [if_pos (by omega), if_pos (by omega), hb, if_neg (by rw [c10]; exact hnl), wrap_in j (by omega)]
      · rw [← hn, hd, nlen_on hnl]

theorem both_ev (x0 x1 : ByteArray) (h0 : x0.size ≤ 200) (h1 : x1.size ≤ 200) (A B : List Wd) (hA : A = lx 0 .gap x0.data.toList) (hB : B = lx 0 .gap x1.data.toList) (d : Nat) : ∀ j : Nat, j + d = A.length + B.length →
    Ev (fun k => gristmilllaw3_LexJoins.l0 k x0 x1 true (A.map cv) (B.map cv) ((A ++ B.map (sh (x0.size + 1))).map cv) (j : Int)) true := by
  have hAl : A.length ≤ 200 := by rw [hA]; exact Nat.le_trans (lx_length _ 0).1 (by rw [data_length]; exact h0)
  have hBl : B.length ≤ 200 := by rw [hB]; exact Nat.le_trans (lx_length _ 0).1 (by rw [data_length]; exact h1)
  induction d with
  | zero =>
    intro j hj
    have hw := Words_ev ((x0 ++ (⟨#[10, 59]⟩ : ByteArray)) ++ x1) (by simp only [ByteArray.size_append]; have : (⟨#[10, 59]⟩ : ByteArray).size = 2 := rfl; omega)
    have e : ((x0 ++ (⟨#[10, 59]⟩ : ByteArray)) ++ x1).data.toList = x0.data.toList ++ 10 :: (59 :: x1.data.toList) := by simp
    rw [e, lx_join, lx_gap_semi, ← hA] at hw
    have hn := note_ev x1 h1 (A.map cv) ((A ++ lx (0 + x0.data.toList.length + 1 + 1) .note x1.data.toList).map cv) (by simpa using hAl) (by rw [lx_note_shift]; simp [nlen]) x1.size 0 (by omega) rfl
    refine Ev.step (f := fun k => (lex_Words.f k ((x0 ++ (⟨#[10, 59]⟩ : ByteArray)) ++ x1)).bind fun bt179 => (gristmilllaw3_LexJoins.l1 k x1 true (A.map cv) bt179.1 bt179.2 0)) (fun k => ?_) (Ev.bind hw hn)
    simp only [gristmilllaw3_LexJoins.l0]
    rw [if_neg (by simp; omega), if_pos (by omega), if_pos (by simp only [ByteArray.size_append]; have : (⟨#[10, 59]⟩ : ByteArray).size = 2 := rfl; omega)]
  | succ d ih =>
    intro j hj
    have hlt : j < (A ++ B.map (sh (x0.size + 1))).length := by simp; omega
    have ec := rd_cv (A ++ B.map (sh (x0.size + 1))) j hlt
    have hnext := ih (j + 1) (by omega)
    by_cases hja : j < A.length
    · have ea := rd_cv A j hja
      have e1 : (A ++ B.map (sh (x0.size + 1)))[j] = A[j] := by rw [List.getElem_append_left hja]
      rw [e1] at ec
      refine Ev.step (f := fun k => gristmilllaw3_LexJoins.j3 k x0 x1 true (A.map cv) (B.map cv) ((A ++ B.map (sh (x0.size + 1))).map cv) (j : Int) false) (fun k => ?_) (Ev.step (fun k => ?_) hnext)
      · simp only [gristmilllaw3_LexJoins.l0]
        rw [if_pos (by simp; omega), if_pos (by simp; omega), if_pos (by omega), ec, ea, if_pos (by rfl)]
        simp
      · simp only [gristmilllaw3_LexJoins.j3]
        rw [if_neg (by simp), wrap_in j (by omega)]
    · have hjb : j - A.length < B.length := by omega
      have hwj : wrap64 ((j : Int) - ((A.map cv).length : Int)) = ((j - A.length : Nat) : Int) := by
        rw [List.length_map]
        unfold wrap64
        omega
      have eb := rd_cv B (j - A.length) hjb
      have e1 : (A ++ B.map (sh (x0.size + 1)))[j] = sh (x0.size + 1) B[j - A.length] := by rw [List.getElem_append_right (by omega)]; simp
      rw [e1] at ec
      have hpos : (B[j - A.length]).2 ≤ 200 := by
        have hm : B[j - A.length] ∈ lx 0 .gap x1.data.toList := by rw [← hB]; exact List.getElem_mem _
        have := lx_pos _ 0 .gap (by simp) _ hm
        rw [data_length] at this
        omega
      refine Ev.step (fun k => ?_) hnext
      simp only [gristmilllaw3_LexJoins.l0]
      rw [if_pos (by simp; omega), if_neg (by simp; omega), hwj, if_pos (by omega), if_pos (by simp; omega), if_pos (by omega), ec, eb, if_pos (by rfl), if_pos ?_, wrap_in j (by omega)]
      simp only [cv, sh]
      rw [wrap_small (((B[j - A.length]).2 : Int) + (x0.size : Int)) (by omega) (by omega), wrap_small _ (by omega) (by omega)]
      omega

theorem LexJoins : gristmilllaw3_LexJoins.Pure := by
  intro a0 a1 _ _
  apply Ev.rounds
  unfold gristmilllaw3_LexJoins.f
  refine Ev.bind first_ev ?_
  simp only [if_true]
  by_cases h0 : (a0.size : Int) > 200
  · simp only [if_pos h0]
    refine Ev.step (f := fun _ => some true) (fun k => ?_) (Ev.now true)
    simp only [gristmilllaw3_LexJoins.j0]
    rw [if_pos (by trivial)]
  · simp only [if_neg h0]
    by_cases h1 : (a1.size : Int) > 200
    · refine Ev.step (f := fun _ => some true) (fun k => ?_) (Ev.now true)
      simp only [gristmilllaw3_LexJoins.j0]
      rw [if_pos (by simpa using h1)]
    · have hA := Words_ev a0 (by omega)
      have hB := Words_ev a1 (by omega)
      have hC := Words_ev ((a0 ++ (⟨#[10]⟩ : ByteArray)) ++ a1) (by simp only [ByteArray.size_append]; have : (⟨#[10]⟩ : ByteArray).size = 1 := rfl; omega)
      have e : ((a0 ++ (⟨#[10]⟩ : ByteArray)) ++ a1).data.toList = a0.data.toList ++ 10 :: a1.data.toList := by simp
      rw [e, lx_join, lx_gap_shift (0 + a0.data.toList.length + 1), data_length, Nat.zero_add] at hC
      have hb := both_ev a0 a1 (by omega) (by omega) _ _ rfl rfl _ 0 (by rw [Nat.zero_add])
      have hAl : (lx 0 .gap a0.data.toList).length ≤ 200 := Nat.le_trans (lx_length _ 0).1 (by rw [data_length]; omega)
      have hBl : (lx 0 .gap a1.data.toList).length ≤ 200 := Nat.le_trans (lx_length _ 0).1 (by rw [data_length]; omega)
      obtain ⟨K1, e1⟩ := hA
      obtain ⟨K2, e2⟩ := hB
      obtain ⟨K3, e3⟩ := hC
      obtain ⟨K4, e4⟩ := hb
      refine ⟨K1 + K2 + K3 + K4 + 2, fun k hk => ?_⟩
      obtain ⟨k, rfl⟩ : ∃ m, k = m + 2 := ⟨k - 2, by omega⟩
      replace e1 : lex_Words.f (k + 1) a0 = some _ := e1 (k + 1) (by omega)
      replace e2 : lex_Words.f (k + 1) a1 = some _ := e2 (k + 1) (by omega)
      replace e3 : lex_Words.f (k + 1) _ = some _ := e3 (k + 1) (by omega)
      simp only [gristmilllaw3_LexJoins.j0]
      rw [if_neg (by simp; omega), e1, Option.bind_some, e2, Option.bind_some, if_pos (by omega), if_pos (by simp only [ByteArray.size_append]; have : (⟨#[10]⟩ : ByteArray).size = 1 := rfl; omega), e3, Option.bind_some, if_pos (by rfl), if_pos (by rfl), if_pos (by rfl)]
      simp only [gristmilllaw3_LexJoins.j1]
      rw [if_neg ?_]
      · exact e4 k (by omega)
      · simp only [List.length_map, List.length_append, bne_iff_ne, ne_eq, Decidable.not_not]
        rw [wrap_small _ (by omega) (by omega)]
        omega
end Go.Proofs.YtiacndjjppcaoaaDoor.Pure
