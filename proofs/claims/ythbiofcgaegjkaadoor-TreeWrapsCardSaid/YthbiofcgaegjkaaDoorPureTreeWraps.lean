/- The pure law of TreeWraps: two texts behind one another have the nodes of both; a text within brackets is one list of its nodes. Texts of at most 300 bytes each, as the statement says. No other condition. -/
import Derived.Test.YthbiofcgaegjkaaDoorPTreeAx2
import Derived.Test.YthbiofcgaegjkaaDoorTreeSpec2
namespace Go.Proofs.YthbiofcgaegjkaaDoor.Pure
open Go.RowKit Go.Proofs.YthbiofcgaegjkaaDoor.ExtE Go.Proofs.YthbiofcgaegjkaaDoor.PTreeA Go.Proofs.YthbiofcgaegjkaaDoorW.PrintWords Go.Proofs.YthbiofcgaegjkaaDoorW.PrintLast Go.Proofs.YthbiofcgaegjkaaDoor.LexSpec Go.Proofs.YthbiofcgaegjkaaDoor.TreeSpec
set_option linter.unusedVariables false
theorem num4 (x : Int) : ∃ n : Nat, n < 4 ∧ gristmillworld_Number.f x 4 = some (n : Int) := by
  unfold gristmillworld_Number.f
  rw [if_neg (by decide)]
  have h1 : -4 < Int.tmod x 4 := Int.lt_tmod_of_pos x (by decide)
  have h2 : Int.tmod x 4 < 4 := Int.tmod_lt_of_pos x (by decide)
  generalize Int.tmod x 4 = t at *
  by_cases h : t < 0
  · rw [if_pos h]
    exact ⟨(t + 4).toNat, by omega, by unfold wrap64; congr 1; omega⟩
  · rw [if_neg h]
    exact ⟨t.toNat, by omega, by congr 1; omega⟩
theorem l1_ev (a : List S39) (n : Nat) (hn : n ≤ 4) : ∀ (d i : Nat) (c : List S39), i + d = n → Un d c a → Ev (fun k => gristmilllaw4_TreeWraps.l1 k (n : Int) true a c (i : Int)) true := by
  intro d
  induction d with
  | zero =>
    intro i c hi h
    refine Ev.step (f := fun k => (tree_Same.f k c a).bind fun t => some t) (fun k => ?_) (Ev.bind (Same_ev h) (Ev.now _))
    simp only [gristmilllaw4_TreeWraps.l1]
    rw [if_neg (by omega), if_pos trivial]
  | succ d ih =>
    intro i c hi h
    obtain ⟨m, rfl, hm, h⟩ := h
    refine Ev.step (fun k => ?_) (ih (i + 1) m.f1 (by omega) h)
    simp only [gristmilllaw4_TreeWraps.l1]
    have e : rd_T39 [m] 0 = m := rfl
    rw [if_pos (by omega), if_pos (by rfl), if_pos (by simp), e, if_pos (by rw [hm, ByteArray.toList_eq]), show wrap64 ((i : Int) + 1) = ((i + 1 : Nat) : Int) by unfold wrap64; omega]
theorem j3_ev (a : List S39) (n : Nat) (hn : n ≤ 4) (c : List S39) (h : Un n c a) : Ev (fun k => gristmilllaw4_TreeWraps.j3 k (n : Int) true a c false) true := by
  refine Ev.step (fun k => ?_) (l1_ev a n hn n 0 c (by omega) h)
  simp only [gristmilllaw4_TreeWraps.j3]
  rw [if_neg (by decide)]
  rfl
theorem size_toList (s : ByteArray) : s.size = s.data.toList.length := (data_length s).symm
theorem l0_ev (s t : ByteArray) (hs : s.size ≤ 300) (ht : t.size ≤ 300) (ns : (nodes s.data.toList).2 = none) (nt : (nodes t.data.toList).2 = none) (n : Nat) (hn : n ≤ 4) : ∀ (d i : Nat) (x y : ByteArray), i + d = n → x.data.toList = List.replicate i 40 → y.data.toList = List.replicate i 41 →
    Ev (fun k => gristmilllaw4_TreeWraps.l0 k s t (n : Int) true (nodes s.data.toList).1 (nodes t.data.toList).1 x y (i : Int)) true := by
  intro d
  induction d with
  | zero =>
    intro i x y hi hx hy
    obtain rfl : i = n := by omega
    have hxs : x.size = i := by rw [size_toList, hx, List.length_replicate]
    have hys : y.size = i := by rw [size_toList, hy, List.length_replicate]
    have e1 : ((((x ++ s) ++ (⟨#[10]⟩ : ByteArray)) ++ y)).data.toList = List.replicate i 40 ++ (s.data.toList ++ 10 :: List.replicate i 41) := by
      simp [ByteArray.data_append, hx, hy]
    have e2 : ((s ++ (⟨#[10]⟩ : ByteArray)) ++ t).data.toList = s.data.toList ++ 10 :: t.data.toList := by
      simp [ByteArray.data_append]
    have z1 : (x ++ s).size = i + s.size := by rw [ByteArray.size_append, hxs]
    have z2 : ((x ++ s) ++ (⟨#[10]⟩ : ByteArray)).size = i + s.size + 1 := by rw [ByteArray.size_append, z1]; rfl
    have z3 : (((x ++ s) ++ (⟨#[10]⟩ : ByteArray)) ++ y).size = i + s.size + 1 + i := by rw [ByteArray.size_append, z2, hys]
    have z4 : (s ++ (⟨#[10]⟩ : ByteArray)).size = s.size + 1 := by rw [ByteArray.size_append]; rfl
    have z5 : ((s ++ (⟨#[10]⟩ : ByteArray)) ++ t).size = s.size + 1 + t.size := by rw [ByteArray.size_append, z4]
    have P1 := Parse_ev (((x ++ s) ++ (⟨#[10]⟩ : ByteArray)) ++ y) (by rw [z3]; omega)
    have P2 := Parse_ev ((s ++ (⟨#[10]⟩ : ByteArray)) ++ t) (by rw [z5]; omega)
    rw [e1] at P1
    rw [e2] at P2
    have D := Deep_ev (s := s.data.toList) (by rw [← size_toList]; omega) ns
    have hdp : dpL (nodes s.data.toList).1 ≤ s.size := by
      have := (nodes_at _ ns).deep
      rw [← size_toList] at this
      omega
    have hla : (nodes s.data.toList).1.length ≤ s.size := by
      have := (nodes_at _ ns).length
      rw [← size_toList] at this
      omega
    obtain ⟨j1, j2⟩ := nodes_join s.data.toList t.data.toList ns nt
    refine Ev.step (f := fun k => (tree_Parse.f k (((x ++ s) ++ (⟨#[10]⟩ : ByteArray)) ++ y)).bind fun bt122 => ((tree_Deep.f k (nodes s.data.toList).1).bind fun t126 => (if (wrap64 (t126 + (i : Int))) > 200 then (some true) else (if s.size + 1 ≤ 9223372036854775807 then (if (s ++ (⟨#[10]⟩ : ByteArray)).size + t.size ≤ 9223372036854775807 then ((tree_Parse.f k ((s ++ (⟨#[10]⟩ : ByteArray)) ++ t)).bind fun bt127 => (if bt122.2.isNone = true then (if bt127.2.isNone = true then ((some (([] : List (S39)) : List (S39))).bind fun y133 => (if y133.length + (nodes s.data.toList).1.length < 2932031007402 then ((some (y133 ++ (nodes s.data.toList).1 : List (S39))).bind fun y136 => (if y136.length + (nodes t.data.toList).1.length < 2932031007402 then ((tree_Same.f k bt127.1 (y136 ++ (nodes t.data.toList).1)).bind fun t142 => (gristmilllaw4_TreeWraps.j3 k (i : Int) true (nodes s.data.toList).1 bt122.1 (!t142))) else (none))) else (none))) else (none)) else (none))) else (none)) else (none))))) (fun k => ?_) (Ev.bind P1 (Ev.bind D ?_))
    · simp only [gristmilllaw4_TreeWraps.l0]
      rw [if_neg (by omega), if_pos (by omega), if_pos (by omega), if_pos (by omega)]
    · have hw : wrap64 ((dpL (nodes s.data.toList).1 : Int) + (i : Int)) = ((i + dpL (nodes s.data.toList).1 : Nat) : Int) := by unfold wrap64; omega
      simp only [hw]
      clear hw
      by_cases hd : i + dpL (nodes s.data.toList).1 ≤ 200
      · obtain ⟨w1, w2⟩ := nodes_wrap i s.data.toList ns hd
        have hlb : (nodes t.data.toList).1.length ≤ t.size := by
          have := (nodes_at _ nt).length
          rw [← size_toList] at this
          omega
        have c1 : ¬ (((i + dpL (nodes s.data.toList).1 : Nat) : Int) > 200) := by omega
        have c2 : s.size + 1 ≤ 9223372036854775807 := by omega
        have c3 : (s ++ (⟨#[10]⟩ : ByteArray)).size + t.size ≤ 9223372036854775807 := by omega
        have c4 : ([] : List S39).length + (nodes s.data.toList).1.length < 2932031007402 := by simp; omega
        have c5 : ([] ++ (nodes s.data.toList).1 : List S39).length + (nodes t.data.toList).1.length < 2932031007402 := by simp; omega
        simp only [if_neg c1, if_pos c2, if_pos c3]
        refine Ev.bind P2 ?_
        simp only [w1, j1, Option.isNone_none, if_true, Option.bind_some, if_pos c4, if_pos c5]
        refine Ev.bind (Same_ev (by rw [List.nil_append]; exact j2)) ?_
        exact j3_ev _ i hn _ w2
      · have c1 : ((i + dpL (nodes s.data.toList).1 : Nat) : Int) > 200 := by omega
        simp only [if_pos c1]
        exact Ev.now _
  | succ d ih =>
    intro i x y hi hx hy
    have hxs : x.size = i := by rw [size_toList, hx, List.length_replicate]
    have hys : y.size = i := by rw [size_toList, hy, List.length_replicate]
    refine Ev.step (fun k => ?_) (ih (i + 1) (x ++ (⟨#[40]⟩ : ByteArray)) (y ++ (⟨#[41]⟩ : ByteArray)) (by omega) (by simp [ByteArray.data_append, hx, List.replicate_succ']) (by simp [ByteArray.data_append, hy, List.replicate_succ']))
    simp only [gristmilllaw4_TreeWraps.l0]
    rw [if_pos (by omega), if_pos (by omega), if_pos (by omega), show wrap64 ((i : Int) + 1) = ((i + 1 : Nat) : Int) by unfold wrap64; omega]
theorem TreeWraps : gristmilllaw4_TreeWraps.Pure := by
  intro s t x hs ht hx
  apply Ev.rounds
  unfold gristmilllaw4_TreeWraps.f
  refine Ev.bind first_ev ?_
  simp only [if_true]
  have over : Ev (fun k => gristmilllaw4_TreeWraps.j0 k s t x true true) true := by
    refine Ev.step (f := fun _ => some true) (fun k => ?_) (Ev.now _)
    simp only [gristmilllaw4_TreeWraps.j0]
    rw [if_pos trivial]
  by_cases h1 : (s.size : Int) > 300
  · simp only [if_pos h1]
    exact over
  · simp only [if_neg h1]
    by_cases h2 : (t.size : Int) > 300
    · simp only [decide_eq_true h2]
      exact over
    · simp only [decide_eq_false h2]
      obtain ⟨n, hn, hN⟩ := num4 x
      have j1t : Ev (fun k => gristmilllaw4_TreeWraps.j1 k s t (n : Int) true (nodes s.data.toList).1 (nodes t.data.toList).1 true) true := by
        refine Ev.step (f := fun _ => some true) (fun k => ?_) (Ev.now _)
        simp only [gristmilllaw4_TreeWraps.j1]
        rw [if_pos trivial]
      refine Ev.step (f := fun k => (gristmillworld_Number.f x 4).bind fun t111 => ((tree_Parse.f k s).bind fun bt112 => ((tree_Parse.f k t).bind fun bt116 => (if bt112.2.isNone = true then (if bt116.2.isNone = true then (gristmilllaw4_TreeWraps.j1 k s t t111 true bt112.1 bt116.1 false) else (gristmilllaw4_TreeWraps.j1 k s t t111 true bt112.1 bt116.1 true)) else (gristmilllaw4_TreeWraps.j1 k s t t111 true bt112.1 bt116.1 true))))) (fun k => ?_) ?_
      · simp only [gristmilllaw4_TreeWraps.j0]
        rw [if_neg (by decide)]
      · simp only [hN, Option.bind_some]
        refine Ev.bind (Parse_ev s (by omega)) (Ev.bind (Parse_ev t (by omega)) ?_)
        cases ns : (nodes s.data.toList).2 with
        | some e =>
          simp only [Option.isNone_some]
          exact j1t
        | none =>
          cases nt : (nodes t.data.toList).2 with
          | some e =>
            simp only [Option.isNone_some, Option.isNone_none, if_true]
            exact j1t
          | none =>
            simp only [Option.isNone_none, if_true]
            refine Ev.step (fun k => ?_) (l0_ev s t (by omega) (by omega) ns nt n (by omega) n 0 (⟨#[]⟩ : ByteArray) (⟨#[]⟩ : ByteArray) (by omega) rfl rfl)
            simp only [gristmilllaw4_TreeWraps.j1]
            rw [if_neg (by decide)]
            rfl
end Go.Proofs.YthbiofcgaegjkaaDoor.Pure
