/- The pure law of TreeDeep: 200 brackets within one another may be; one more, one that is not closed, one that closes none, is told at its place. No other condition. -/
import Derived.Test.YthbiofcgaegjkaaDoorPTreeAx1
import Derived.Test.YthbiofcgaegjkaaDoorTreeSpec2
namespace Go.Proofs.YthbiofcgaegjkaaDoor.Pure
open Go.RowKit Go.Proofs.YthbiofcgaegjkaaDoor.ExtD Go.Proofs.YthbiofcgaegjkaaDoor.ExtE Go.Proofs.YthbiofcgaegjkaaDoor.PTreeA Go.Proofs.YthbiofcgaegjkaaDoorW.PrintWords Go.Proofs.YthbiofcgaegjkaaDoorW.PrintLast Go.Proofs.YthbiofcgaegjkaaDoor.LexSpec Go.Proofs.YthbiofcgaegjkaaDoor.TreeSpec
set_option linter.unusedVariables false
theorem numN (x m : Int) (hm : 0 < m) (hm2 : m ≤ 1000) : ∃ n : Nat, (n : Int) < m ∧ gristmillworld_Number.f x m = some (n : Int) := by
  unfold gristmillworld_Number.f
  rw [if_neg (by omega)]
  have h1 : -m < Int.tmod x m := Int.lt_tmod_of_pos x hm
  have h2 : Int.tmod x m < m := Int.tmod_lt_of_pos x hm
  generalize Int.tmod x m = t at *
  by_cases h : t < 0
  · rw [if_pos h]
    exact ⟨(t + m).toNat, by omega, by unfold wrap64; congr 1; omega⟩
  · rw [if_neg h]
    exact ⟨t.toNat, by omega, by congr 1; omega⟩
theorem opens_app (p a b : Nat) : opens p (a + b) = opens p a ++ opens (p + a) b := by
  unfold opens
  rw [← List.map_append, List.range'_append_1]
theorem lx0 (n m : Nat) : lx 0 .gap (List.replicate n 40 ++ List.replicate m 41) = opens 0 n ++ closes n m := by
  rw [lx_opens]
  have := lx_closes [] m (0 + n)
  rw [List.append_nil, Nat.zero_add] at this
  rw [Nat.zero_add, this]
  simp [lx, fin]
theorem stk_closes2 : ∀ (m p : Nat) (A B : List S39) (x : S39), B.length = m → (∀ e ∈ B, Blank e) → A ≠ [] → ∃ z, stk (closes p m) (A ++ (B ++ [x])) = .ok (A ++ [z]) ∧ ∀ q, (B ++ [x])[0]? = some q → z.f2 = q.f2
  | 0, p, A, B, x, hB, _, _ => by
    obtain rfl := List.length_eq_zero_iff.1 hB
    exact ⟨x, by simp [closes, stk], fun q h => by simp at h; rw [h]⟩
  | m + 1, p, A, B, x, hB, hb, hA => by
    have hne : B ≠ [] := by intro e; subst e; simp at hB
    obtain ⟨B', b, rfl⟩ : ∃ B' b, B = B' ++ [b] := ⟨B.dropLast, B.getLast hne, (List.dropLast_concat_getLast hne).symm⟩
    obtain ⟨z, hz, hu⟩ := stk_closes2 m (p + 1) A B' ({ b with f1 := b.f1 ++ [x] }) (by simp at hB; omega) (fun e he => hb e (by simp [he])) hA
    refine ⟨z, ?_, fun q h => ?_⟩
    · simp only [closes, List.range'_succ, List.map_cons, stk, stp]
      have e : A ++ (B' ++ [b] ++ [x]) = (A ++ B') ++ b :: x :: [] := by simp
      rw [if_neg (by decide), if_pos trivial, if_neg (by simp; intro h; exact absurd (List.length_eq_zero_iff.1 (by omega)) hA), e, shut_pre, shut_two]
      rw [List.append_assoc]
      exact hz
    · cases B' with
      | nil => simp at h; subst h; exact hu { b with f1 := b.f1 ++ [x] } rfl
      | cons c B' => exact hu q (by simpa using h)
theorem un_one {n : Nat} {c : List S39} (h : Un (n + 1) c []) : ∃ m, c = [m] := by
  obtain ⟨m, hm, _⟩ := h
  exact ⟨m, hm⟩
theorem un_deep : ∀ (n : Nat) (c : List S39), Un n c [] → dpL c = n
  | 0, c, h => by cases h; simp [dpL]
  | n + 1, c, h => by
    obtain ⟨m, rfl, hm, h⟩ := h
    rw [dpL_cons, dpN_list (by rw [hm]), un_deep n m.f1 h]
    simp [dpL]
    omega
theorem opened (n : Nat) (hn : n ≤ 200) : ∃ E, E.length = n ∧ (∀ e ∈ E, Blank e) ∧ (∀ i e, E[i]? = some e → e.f2 = ((0 + i : Nat) : Int)) ∧ stk (opens 0 n) Parse.start = .ok (Parse.start ++ E) := stk_opens n 0 Parse.start (by simp [Parse.start]; omega)
theorem blank_start {E : List S39} (h : ∀ e ∈ E, Blank e) : ∀ e ∈ Parse.start ++ E, Blank e := by
  intro e he
  rcases List.mem_append.1 he with he | he
  · simp [Parse.start] at he; subst he; exact ⟨rfl, rfl⟩
  · exact h e he
theorem closed (n : Nat) (hn : n ≤ 200) (p : Nat) : ∃ z, stk (opens 0 n ++ closes p n) Parse.start = .ok [z] ∧ Un n z.f1 [] := by
  obtain ⟨E, hE1, hE2, _, hE3⟩ := opened n hn
  have hZ := blank_start hE2
  have hne : Parse.start ++ E ≠ [] := by simp [Parse.start]
  obtain ⟨B, e, hBe⟩ : ∃ B e, Parse.start ++ E = B ++ [e] := ⟨_, _, (List.dropLast_concat_getLast hne).symm⟩
  rw [hBe] at hZ hE3
  have hBl : B.length = n := by have := congrArg List.length hBe; simp [Parse.start, hE1] at this; omega
  obtain ⟨he0, he1⟩ := hZ e (by simp)
  obtain ⟨z, hz, hu⟩ := stk_closes n p B e hBl (fun e he => hZ e (by simp [he])) he0
  refine ⟨z, ?_, ?_⟩
  · rw [stk_app, hE3]
    exact hz
  · have := hu 0 [] (by rw [he1]; exact .nil)
    rwa [Nat.add_zero] at this
theorem nodes_full (n : Nat) (hn : n ≤ 200) : (nodes (List.replicate n 40 ++ List.replicate n 41)).2 = none ∧ Un n (nodes (List.replicate n 40 ++ List.replicate n 41)).1 [] := by
  obtain ⟨z, hz, hu⟩ := closed n hn n
  rw [nodes_eq, lx0, run2_stk_eq, hz]
  exact ⟨rfl, hu⟩
theorem nodes_over (m k : Nat) : nodes (List.replicate (201 + m) 40 ++ List.replicate k 41) = ([], some 200605) := by
  rw [nodes_eq, lx0, run2_stk_eq, stk_app, show 201 + m = 200 + (1 + m) by omega, opens_app, stk_app]
  obtain ⟨E, hE1, _, _, hE3⟩ := opened 200 (Nat.le_refl _)
  rw [hE3]
  have : stk (opens (0 + 200) (1 + m)) (Parse.start ++ E) = .error 200605 := by
    rw [show 1 + m = m + 1 by omega]
    simp only [opens, List.range'_succ, List.map_cons, stk, stp]
    rw [if_pos trivial, if_pos (by simp [Parse.start, hE1])]
    rfl
  simp only [this]
theorem nodes_open (n : Nat) (hn : n + 1 ≤ 200) : nodes (List.replicate (n + 1) 40 ++ List.replicate n 41) = ([], some 606) := by
  rw [nodes_eq, lx0, run2_stk_eq, stk_app]
  obtain ⟨E, hE1, hE2, hE4, hE3⟩ := opened (n + 1) hn
  rw [hE3]
  have hne : E ≠ [] := by intro e; subst e; simp at hE1
  obtain ⟨B, e, rfl⟩ : ∃ B e, E = B ++ [e] := ⟨_, _, (List.dropLast_concat_getLast hne).symm⟩
  obtain ⟨z, hz, hu⟩ := stk_closes2 n (n + 1) Parse.start B e (by simpa using hE1) (fun u hu => hE2 u (by simp [hu])) (by simp [Parse.start])
  have hz2 : z.f2 = 0 := by
    have hl : 0 < (B ++ [e]).length := by simp
    have h0 := List.getElem?_eq_getElem hl
    rw [hu _ h0, hE4 0 _ h0]
    rfl
  simp only [hz]
  show ([], some (1000 * z.f2 + 606)) = _
  rw [hz2]
  rfl
theorem nodes_shut (n : Nat) (hn : n ≤ 200) : nodes (List.replicate n 40 ++ (List.replicate n 41 ++ [32, 41])) = ([], some (1000 * ((2 * n + 1 : Nat) : Int) + 607)) := by
  rw [nodes_eq, lx_opens, lx_closes, lx_gap_sp (by decide), lx_gap_rnd (by decide) (by decide) (by decide)]
  obtain ⟨z, hz, hu⟩ := closed n hn (0 + n)
  rw [← List.append_assoc, run2_stk_eq, stk_app, hz]
  have : stk (([41], 0 + n + n + 1) :: lx (0 + n + n + 1 + 1) .gap []) [z] = .error (1000 * ((2 * n + 1 : Nat) : Int) + 607) := by
    simp only [stk, stp]
    rw [if_neg (by decide), if_pos trivial, if_pos (by simp), show 0 + n + n + 1 = 2 * n + 1 by omega]
  simp only [this]
theorem same_at (p k : Int) (hk : 601 ≤ k ∧ k ≤ 618) : gristmillsee_Same.f (some (1000 * p + k)) (k - 500) true p = some true := by
  unfold gristmillsee_Same.f
  simp only []
  rw [if_neg (by omega), if_pos (by omega)]
  unfold PTreeS.gristmillref_SameFault.f
  rw [if_pos (by omega), if_pos (by decide), show (1000 * p + k) / 1000 = p by omega]
  simp
theorem placed_at (c p : Int) (hc : c ≠ 0) : gristmillref_Placed.f c p = some (c, true, p) := by
  unfold gristmillref_Placed.f
  rw [if_neg hc]
theorem size_toList' (s : ByteArray) : s.size = s.data.toList.length := (data_length s).symm
theorem l1_ev (n : Nat) (h0 : 198 ≤ n) (h1 : n ≤ 202) (b : Int) (x : ByteArray) (hx : x.data.toList = List.replicate n 40) : ∀ (d i : Nat) (y : ByteArray), i + d = n → y.data.toList = List.replicate i 41 →
    Ev (fun k => gristmilllaw4_TreeDeep.l1 k (n : Int) b true x y (i : Int)) true := by
  intro d
  induction d with
  | zero =>
    intro i y hi hy
    obtain rfl : i = n := by omega
    have hxs : x.size = i := by rw [size_toList', hx, List.length_replicate]
    have hys : y.size = i := by rw [size_toList', hy, List.length_replicate]
    obtain ⟨t, ht, hN⟩ := numN b 3 (by decide) (by decide)
    by_cases t0 : t = 0
    · subst t0
      have e1 : (x ++ y).data.toList = List.replicate i 40 ++ List.replicate i 41 := by simp [ByteArray.data_append, hx, hy]
      have P := Parse_ev (x ++ y) (by rw [ByteArray.size_append]; omega)
      rw [e1] at P
      by_cases hn : i ≤ 200
      · obtain ⟨n1, n2⟩ := nodes_full i hn
        have D := Deep_ev (s := List.replicate i 40 ++ List.replicate i 41) (by simp; omega) n1
        rw [un_deep _ _ n2] at D
        have hc : ∃ m, (nodes (List.replicate i 40 ++ List.replicate i 41)).1 = [m] := by
          obtain ⟨j, rfl⟩ : ∃ j, i = j + 1 := ⟨i - 1, by omega⟩
          exact un_one n2
        obtain ⟨m, hm⟩ := hc
        refine Ev.step (f := fun k => (tree_Parse.f k (x ++ y)).bind fun bt => if bt.2.isNone = true then ((tree_Deep.f k bt.1).bind fun t127 => (if t127 = (i : Int) then (some ((bt.1.length : Int) == 1)) else (none))) else none) (fun k => ?_) (Ev.bind P ?_)
        · simp only [gristmilllaw4_TreeDeep.l1]
          rw [if_neg (by omega), hN, Option.bind_some, if_pos (by rfl), if_pos (by omega)]
          simp only [if_neg (show ¬ ((i : Int) > 200) by omega), if_true]
        · simp only [n1, Option.isNone_none, if_true]
          refine Ev.bind D ?_
          simp only [if_true, hm]
          exact Ev.congr (f := fun _ => some true) (fun k => rfl) (Ev.now _)
      · obtain ⟨m, rfl⟩ : ∃ m, i = 201 + m := ⟨i - 201, by omega⟩
        rw [nodes_over] at P
        refine Ev.step (f := fun k => (tree_Parse.f k (x ++ y)).bind fun bt => if (bt.1.length : Int) = 0 then ((gristmillref_Placed.f 105 200).bind fun bt122 => ((gristmillsee_Same.f bt.2 bt122.1 bt122.2.1 bt122.2.2).bind fun t125 => (some t125))) else (none)) (fun k => ?_) (Ev.bind P ?_)
        · simp only [gristmilllaw4_TreeDeep.l1]
          rw [if_neg (by omega), hN, Option.bind_some, if_pos (by rfl), if_pos (by omega)]
          simp only [if_pos (show (((201 + m : Nat) : Int) > 200) by omega), if_true]
        · rw [placed_at 105 200 (by decide)]
          have := same_at 200 605 (by decide)
          exact Ev.congr (f := fun _ => some true) (fun k => by simp only [List.length_nil, Option.bind_some]; rw [if_pos (by rfl)]; exact congrArg (fun o => Option.bind o fun t => some t) this) (Ev.now _)
    · by_cases t1 : t = 1
      · subst t1
        by_cases hn : i ≤ 200
        · obtain ⟨j, rfl⟩ : ∃ j, i = j + 1 := ⟨i - 1, by omega⟩
          have e1 : (x ++ y.extract 1 y.size).data.toList = List.replicate (j + 1) 40 ++ List.replicate j 41 := by
            simp only [ByteArray.data_append, Array.toList_append, hx, ext_toList, hys, hy]
            rw [List.take_of_length_le (by simp), List.drop_replicate, Nat.add_sub_cancel]
          have P := Parse_ev (x ++ y.extract 1 y.size) (by rw [size_toList', e1]; simp; omega)
          rw [e1, nodes_open j (by omega)] at P
          have hsz : x.size + (y.extract 1 y.size).size ≤ 9223372036854775807 := by
            have : (y.extract 1 y.size).size ≤ y.size := by rw [size_toList', ext_toList, size_toList' y]; simp
            omega
          refine Ev.step (f := fun k => (tree_Parse.f k (x ++ y.extract 1 y.size)).bind fun bt => ((gristmillref_Placed.f 106 0).bind fun bt132 => ((gristmillsee_Same.f bt.2 bt132.1 bt132.2.1 bt132.2.2).bind fun t135 => (some t135)))) (fun k => ?_) (Ev.bind P ?_)
          · simp only [gristmilllaw4_TreeDeep.l1]
            rw [if_neg (by omega), hN, Option.bind_some, if_neg (by decide), if_pos (by rfl), if_neg (by omega), if_pos (by omega), if_pos hsz]
            simp only [if_true]
          · rw [placed_at 106 0 (by decide)]
            have := same_at 0 606 (by decide)
            exact Ev.congr (f := fun _ => some true) (fun k => by simp only [Option.bind_some]; exact congrArg (fun o => Option.bind o fun t => some t) this) (Ev.now _)
        · refine Ev.step (f := fun _ => some true) (fun k => ?_) (Ev.now _)
          simp only [gristmilllaw4_TreeDeep.l1]
          rw [if_neg (by omega), hN, Option.bind_some, if_neg (by decide), if_pos (by rfl), if_pos (by omega)]
      · by_cases hn : i ≤ 200
        · have e1 : (x ++ y ++ (⟨#[32, 41]⟩ : ByteArray)).data.toList = List.replicate i 40 ++ (List.replicate i 41 ++ [32, 41]) := by simp [ByteArray.data_append, hx, hy]
          have z1 : (x ++ y).size = i + i := by rw [ByteArray.size_append, hxs, hys]
          have P := Parse_ev (x ++ y ++ (⟨#[32, 41]⟩ : ByteArray)) (by rw [size_toList', e1]; simp; omega)
          rw [e1, nodes_shut i hn] at P
          refine Ev.step (f := fun k => (tree_Parse.f k (x ++ y ++ (⟨#[32, 41]⟩ : ByteArray))).bind fun bt => ((gristmillref_Placed.f 107 ((2 * i + 1 : Nat) : Int)).bind fun bt140 => ((gristmillsee_Same.f bt.2 bt140.1 bt140.2.1 bt140.2.2).bind fun t143 => (some t143)))) (fun k => ?_) (Ev.bind P ?_)
          · simp only [gristmilllaw4_TreeDeep.l1]
            rw [if_neg (by omega), hN, Option.bind_some, if_neg (by omega), if_neg (by omega), if_neg (by omega), if_pos (by omega), if_pos (by omega)]
            simp only [if_true]
            rw [show wrap64 (wrap64 (2 * (i : Int)) + 1) = ((2 * i + 1 : Nat) : Int) by unfold wrap64; omega]
          · rw [placed_at 107 _ (by decide)]
            have := same_at ((2 * i + 1 : Nat) : Int) 607 (by decide)
            exact Ev.congr (f := fun _ => some true) (fun k => by simp only [Option.bind_some]; exact congrArg (fun o => Option.bind o fun t => some t) this) (Ev.now _)
        · refine Ev.step (f := fun _ => some true) (fun k => ?_) (Ev.now _)
          simp only [gristmilllaw4_TreeDeep.l1]
          rw [if_neg (by omega), hN, Option.bind_some, if_neg (by omega), if_neg (by omega), if_pos (by omega)]
  | succ d ih =>
    intro i y hi hy
    have hys : y.size = i := by rw [size_toList', hy, List.length_replicate]
    refine Ev.step (fun k => ?_) (ih (i + 1) (y ++ (⟨#[41]⟩ : ByteArray)) (by omega) (by simp [ByteArray.data_append, hy, List.replicate_succ']))
    simp only [gristmilllaw4_TreeDeep.l1]
    rw [if_pos (by omega), if_pos (by omega), show wrap64 ((i : Int) + 1) = ((i + 1 : Nat) : Int) by unfold wrap64; omega]
theorem l0_ev (n : Nat) (h0 : 198 ≤ n) (h1 : n ≤ 202) (b : Int) : ∀ (d i : Nat) (x : ByteArray), i + d = n → x.data.toList = List.replicate i 40 →
    Ev (fun k => gristmilllaw4_TreeDeep.l0 k (n : Int) b true x (i : Int)) true := by
  intro d
  induction d with
  | zero =>
    intro i x hi hx
    obtain rfl : i = n := by omega
    refine Ev.step (fun k => ?_) (l1_ev i h0 h1 b x hx i 0 (⟨#[]⟩ : ByteArray) (by omega) rfl)
    simp only [gristmilllaw4_TreeDeep.l0]
    rw [if_neg (by omega)]
    rfl
  | succ d ih =>
    intro i x hi hx
    have hxs : x.size = i := by rw [size_toList', hx, List.length_replicate]
    refine Ev.step (fun k => ?_) (ih (i + 1) (x ++ (⟨#[40]⟩ : ByteArray)) (by omega) (by simp [ByteArray.data_append, hx, List.replicate_succ']))
    simp only [gristmilllaw4_TreeDeep.l0]
    rw [if_pos (by omega), if_pos (by omega), show wrap64 ((i : Int) + 1) = ((i + 1 : Nat) : Int) by unfold wrap64; omega]
theorem TreeDeep : gristmilllaw4_TreeDeep.Pure := by
  intro a b ha hb
  apply Ev.rounds
  unfold gristmilllaw4_TreeDeep.f
  refine Ev.bind first_ev ?_
  simp only [if_true]
  obtain ⟨t, ht, hN⟩ := numN a 5 (by decide) (by decide)
  simp only [hN, Option.bind_some]
  rw [show wrap64 (198 + (t : Int)) = ((198 + t : Nat) : Int) by unfold wrap64; omega]
  exact l0_ev (198 + t) (by omega) (by omega) b (198 + t) 0 (⟨#[]⟩ : ByteArray) (by omega) rfl
end Go.Proofs.YthbiofcgaegjkaaDoor.Pure
