/- Plain facts on nodes: the same but for their places; how deep they are; texts behind one another, within brackets. No condition. -/
import Derived.Test.YthbiofcgaegjkaaDoorTreeSpec
namespace Go.Proofs.YthbiofcgaegjkaaDoor.TreeSpec
open Go.RowKit Go.Proofs.YthbiofcgaegjkaaDoor.ExtE Go.Proofs.YthbiofcgaegjkaaDoor.PTreeA Go.Proofs.YthbiofcgaegjkaaDoorW.PrintWords Go.Proofs.YthbiofcgaegjkaaDoorW.PrintLast Go.Proofs.YthbiofcgaegjkaaDoor.LexSpec
set_option linter.unusedVariables false
set_option linter.unusedSimpArgs false

/-! ### the same, but for the places -/
inductive Eqv : List S39 → List S39 → Prop
  | nil : Eqv [] []
  | cons {x y : S39} {xs ys : List S39} (h0 : x.f0 = y.f0) (h1 : Eqv x.f1 y.f1) (h2 : Eqv xs ys) : Eqv (x :: xs) (y :: ys)
theorem Eqv.refl : ∀ l : List S39, Eqv l l
  | [] => .nil
  | ⟨f0, f1, f2⟩ :: xs => .cons rfl (Eqv.refl f1) (Eqv.refl xs)
theorem Eqv.len {a b : List S39} (h : Eqv a b) : a.length = b.length := by
  induction h with
  | nil => rfl
  | cons h0 h1 h2 ih1 ih2 => simp [ih2]
theorem Eqv.app {a b c d : List S39} (h : Eqv a b) (h' : Eqv c d) : Eqv (a ++ c) (b ++ d) := by
  induction h with
  | nil => exact h'
  | cons h0 h1 h2 ih1 ih2 => exact .cons h0 h1 ih2
theorem Eqv.one {x y : S39} (h0 : x.f0 = y.f0) (h1 : Eqv x.f1 y.f1) : Eqv [x] [y] := .cons h0 h1 .nil
theorem Eqv.addTo {a b : List S39} {m n : S39} (h : Eqv a b) (hn : Eqv [m] [n]) : Eqv (Parse.addTo a m) (Parse.addTo b n) := by
  induction h with
  | nil => exact .nil
  | @cons x y xs ys h0 h1 h2 ih1 ih2 =>
    cases h2 with
    | nil => rw [addTo_one, addTo_one]; exact .cons h0 (h1.app hn) .nil
    | cons g0 g1 g2 => rw [addTo_cons, addTo_cons]; exact .cons h0 h1 ih2
theorem Eqv.shut {a b : List S39} (h : Eqv a b) : Eqv (TreeSpec.shut a) (TreeSpec.shut b) := by
  induction h with
  | nil => exact .nil
  | @cons x y xs ys h0 h1 h2 ih1 ih2 =>
    cases h2 with
    | nil => exact .nil
    | cons g0 g1 g2 =>
      cases g2 with
      | nil => rw [shut_two, shut_two]; exact .cons h0 (h1.app (.one g0 g1)) .nil
      | cons k0 k1 k2 => rw [shut_cons, shut_cons]; exact .cons h0 h1 ih2
theorem sm_ev {a b : List S39} (h : Eqv a b) : ∃ K, ∀ k, K ≤ k → Same.smL (Same.sm k) a b = some true := by
  induction h with
  | nil => exact ⟨0, fun k _ => rfl⟩
  | @cons x y xs ys h0 h1 h2 ih1 ih2 =>
    obtain ⟨K1, h1'⟩ := ih1
    obtain ⟨K2, h2'⟩ := ih2
    refine ⟨K1 + K2 + 1, fun k hk => ?_⟩
    obtain ⟨k, rfl⟩ : ∃ m, k = m + 1 := ⟨k - 1, by omega⟩
    unfold Same.smL
    rw [if_pos (by rw [h0])]
    have e : Same.sm (k + 1) x.f1 y.f1 = some true := by
      show (if x.f1.length = y.f1.length then Same.smL (Same.sm k) x.f1 y.f1 else some false) = some true
      rw [if_pos h1.len]
      exact h1' k (by omega)
    rw [e]
    exact h2' (k + 1) (by omega)
theorem Same_ev {a b : List S39} (h : Eqv a b) : Ev (fun k => tree_Same.f k a b) true := by
  obtain ⟨K, hK⟩ := sm_ev h
  refine ⟨K + 1, fun k hk => ?_⟩
  obtain ⟨k, rfl⟩ : ∃ m, k = m + 1 := ⟨k - 1, by omega⟩
  show (if a.length = b.length then Same.smL (Same.sm k) a b else some false) = some true
  rw [if_pos h.len]
  exact hK k (by omega)

/-! ### how deep -/
mutual
def dpN : S39 → Nat
  | ⟨f0, f1, _⟩ => if f0.data.toList = [] then 1 + dpL f1 else 0
def dpL : List S39 → Nat
  | [] => 0
  | x :: xs => max (dpN x) (dpL xs)
end
theorem dpN_list {x : S39} (h : x.f0.data.toList = []) : dpN x = 1 + dpL x.f1 := by
  obtain ⟨f0, f1, f2⟩ := x
  simp only [dpN]
  rw [if_pos h]
theorem dpN_word {x : S39} (h : x.f0.data.toList ≠ []) : dpN x = 0 := by
  obtain ⟨f0, f1, f2⟩ := x
  simp only [dpN]
  rw [if_neg h]
theorem dpL_cons (x : S39) (xs : List S39) : dpL (x :: xs) = max (dpN x) (dpL xs) := by simp only [dpL]
theorem dpL_app : ∀ (a b : List S39), dpL (a ++ b) = max (dpL a) (dpL b)
  | [], b => by simp [dpL]
  | x :: xs, b => by
    rw [List.cons_append, dpL_cons, dpL_cons, dpL_app xs b]
    omega
theorem Wn.deep {s : List UInt8} {a b : Nat} {l : List S39} (h : Wn s a b l) : a + dpL l ≤ b := by
  induction h with
  | nil h => simpa [dpL] using h
  | @word a b p n rest h0 h1 h2 h3 h4 ih =>
    rw [dpL_cons, dpN_word h0]
    omega
  | @list a b p n rest h0 h1 h2 h3 h5 h4 ih5 ih4 =>
    rw [dpL_cons, dpN_list h0]
    have : nxt rest b ≤ b := by
      cases rest with
      | nil => exact Nat.le_refl _
      | cons m r => have := h4.first; simp only [nxt]; omega
    omega
theorem mx_nat (a b : Nat) : mx (a : Int) (b : Int) = ((max a b : Nat) : Int) := by unfold mx; omega
theorem wr1 (x : Nat) (h : x ≤ 100000) : wrap64 (1 + (x : Int)) = ((1 + x : Nat) : Int) := by unfold wrap64; omega
theorem wr2 (x : Nat) (h : x ≤ 100000) : wrap64 ((x : Int) + 1) = ((x + 1 : Nat) : Int) := by unfold wrap64; omega
theorem deep_l {s : List UInt8} {a b : Nat} {l : List S39} (h : Wn s a b l) : b ≤ 1000 →
    (∀ (pre : List S39) (m : Nat), (pre ++ l).length ≤ 1000 → Ev (fun k => tree_Deep.l0 k (m : Int) (pre ++ l) ((pre ++ l).length : Int) (pre.length : Int)) ((max m (dpL l) : Nat) : Int)) ∧ Ev (fun k => tree_Deep.f k l) (dpL l : Int) := by
  induction h with
  | @nil a b h =>
    intro hb
    have h0 : ∀ (pre : List S39) (m : Nat), (pre ++ []).length ≤ 1000 → Ev (fun k => tree_Deep.l0 k (m : Int) (pre ++ []) ((pre ++ [] : List S39).length : Int) (pre.length : Int)) ((max m (dpL []) : Nat) : Int) := by
      intro pre m hl
      refine Ev.step (f := fun _ => some (m : Int)) (fun k => ?_) (by simpa [dpL] using Ev.now _)
      simp only [tree_Deep.l0]
      rw [if_neg (by simp)]
    refine ⟨h0, Ev.step (fun k => ?_) (by simpa [dpL] using h0 [] 0 (by simp))⟩
    simp only [tree_Deep.f]
    rfl
  | @word a b p n rest h0 h1 h2 h3 h4 ih =>
    intro hb
    obtain ⟨ih, _⟩ := ih hb
    have hl0 : ∀ (pre : List S39) (m : Nat), (pre ++ n :: rest).length ≤ 1000 → Ev (fun k => tree_Deep.l0 k (m : Int) (pre ++ n :: rest) ((pre ++ n :: rest).length : Int) (pre.length : Int)) ((max m (dpL (n :: rest)) : Nat) : Int) := by
      intro pre m hl
      have hl2 : pre.length < 1000 := by simp at hl; omega
      have hlen : ((pre.length : Nat) : Int) < ((pre ++ n :: rest).length : Int) := by simp; omega
      have ih := ih (pre ++ [n]) m (by simpa using hl)
      rw [show pre ++ [n] ++ rest = pre ++ n :: rest by simp] at ih
      rw [dpL_cons, dpN_word h0, Nat.zero_max]
      refine Ev.step (fun k => ?_) ih
      simp only [tree_Deep.l0]
      have e : rd_T39 (pre ++ n :: rest) (pre.length : Int) = n := by simp [rd_T39]
      rw [if_pos hlen, if_pos (by omega), if_pos hlen, e, if_neg (by rw [ByteArray.toList_eq]; exact h0), wr2 _ (by omega)]
      simp
    have hz := hl0 [] 0 (by have := h4.length; have := List.length_pos_iff.2 h0; simp; omega)
    refine ⟨hl0, Ev.step (fun k => ?_) (by simpa using hz)⟩
    simp only [tree_Deep.f]
    rfl
  | @list a b p n rest h0 h1 h2 h3 h5 h4 ih5 ih4 =>
    intro hb
    obtain ⟨ih, _⟩ := ih4 hb
    have hnx : nxt rest b ≤ b := by
      cases rest with
      | nil => exact Nat.le_refl _
      | cons m r => have := h4.first; simp only [nxt]; omega
    obtain ⟨_, ih5⟩ := ih5 (Nat.le_trans hnx hb)
    have hdp : dpL n.f1 ≤ 1000 := by have := h5.deep; exact Nat.le_trans (Nat.le_trans (Nat.le_add_left _ _) this) (Nat.le_trans hnx hb)
    have hl0 : ∀ (pre : List S39) (m : Nat), (pre ++ n :: rest).length ≤ 1000 → Ev (fun k => tree_Deep.l0 k (m : Int) (pre ++ n :: rest) ((pre ++ n :: rest).length : Int) (pre.length : Int)) ((max m (dpL (n :: rest)) : Nat) : Int) := by
      intro pre m hl
      have hl2 : pre.length < 1000 := by simp at hl; omega
      have hlen : ((pre.length : Nat) : Int) < ((pre ++ n :: rest).length : Int) := by simp; omega
      have ih := ih (pre ++ [n]) (max m (1 + dpL n.f1)) (by simpa using hl)
      rw [show pre ++ [n] ++ rest = pre ++ n :: rest by simp] at ih
      rw [dpL_cons, dpN_list h0, show max m (max (1 + dpL n.f1) (dpL rest)) = max (max m (1 + dpL n.f1)) (dpL rest) by omega]
      refine Ev.step (f := fun k => (tree_Deep.f k n.f1).bind fun t => tree_Deep.l0 k (mx (m : Int) (wrap64 (1 + t))) (pre ++ n :: rest) ((pre ++ n :: rest).length : Int) (wrap64 ((pre.length : Int) + 1))) (fun k => ?_) (Ev.bind ih5 ?_)
      · simp only [tree_Deep.l0]
        have e : rd_T39 (pre ++ n :: rest) (pre.length : Int) = n := by simp [rd_T39]
        rw [if_pos hlen, if_pos (by omega), if_pos hlen, e, if_pos (by rw [ByteArray.toList_eq]; exact h0)]
      · rw [wr1 _ (by omega), mx_nat, wr2 _ (by omega)]
        refine Ev.congr (fun k => ?_) ih
        simp
    have hz := hl0 [] 0 (by have := h4.length; simp; omega)
    refine ⟨hl0, Ev.step (fun k => ?_) (by simpa using hz)⟩
    simp only [tree_Deep.f]
    rfl
theorem Deep_ev {s : List UInt8} (hs : s.length ≤ 1000) (h : (nodes s).2 = none) : Ev (fun k => tree_Deep.f k (nodes s).1) (dpL (nodes s).1 : Int) := (deep_l (nodes_at s h) hs).2

/-! ### two texts, one behind the other -/
/-- The same stacks, but that the first's lowest list has a ahead. -/
def Pr (a opn opn' : List S39) : Prop := ∃ x y r r', opn = x :: r ∧ opn' = y :: r' ∧ x.f0 = y.f0 ∧ Eqv x.f1 (a ++ y.f1) ∧ Eqv r r'
theorem Pr.len {a opn opn' : List S39} (h : Pr a opn opn') : opn.length = opn'.length := by
  obtain ⟨x, y, r, r', rfl, rfl, _, _, h⟩ := h
  simp [h.len]
theorem Pr.push {a opn opn' : List S39} {m n : S39} (h : Pr a opn opn') (hn : Eqv [m] [n]) : Pr a (opn ++ [m]) (opn' ++ [n]) := by
  obtain ⟨x, y, r, r', rfl, rfl, h0, h1, h⟩ := h
  exact ⟨x, y, r ++ [m], r' ++ [n], rfl, rfl, h0, h1, h.app hn⟩
theorem Pr.addTo {a opn opn' : List S39} {m n : S39} (h : Pr a opn opn') (hn : Eqv [m] [n]) : Pr a (Parse.addTo opn m) (Parse.addTo opn' n) := by
  obtain ⟨x, y, r, r', rfl, rfl, h0, h1, h⟩ := h
  cases h with
  | nil =>
    rw [addTo_one, addTo_one]
    exact ⟨_, _, [], [], rfl, rfl, h0, by have := h1.app hn; rwa [List.append_assoc] at this, .nil⟩
  | cons g0 g1 g2 =>
    rw [addTo_cons, addTo_cons]
    exact ⟨x, y, _, _, rfl, rfl, h0, h1, Eqv.addTo (.cons g0 g1 g2) hn⟩
theorem Pr.shut {a opn opn' : List S39} (h : Pr a opn opn') (hl : opn.length ≠ 1) : Pr a (TreeSpec.shut opn) (TreeSpec.shut opn') := by
  obtain ⟨x, y, r, r', rfl, rfl, h0, h1, h⟩ := h
  cases h with
  | nil => exact absurd rfl hl
  | cons g0 g1 g2 =>
    cases g2 with
    | nil =>
      rw [shut_two, shut_two]
      exact ⟨_, _, [], [], rfl, rfl, h0, by have := h1.app (Eqv.one g0 g1); rwa [List.append_assoc] at this, .nil⟩
    | cons k0 k1 k2 =>
      rw [shut_cons, shut_cons]
      exact ⟨x, y, _, _, rfl, rfl, h0, h1, Eqv.shut (.cons g0 g1 (.cons k0 k1 k2))⟩
/-- The stack behind words. -/
def stk : List Wd → List S39 → Except Int (List S39)
  | [], opn => .ok opn
  | w :: ws, opn => match stp opn w with
    | .error e => .error e
    | .ok o => stk ws o
theorem run2_stk_eq : ∀ (ws : List Wd) (opn : List S39), run2 ws opn = (match stk ws opn with
  | .error e => ([], some e)
  | .ok o => run2 [] o)
  | [], opn => rfl
  | w :: ws, opn => by
    unfold run2 stk
    cases stp opn w with
    | error e => rfl
    | ok o => exact run2_stk_eq ws o
theorem stk_app : ∀ (ws vs : List Wd) (opn : List S39), stk (ws ++ vs) opn = (match stk ws opn with
  | .error e => .error e
  | .ok o => stk vs o)
  | [], vs, opn => rfl
  | w :: ws, vs, opn => by
    simp only [List.cons_append, stk]
    cases stp opn w with
    | error e => rfl
    | ok o => exact stk_app ws vs o
theorem stk_of_none {ws : List Wd} {opn : List S39} (h : (run2 ws opn).2 = none) : ∃ x, stk ws opn = .ok [x] ∧ (run2 ws opn).1 = x.f1 ∨ stk ws opn = .ok [] := by
  rw [run2_stk_eq] at h
  rw [run2_stk_eq]
  cases hs : stk ws opn with
  | error e => rw [hs] at h; cases h
  | ok o =>
    rw [hs] at h
    match o, h with
    | [], _ => exact ⟨z39, .inr rfl⟩
    | [x], _ => exact ⟨x, .inl ⟨rfl, rfl⟩⟩
    | x :: y :: r, h => simp [run2] at h
theorem stp_pos {opn o : List S39} {w : Wd} (h : stp opn w = .ok o) (hp : 0 < opn.length) : 0 < o.length := by
  unfold stp at h
  split at h
  · split at h
    · cases h
    · injection h with h; subst h; simp
  · split at h
    · split at h
      · cases h
      · injection h with h
        subst h
        match opn, hp with
        | [x], _ => rename_i h1 h2 h3; exact absurd rfl h3
        | x :: y :: r, _ => obtain ⟨y', r', he, _⟩ := shut_head x y r; rw [he]; simp
    · injection h with h
      subst h
      match opn, hp with
      | x :: r, _ => obtain ⟨y', r', he, _⟩ := addTo_head x r _; rw [he]; simp
theorem stk_pos : ∀ {ws : List Wd} {opn o : List S39}, stk ws opn = .ok o → 0 < opn.length → 0 < o.length
  | [], opn, o, h, hp => by injection h with h; subst h; exact hp
  | w :: ws, opn, o, h, hp => by
    unfold stk at h
    cases hs : stp opn w with
    | error e => rw [hs] at h; cases h
    | ok o1 => rw [hs] at h; exact stk_pos h (stp_pos hs hp)
theorem stk_none {ws : List Wd} {opn : List S39} (h : (run2 ws opn).2 = none) (hp : 0 < opn.length) : ∃ x, stk ws opn = .ok [x] ∧ (run2 ws opn).1 = x.f1 := by
  obtain ⟨x, h1 | h1⟩ := stk_of_none h
  · exact ⟨x, h1⟩
  · have := stk_pos h1 hp
    simp at this
/-- The same texts: the same stacks. -/
def Txt (ws vs : List Wd) : Prop := ws.map (·.1) = vs.map (·.1)
theorem one_eqv (w : List UInt8) (p q : Int) : Eqv [(⟨⟨w.toArray⟩, [], p⟩ : S39)] [⟨⟨w.toArray⟩, [], q⟩] := .one rfl .nil
theorem stk_pr {a : List S39} : ∀ {ws vs : List Wd} {opn opn' o' : List S39}, Txt ws vs → Pr a opn opn' → stk vs opn' = .ok o' → ∃ o, stk ws opn = .ok o ∧ Pr a o o'
  | [], [], opn, opn', o', _, hp, h => by injection h with h; subst h; exact ⟨opn, rfl, hp⟩
  | [], v :: vs, _, _, _, ht, _, _ => by simp [Txt] at ht
  | w :: ws, [], _, _, _, ht, _, _ => by simp [Txt] at ht
  | (w, p) :: ws, (v, q) :: vs, opn, opn', o', ht, hp, h => by
    simp only [Txt, List.map_cons, List.cons.injEq] at ht
    obtain ⟨rfl, ht⟩ := ht
    unfold stk at h ⊢
    unfold stp at h ⊢
    have hl := hp.len
    by_cases h40 : w = [40]
    · subst h40
      rw [if_pos rfl] at h ⊢
      rw [hl]
      by_cases h201 : opn'.length = 201
      · rw [if_pos h201] at h; cases h
      · rw [if_neg h201] at h ⊢
        exact stk_pr ht (hp.push (m := ⟨⟨#[]⟩, [], (p : Int)⟩) (n := ⟨⟨#[]⟩, [], (q : Int)⟩) (.one rfl .nil)) h
    · rw [if_neg h40] at h ⊢
      by_cases h41 : w = [41]
      · subst h41
        rw [if_pos rfl] at h ⊢
        rw [hl]
        by_cases h1 : opn'.length = 1
        · rw [if_pos h1] at h; cases h
        · rw [if_neg h1] at h ⊢
          exact stk_pr ht (hp.shut (by rw [hl]; exact h1)) h
      · rw [if_neg h41] at h ⊢
        exact stk_pr ht (hp.addTo (one_eqv w p q)) h
theorem txt_shift (d : Nat) (l : List UInt8) : Txt (lx d .gap l) (lx 0 .gap l) := by
  unfold Txt
  rw [lx_gap_shift, List.map_map]
  rfl
theorem stp_head {x : S39} {r o : List S39} {w : Wd} (h : stp (x :: r) w = .ok o) : ∃ x' r', o = x' :: r' ∧ x'.f0 = x.f0 := by
  unfold stp at h
  split at h
  · split at h
    · cases h
    · injection h with h
      subst h
      exact ⟨x, r ++ [⟨⟨#[]⟩, [], (w.2 : Int)⟩], rfl, rfl⟩
  · split at h
    · split at h
      · cases h
      · injection h with h
        match r with
        | [] => rename_i h3; exact absurd rfl h3
        | y :: r => obtain ⟨y', r', he, h0, _⟩ := shut_head x y r; exact ⟨y', r', h ▸ he, h0⟩
    · injection h with h
      obtain ⟨y', r', he, h0, _⟩ := addTo_head x r ⟨⟨w.1.toArray⟩, [], (w.2 : Int)⟩
      exact ⟨y', r', h ▸ he, h0⟩
theorem stk_head : ∀ {ws : List Wd} {x : S39} {r o : List S39}, stk ws (x :: r) = .ok o → ∃ x' r', o = x' :: r' ∧ x'.f0 = x.f0
  | [], x, r, o, h => by injection h with h; exact ⟨x, r, h.symm, rfl⟩
  | w :: ws, x, r, o, h => by
    unfold stk at h
    cases hs : stp (x :: r) w with
    | error e => rw [hs] at h; cases h
    | ok o1 =>
      rw [hs] at h
      obtain ⟨x1, r1, rfl, h1⟩ := stp_head hs
      obtain ⟨x2, r2, e, h2⟩ := stk_head h
      exact ⟨x2, r2, e, h2.trans h1⟩
theorem root_word {ws : List Wd} {x : S39} (h : stk ws Parse.start = .ok [x]) : x.f0 = ⟨#[]⟩ := by
  obtain ⟨x', r', e, h0⟩ := stk_head h
  injection e with e1 e2
  rw [e1]
  exact h0
theorem nodes_join (s t : List UInt8) (hs : (nodes s).2 = none) (ht : (nodes t).2 = none) : (nodes (s ++ 10 :: t)).2 = none ∧ Eqv (nodes (s ++ 10 :: t)).1 ((nodes s).1 ++ (nodes t).1) := by
  rw [nodes_eq] at hs ht
  rw [nodes_eq, nodes_eq, nodes_eq]
  obtain ⟨x, hx, hx1⟩ := stk_none hs (by decide)
  obtain ⟨y, hy, hy1⟩ := stk_none ht (by decide)
  rw [hx1, hy1, lx_join, run2_stk_eq, stk_app, hx]
  have hx0 : x.f0 = ⟨#[]⟩ := root_word hx
  obtain ⟨o, ho, hpr⟩ := stk_pr (a := x.f1) (opn := [x]) (opn' := Parse.start) (txt_shift (0 + s.length + 1) t) ⟨x, _, [], [], rfl, rfl, hx0, by rw [List.append_nil]; exact Eqv.refl _, .nil⟩ hy
  obtain ⟨u, v, r, r', rfl, e2, _, h1, h2⟩ := hpr
  injection e2 with e3 e4
  subst e3 e4
  cases h2
  simp only [ho]
  exact ⟨rfl, h1⟩

/-! ### within brackets -/
/-- How deep a stack is at least, once it is closed. -/
def phi : Nat → List S39 → Nat
  | _, [] => 0
  | i, x :: r => max (i + dpL x.f1) (phi (i + 1) r)
def Bare (r : List S39) : Prop := ∀ x ∈ r, x.f0.data.toList = []
theorem phi_le : ∀ (r : List S39) (i : Nat), r ≠ [] → i + r.length ≤ phi i r + 1
  | [], _, h => absurd rfl h
  | [x], i, _ => by simp [phi]
  | x :: y :: r, i, _ => by
    have := phi_le (y :: r) (i + 1) (by simp)
    simp only [phi, List.length_cons] at this ⊢
    omega
theorem phi_push (n : S39) : ∀ (r : List S39) (i : Nat), phi i r ≤ phi i (r ++ [n])
  | [], i => by simp [phi]
  | x :: r, i => by
    have := phi_push n r (i + 1)
    simp only [List.cons_append, phi]
    omega
theorem phi_addTo (n : S39) : ∀ (r : List S39) (i : Nat), phi i r ≤ phi i (Parse.addTo r n)
  | [], i => by simp [phi]
  | [x], i => by rw [addTo_one]; simp only [phi, dpL_app]; omega
  | x :: y :: r, i => by
    rw [addTo_cons]
    have := phi_addTo n (y :: r) (i + 1)
    simp only [phi] at this ⊢
    omega
theorem phi_shut : ∀ (r : List S39) (x : S39) (i : Nat), Bare r → r ≠ [] → phi i (x :: r) ≤ phi i (shut (x :: r))
  | [], _, _, _, h => absurd rfl h
  | [y], x, i, hb, _ => by
    rw [shut_two]
    have := dpN_list (hb y (by simp))
    simp only [phi, dpL_app, dpL_cons, dpL]
    omega
  | y :: z :: r, x, i, hb, _ => by
    rw [shut_cons]
    have := phi_shut (z :: r) y (i + 1) (fun u hu => hb u (List.mem_cons_of_mem _ hu)) (by simp)
    simp only [phi] at this ⊢
    omega
theorem bare_addTo (n : S39) : ∀ (r : List S39), Bare r → Bare (Parse.addTo r n)
  | [], h => h
  | [x], h => by
    rw [addTo_one]
    intro u hu
    simp only [List.mem_singleton] at hu
    subst hu
    exact h x (by simp)
  | x :: y :: r, h => by
    rw [addTo_cons]
    intro u hu
    rcases List.mem_cons.1 hu with rfl | hu
    · exact h _ (by simp)
    · exact bare_addTo n (y :: r) (fun v hv => h v (List.mem_cons_of_mem _ hv)) u hu
theorem bare_shut : ∀ (r : List S39), Bare r → Bare (shut r)
  | [], h => h
  | [x], h => fun u hu => by simp [shut, Parse.addTo] at hu
  | [x, y], h => by
    rw [shut_two]
    intro u hu
    simp only [List.mem_singleton] at hu
    subst hu
    exact h x (by simp)
  | x :: y :: z :: r, h => by
    rw [shut_cons]
    intro u hu
    rcases List.mem_cons.1 hu with rfl | hu
    · exact h _ (by simp)
    · exact bare_shut (y :: z :: r) (fun v hv => h v (List.mem_cons_of_mem _ hv)) u hu
theorem stp_phi {x : S39} {r o : List S39} {w : Wd} (hb : Bare r) (h : stp (x :: r) w = .ok o) : phi 0 (x :: r) ≤ phi 0 o ∧ ∃ x' r', o = x' :: r' ∧ Bare r' := by
  unfold stp at h
  split at h
  · split at h
    · cases h
    · injection h with h
      subst h
      refine ⟨phi_push _ _ _, x, r ++ [⟨⟨#[]⟩, [], (w.2 : Int)⟩], rfl, fun u hu => ?_⟩
      rcases List.mem_append.1 hu with hu | hu
      · exact hb u hu
      · simp only [List.mem_singleton] at hu; subst hu; rfl
  · split at h
    · split at h
      · cases h
      · injection h with h
        subst h
        match r, hb with
        | [], _ => rename_i h3; exact absurd rfl h3
        | [y], hb => exact ⟨phi_shut [y] x 0 hb (by simp), _, [], shut_two x y, fun u hu => by cases hu⟩
        | y :: z :: r, hb => exact ⟨phi_shut (y :: z :: r) x 0 hb (by simp), x, _, shut_cons x y z r, bare_shut _ hb⟩
    · injection h with h
      subst h
      refine ⟨phi_addTo _ _ _, ?_⟩
      match r, hb with
      | [], hb => exact ⟨_, [], addTo_one x _, hb⟩
      | y :: r, hb => exact ⟨x, _, addTo_cons x y r _, bare_addTo _ _ hb⟩
theorem stk_phi : ∀ {ws : List Wd} {x : S39} {r o : List S39}, Bare r → stk ws (x :: r) = .ok o → phi 0 (x :: r) ≤ phi 0 o
  | [], x, r, o, _, h => by injection h with h; subst h; exact Nat.le_refl _
  | w :: ws, x, r, o, hb, h => by
    unfold stk at h
    cases hs : stp (x :: r) w with
    | error e => rw [hs] at h; cases h
    | ok o1 =>
      rw [hs] at h
      obtain ⟨h1, x1, r1, rfl, hb1⟩ := stp_phi hb hs
      exact Nat.le_trans h1 (stk_phi hb1 h)
theorem addTo_pre (n : S39) : ∀ (B : List S39) {T : List S39}, T ≠ [] → Parse.addTo (B ++ T) n = B ++ Parse.addTo T n
  | [], _, _ => rfl
  | b :: B, T, h => by
    have := addTo_pre n B h
    match hc : B ++ T, this with
    | [], _ => simp at hc; exact absurd hc.2 h
    | c :: r, this => rw [List.cons_append, hc, addTo_cons, this]; rfl
theorem shut_pre : ∀ (B : List S39) (x y : S39) (r : List S39), shut (B ++ x :: y :: r) = B ++ shut (x :: y :: r)
  | [], _, _, _ => rfl
  | b :: B, x, y, r => by
    have := shut_pre B x y r
    match hc : B ++ x :: y :: r, this with
    | [], _ => simp at hc
    | [c], _ => have := congrArg List.length hc; simp at this; omega
    | c :: d :: q, this => rw [List.cons_append, hc, shut_cons, this]; rfl
/-- The same steps over a stack that has others below. -/
theorem stk_over (B : List S39) : ∀ {ws vs : List Wd} {T : List S39} {x y : S39} {r : List S39}, Txt ws vs → Eqv T (x :: r) → Bare r → stk vs (x :: r) = .ok [y] → B.length + dpL y.f1 ≤ 200 → ∃ T2, stk ws (B ++ T) = .ok (B ++ T2) ∧ Eqv T2 [y]
  | [], [], T, x, y, r, _, hT, _, h, _ => by injection h with h; rw [h] at hT; exact ⟨T, rfl, hT⟩
  | [], v :: vs, _, _, _, _, ht, _, _, _, _ => by simp [Txt] at ht
  | w :: ws, [], _, _, _, _, ht, _, _, _, _ => by simp [Txt] at ht
  | (w, p) :: ws, (v, q) :: vs, T, x, y, r, ht, hT, hb, h, hd => by
    simp only [Txt, List.map_cons, List.cons.injEq] at ht
    obtain ⟨rfl, ht⟩ := ht
    unfold stk at h ⊢
    have hl := hT.len
    cases hs : stp (x :: r) (w, q) with
    | error e => rw [hs] at h; cases h
    | ok o =>
      rw [hs] at h
      obtain ⟨_, x1, r1, rfl, hb1⟩ := stp_phi hb hs
      have hphi := stk_phi hb1 h
      have hlen := phi_le (x1 :: r1) 0 (by simp)
      have hy : phi 0 [y] = dpL y.f1 := by simp [phi]
      unfold stp at hs ⊢
      by_cases h40 : w = [40]
      · subst h40
        rw [if_pos rfl] at hs ⊢
        by_cases h201 : (x :: r).length = 201
        · rw [if_pos h201] at hs; cases hs
        · rw [if_neg h201] at hs
          injection hs with hs
          have h3 := congrArg List.length hs
          rw [List.length_append, List.length_singleton] at h3
          rw [if_neg (by rw [List.length_append, hl]; omega), List.append_assoc]
          exact stk_over B ht (by rw [← hs]; exact hT.app (.one (x := ⟨⟨#[]⟩, [], (p : Int)⟩) (y := ⟨⟨#[]⟩, [], (q : Int)⟩) rfl .nil)) hb1 h hd
      · rw [if_neg h40] at hs ⊢
        by_cases h41 : w = [41]
        · subst h41
          rw [if_pos rfl] at hs ⊢
          by_cases h1 : (x :: r).length = 1
          · rw [if_pos h1] at hs; cases hs
          · rw [if_neg h1] at hs
            injection hs with hs
            match T, r, hT, hl, hb, h1, hs with
            | [_], [], _, _, _, h1, _ => exact absurd rfl h1
            | c :: d :: T, z :: r, hT, hl, hb, h1, hs =>
              rw [if_neg (by simp; omega), shut_pre]
              exact stk_over B ht (by rw [← hs]; exact hT.shut) hb1 h hd
        · rw [if_neg h41] at hs ⊢
          injection hs with hs
          have hne : T ≠ [] := by intro e; subst e; simp at hl
          rw [addTo_pre _ _ hne]
          exact stk_over B ht (by rw [← hs]; exact hT.addTo (one_eqv w p q)) hb1 h hd
/-! brackets that open, that close -/
def opens (p n : Nat) : List Wd := (List.range' p n).map fun i => ([40], i)
def closes (p n : Nat) : List Wd := (List.range' p n).map fun i => ([41], i)
theorem lx_opens (r : List UInt8) : ∀ (n pos : Nat), lx pos .gap (List.replicate n 40 ++ r) = opens pos n ++ lx (pos + n) .gap r
  | 0, pos => rfl
  | n + 1, pos => by
    rw [List.replicate_succ, List.cons_append, lx_gap_rnd (by decide) (by decide) (by decide), lx_opens r n (pos + 1)]
    simp only [opens, List.range'_succ, List.map_cons, List.cons_append]
    rw [show pos + 1 + n = pos + (n + 1) by omega]
theorem lx_closes (r : List UInt8) : ∀ (n pos : Nat), lx pos .gap (List.replicate n 41 ++ r) = closes pos n ++ lx (pos + n) .gap r
  | 0, pos => rfl
  | n + 1, pos => by
    rw [List.replicate_succ, List.cons_append, lx_gap_rnd (by decide) (by decide) (by decide), lx_closes r n (pos + 1)]
    simp only [closes, List.range'_succ, List.map_cons, List.cons_append]
    rw [show pos + 1 + n = pos + (n + 1) by omega]
def Blank (e : S39) : Prop := e.f0 = ⟨#[]⟩ ∧ e.f1 = []
theorem stk_opens : ∀ (n p : Nat) (opn : List S39), opn.length + n ≤ 201 → ∃ E, E.length = n ∧ (∀ e ∈ E, Blank e) ∧ (∀ i e, E[i]? = some e → e.f2 = ((p + i : Nat) : Int)) ∧ stk (opens p n) opn = .ok (opn ++ E)
  | 0, p, opn, _ => ⟨[], rfl, (fun e he => by cases he), (fun i e h => by simp at h), by simp [opens, stk]⟩
  | n + 1, p, opn, h => by
    obtain ⟨E, h1, h2, h4, h3⟩ := stk_opens n (p + 1) (opn ++ [⟨⟨#[]⟩, [], (p : Int)⟩]) (by simp; omega)
    refine ⟨⟨⟨#[]⟩, [], (p : Int)⟩ :: E, by simp [h1], fun e he => ?_, fun i e hi => ?_, ?_⟩
    · rcases List.mem_cons.1 he with rfl | he
      · exact ⟨rfl, rfl⟩
      · exact h2 e he
    · cases i with
      | zero => simp at hi; subst hi; simp
      | succ i =>
        rw [List.getElem?_cons_succ] at hi
        rw [h4 i e hi, show p + 1 + i = p + (i + 1) by omega]
    · simp only [opens, List.range'_succ, List.map_cons, stk, stp]
      rw [if_pos trivial, if_neg (by omega)]
      simp only [opens] at h3
      simpa using h3
/-- n brackets around. -/
def Un : Nat → List S39 → List S39 → Prop
  | 0, c, a => Eqv c a
  | n + 1, c, a => ∃ m, c = [m] ∧ m.f0 = ⟨#[]⟩ ∧ Un n m.f1 a
theorem stk_closes : ∀ (n p : Nat) (B : List S39) (x : S39), B.length = n → (∀ e ∈ B, Blank e) → x.f0 = ⟨#[]⟩ → ∃ z, stk (closes p n) (B ++ [x]) = .ok [z] ∧ ∀ k a, Un k x.f1 a → Un (n + k) z.f1 a
  | 0, p, B, x, hB, _, _ => by
    obtain rfl := List.length_eq_zero_iff.1 hB
    exact ⟨x, by simp [closes, stk], fun k a h => by rw [Nat.zero_add]; exact h⟩
  | n + 1, p, B, x, hB, hb, hx => by
    have hne : B ≠ [] := by intro e; subst e; simp at hB
    obtain ⟨B', b, rfl⟩ : ∃ B' b, B = B' ++ [b] := ⟨B.dropLast, B.getLast hne, (List.dropLast_concat_getLast hne).symm⟩
    have hbb := hb b (by simp)
    obtain ⟨z, hz, hu⟩ := stk_closes n (p + 1) B' ({ b with f1 := b.f1 ++ [x] }) (by simp at hB; omega) (fun e he => hb e (by simp [he])) hbb.1
    refine ⟨z, ?_, fun k a h => ?_⟩
    · simp only [closes, List.range'_succ, List.map_cons, stk, stp]
      rw [if_neg (by decide), if_pos trivial, if_neg (by simp), List.append_assoc]
      show stk _ (shut (B' ++ b :: x :: [])) = _
      rw [shut_pre, shut_two]
      exact hz
    · have := hu (k + 1) a ⟨x, by simp [hbb.2], hx, h⟩
      rwa [show n + (k + 1) = n + 1 + k by omega] at this
/-- Nodes in brackets. -/
theorem nodes_wrap (n : Nat) (s : List UInt8) (hs : (nodes s).2 = none) (hd : n + dpL (nodes s).1 ≤ 200) : (nodes (List.replicate n 40 ++ (s ++ 10 :: List.replicate n 41))).2 = none ∧ Un n (nodes (List.replicate n 40 ++ (s ++ 10 :: List.replicate n 41))).1 (nodes s).1 := by
  rw [nodes_eq] at hs hd
  rw [nodes_eq, nodes_eq]
  obtain ⟨y, hy, hy1⟩ := stk_none hs (by decide)
  rw [hy1] at hd ⊢
  have hy0 : y.f0 = ⟨#[]⟩ := root_word hy
  have hc := lx_closes [] n (0 + n + s.length + 1)
  rw [List.append_nil] at hc
  rw [lx_opens, lx_join, hc, run2_stk_eq, stk_app]
  obtain ⟨E, hE1, hE2, _, hE3⟩ := stk_opens n 0 Parse.start (by simp [Parse.start]; omega)
  rw [hE3]
  have hZ : ∀ e ∈ Parse.start ++ E, Blank e := by
    intro e he
    rcases List.mem_append.1 he with he | he
    · simp [Parse.start] at he; subst he; exact ⟨rfl, rfl⟩
    · exact hE2 e he
  have hne : Parse.start ++ E ≠ [] := by simp [Parse.start]
  obtain ⟨B, e, hBe⟩ : ∃ B e, Parse.start ++ E = B ++ [e] := ⟨_, _, (List.dropLast_concat_getLast hne).symm⟩
  rw [hBe] at hZ ⊢
  have hBl : B.length = n := by have := congrArg List.length hBe; simp [Parse.start, hE1] at this; omega
  obtain ⟨he0, he1⟩ := hZ e (by simp)
  obtain ⟨T2, hT2, hq⟩ := stk_over B (T := [e]) (txt_shift (0 + n) s) (.one (y := ⟨⟨#[]⟩, [], 0⟩) he0 (by rw [he1]; exact .nil)) (fun u hu => by cases hu) hy (by omega)
  simp only []
  rw [stk_app, hT2]
  cases hq with
  | @cons x _ xs _ g0 g1 g2 =>
    cases g2
    obtain ⟨z, hz, hu⟩ := stk_closes n (0 + n + s.length + 1) B x hBl (fun e he => hZ e (by simp [he])) (g0.trans hy0)
    simp only []
    rw [stk_app, hz]
    have := hu 0 _ g1
    rw [Nat.add_zero] at this
    exact ⟨rfl, this⟩
end Go.Proofs.YthbiofcgaegjkaaDoor.TreeSpec
