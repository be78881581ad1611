/- The pure law of TreePlaces: the nodes of any text of at most 500 bytes stand where their words and brackets are. No other condition. -/
import Derived.Test.YthbiofcgaegjkaaDoorTreeSpec
namespace Go.Proofs.YthbiofcgaegjkaaDoor.Pure
open Go.RowKit Go.Proofs.YthbiofcgaegjkaaDoor.ExtE Go.Proofs.YthbiofcgaegjkaaDoor.PTreeA Go.Proofs.YthbiofcgaegjkaaDoorW.PrintWords Go.Proofs.YthbiofcgaegjkaaDoorW.PrintLast Go.Proofs.YthbiofcgaegjkaaDoor.LexSpec Go.Proofs.YthbiofcgaegjkaaDoor.TreeSpec
set_option linter.unusedVariables false
theorem rd_at (pre : List S39) (n : S39) (rest : List S39) : rd_T39 (pre ++ n :: rest) (pre.length : Int) = n := by
  simp [rd_T39]
theorem rd_at1 (pre : List S39) (n m : S39) (rest : List S39) : rd_T39 (pre ++ n :: m :: rest) ((pre.length : Int) + 1) = m := by
  have : ((pre.length : Int) + 1).toNat = pre.length + 1 := by omega
  unfold rd_T39
  rw [this]
  simp [List.getD_eq_getElem?_getD]
theorem wr_in (x : Int) (h0 : -100000 ≤ x) (h1 : x ≤ 100000) : wrap64 x = x := by unfold wrap64; omega
theorem at_of {s : List UInt8} {p : Nat} (S : ByteArray) (hS : S.data.toList = s) (h : s[p]? = some 40) : p < S.size ∧ bt S (p : Int) = 40 := by
  subst hS
  obtain ⟨hl, hg⟩ := List.getElem?_eq_some_iff.1 h
  have hl : p < S.size := by have := data_length S; omega
  refine ⟨hl, ?_⟩
  rw [bt_get S p hl]
  have : S[p] = 40 := hg
  rw [this]
  rfl
theorem within_l (s : List UInt8) (S : ByteArray) (hS : S.data.toList = s) (hs : S.size ≤ 500) {a b : Nat} {l : List S39} (h : Wn s a b l) : b ≤ S.size →
    (∀ pre : List S39, (pre ++ l).length ≤ 1000 → Ev (fun k => gristmilllaw4_within.l0 k (pre ++ l) S (b : Int) ((a : Int) - 1) (pre.length : Int)) true) ∧ Ev (fun k => gristmilllaw4_within.f k l S (a : Int) (b : Int)) true := by
  induction h with
  | @nil a b h =>
    intro hb
    have h0 : ∀ pre : List S39, (pre ++ []).length ≤ 1000 → Ev (fun k => gristmilllaw4_within.l0 k (pre ++ []) S (b : Int) ((a : Int) - 1) (pre.length : Int)) true := by
      intro pre hl
      refine Ev.step (f := fun _ => some true) (fun k => ?_) (Ev.now _)
      simp only [gristmilllaw4_within.l0]
      rw [if_neg (by simp)]
    refine ⟨h0, Ev.step (fun k => ?_) (h0 [] (by simp))⟩
    simp only [gristmilllaw4_within.f]
    rw [wr_in _ (by omega) (by omega)]
    rfl
  | @word a b p n rest h0 h1 h2 h3 h4 ih =>
    intro hb
    obtain ⟨ih, _⟩ := ih hb
    have hle := h4.le
    have hpos : 0 < n.f0.data.toList.length := List.length_pos_iff.2 h0
    have hsz : n.f0.data.toList.length = n.f0.size := data_length n.f0
    rw [hsz] at hle hpos h3 ih
    have hl0 : ∀ pre : List S39, (pre ++ n :: rest).length ≤ 1000 → Ev (fun k => gristmilllaw4_within.l0 k (pre ++ n :: rest) S (b : Int) ((a : Int) - 1) (pre.length : Int)) true := by
      intro pre hl
      have hl2 : pre.length < 1000 := by simp at hl; omega
      have hlen : ((pre.length : Nat) : Int) < ((pre ++ n :: rest).length : Int) := by simp; omega
      have ih := ih (pre ++ [n]) (by simpa using hl)
      have e : pre ++ [n] ++ rest = pre ++ n :: rest := by simp
      rw [e] at ih
      refine Ev.step (f := fun k => gristmilllaw4_within.j1 k (pre ++ n :: rest) S (b : Int) (pre.length : Int) (p : Int) false) (fun k => ?_) (Ev.step (fun k => ?_) ih)
      · simp only [gristmilllaw4_within.l0]
        rw [if_pos hlen, if_pos (by omega), rd_at, h1, if_neg (by omega), decide_eq_false (by omega)]
      · simp only [gristmilllaw4_within.j1]
        have w1 : wrap64 ((p : Int) + (n.f0.size : Int)) = ((p + n.f0.size : Nat) : Int) := by rw [wr_in _ (by omega) (by omega)]; omega
        have w2 : wrap64 (((p + n.f0.size : Nat) : Int) - 1) = ((p + n.f0.size : Nat) : Int) - 1 := wr_in _ (by omega) (by omega)
        have w3 : wrap64 ((pre.length : Int) + 1) = ((pre ++ [n]).length : Int) := by rw [wr_in _ (by omega) (by omega)]; simp
        rw [if_neg (by simp), if_pos (by omega), if_pos hlen, rd_at, if_neg (by rw [ByteArray.toList_eq]; exact h0), w1, if_neg (by omega), if_pos (by omega), if_pos (by omega), if_pos (by omega), if_pos ?_, w2, w3]
        rw [ByteArray.toList_eq, ByteArray.toList_eq, Int.toNat_natCast, Int.toNat_natCast, ext_toList, hS, List.drop_take, Nat.add_sub_cancel_left]
        exact h3
    refine ⟨hl0, Ev.step (fun k => ?_) (hl0 [] ?_)⟩
    · simp only [gristmilllaw4_within.f]
      rw [wr_in _ (by omega) (by omega)]
      rfl
    · have := h4.length
      simp
      omega
  | @list a b p n rest h0 h1 h2 h3 h5 h4 ih5 ih4 =>
    intro hb
    obtain ⟨ih, _⟩ := ih4 hb
    have hle := h4.le
    have hnx : nxt rest b ≤ b := by
      cases rest with
      | nil => exact Nat.le_refl _
      | cons m r => have := h4.first; simp only [nxt]; omega
    obtain ⟨_, ih5⟩ := ih5 (Nat.le_trans hnx hb)
    obtain ⟨hp, h40⟩ := at_of S hS h3
    obtain ⟨c, hc⟩ : ∃ c, nxt rest b = c := ⟨_, rfl⟩
    rw [hc] at ih5 h5
    have hc := Aside0.mk hc
    have h40 := Aside0.mk h40
    clear hnx
    have hl0 : ∀ pre : List S39, (pre ++ n :: rest).length ≤ 1000 → Ev (fun k => gristmilllaw4_within.l0 k (pre ++ n :: rest) S (b : Int) ((a : Int) - 1) (pre.length : Int)) true := by
      intro pre hl
      have hl2 : pre.length < 1000 := by simp at hl; omega
      have hlen : ((pre.length : Nat) : Int) < ((pre ++ n :: rest).length : Int) := by simp; omega
      have ih := ih (pre ++ [n]) (by simpa using hl)
      have e : pre ++ [n] ++ rest = pre ++ n :: rest := by simp
      rw [e] at ih
      have w1 := Aside0.mk (show wrap64 ((pre.length : Int) + 1) = (pre.length : Int) + 1 from wr_in _ (by omega) (by omega))
      have w3 : (pre.length : Int) + 1 = ((pre ++ [n]).length : Int) := by simp
      have w4 := Aside0.mk (show wrap64 ((p : Int) + 1) = ((p + 1 : Nat) : Int) by rw [wr_in _ (by omega) (by omega)]; omega)
      refine Ev.step (f := fun k => gristmilllaw4_within.j1 k (pre ++ n :: rest) S (b : Int) (pre.length : Int) (p : Int) false) (fun k => ?_) (Ev.step (f := fun k => gristmilllaw4_within.j2 k (pre ++ n :: rest) S (b : Int) (pre.length : Int) (p : Int) (c : Int)) (fun k => ?_) (Ev.step (f := fun k => (gristmilllaw4_within.f k n.f1 S ((p + 1 : Nat) : Int) (c : Int)).bind fun t111 => if t111 = true then gristmilllaw4_within.l0 k (pre ++ n :: rest) S (b : Int) (p : Int) ((pre ++ [n]).length : Int) else some false) (fun k => ?_) (Ev.bind ih5 ?_)))
      · simp only [gristmilllaw4_within.l0]
        rw [if_pos hlen, if_pos (by omega), rd_at, h1, if_neg (by omega), decide_eq_false (by omega)]
      · simp only [gristmilllaw4_within.j1]
        rw [if_neg (by simp), if_pos (by omega), if_pos hlen, rd_at, if_pos (by rw [ByteArray.toList_eq]; exact h0), if_pos (by omega), if_pos (by omega), if_pos h40.out, w1.out]
        cases rest with
        | nil =>
          have hc : b = c := hc.out
          subst hc
          rw [if_neg (by simp)]
        | cons m r =>
          have hf := h4.first.2.2
          have hc : m.f2.toNat = c := hc.out
          rw [if_pos (by simp; omega), if_pos (by omega), rd_at1]
          congr 1
          omega
      · simp only [gristmilllaw4_within.j2]
        rw [if_pos (by omega), if_pos hlen, rd_at, w1.out, w4.out, w3]
      · simp only [if_true]
        refine Ev.congr (fun k => ?_) ih
        rw [show (((p + 1 : Nat) : Int) - 1) = (p : Int) by omega]
    refine ⟨hl0, Ev.step (fun k => ?_) (hl0 [] ?_)⟩
    · simp only [gristmilllaw4_within.f]
      rw [wr_in _ (by omega) (by omega)]
      rfl
    · have := h4.length
      simp
      omega
theorem TreePlaces : gristmilllaw4_TreePlaces.Pure := by
  intro s hs
  apply Ev.rounds
  unfold gristmilllaw4_TreePlaces.f
  refine Ev.bind first_ev ?_
  simp only [if_true]
  by_cases h5 : (s.size : Int) > 500
  · simp only [if_pos h5]
    exact Ev.now _
  · simp only [if_neg h5]
    refine Ev.bind (Parse_ev s (by omega)) ?_
    by_cases hn : (nodes s.data.toList).2 = none
    · have hw := nodes_at _ hn
      rw [hn]
      simp only [Option.isNone_none, if_true]
      have := (within_l s.data.toList s rfl (by omega) hw (by rw [data_length s]; exact Nat.le_refl _)).2
      rw [data_length s] at this
      exact Ev.bind this (Ev.now _)
    · have he := nodes_err _ hn
      rw [he]
      have : (nodes s.data.toList).2.isNone = false := by
        cases hx : (nodes s.data.toList).2 with
        | none => exact absurd hx hn
        | some c => rfl
      simp only [this]
      exact Ev.now _
end Go.Proofs.YthbiofcgaegjkaaDoor.Pure
