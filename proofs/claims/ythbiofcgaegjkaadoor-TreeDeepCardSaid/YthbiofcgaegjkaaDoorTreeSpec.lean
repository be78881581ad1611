/- Plain facts on what tree.Parse's plain function comes to. No condition. -/
import Derived.Test.YthbiofcgaegjkaaDoorPTreeAx1
import Derived.Test.YthbiofcgaegjkaaDoorLexSpec
namespace Go.Proofs.YthbiofcgaegjkaaDoor.TreeSpec
open Go.RowKit Go.Proofs.YthbiofcgaegjkaaDoor.ExtE Go.Proofs.YthbiofcgaegjkaaDoor.PTreeA Go.Proofs.YthbiofcgaegjkaaDoorW.PrintWords Go.Proofs.YthbiofcgaegjkaaDoorW.PrintLast Go.Proofs.YthbiofcgaegjkaaDoor.LexSpec
set_option linter.unusedVariables false
set_option linter.unusedSimpArgs false
abbrev S46 := Go.Proofs.YthbiofcgaegjkaaDoor.PTreeL.S46

/-- The nodes of a text. -/
def nodes (s : List UInt8) : List S39 × Option Int := Parse.run ((lx 0 .gap s).map cv) Parse.start
theorem Parse_ev (s : ByteArray) (hs : s.size ≤ 65536) : Ev (fun k => tree_Parse.f k s) (nodes s.data.toList) := by
  have h := Words_ev s hs
  have hl : ((lx 0 .gap s.data.toList).map cv).length ≤ 65536 := by
    rw [List.length_map]
    have := (lx_length s.data.toList 0).1
    have := data_length s
    omega
  refine Ev.congr (f := fun k => (PTreeL.lex_Words.f k s).bind fun q => match q.2 with
    | some c => if c % 1000 < 500 then some ([], some c) else none
    | none => if q.1.length ≤ 65536 then some (Parse.run q.1 Parse.start) else none) (fun k => rfl) ?_
  exact Ev.bind h (by simp only [if_pos hl]; exact Ev.now _)
/-! ### the nodes, by a machine over the words -/
def shut (opn : List S39) : List S39 := match opn[opn.length - 1]? with
  | some x => Parse.addTo (opn.take (opn.length - 1)) x
  | none => opn
def stp (opn : List S39) (x : Wd) : Except Int (List S39) :=
  if x.1 = [40] then (if opn.length = 201 then .error (1000 * (x.2 : Int) + 605) else .ok (opn ++ [⟨⟨#[]⟩, [], (x.2 : Int)⟩]))
  else if x.1 = [41] then (if opn.length = 1 then .error (1000 * (x.2 : Int) + 607) else .ok (shut opn))
  else .ok (Parse.addTo opn ⟨⟨x.1.toArray⟩, [], (x.2 : Int)⟩)
def run2 : List Wd → List S39 → List S39 × Option Int
  | [], opn => if 1 < opn.length then ([], some (1000 * (opn.getD (opn.length - 1) z39).f2 + 606)) else ((opn.getD 0 z39).f1, none)
  | w :: ws, opn => match stp opn w with
    | .error e => ([], some e)
    | .ok o => run2 ws o
theorem stp_eq (opn : List S39) (x : Wd) : Parse.stepW opn (cv x) = stp opn x := by
  have h : (cv x).f0.toList = x.1 := by rw [ByteArray.toList_eq]; rfl
  unfold Parse.stepW stp
  rw [h]
  split
  · rfl
  · split
    · split
      · rfl
      · unfold shut
        cases opn[opn.length - 1]? <;> rfl
    · rfl
theorem run2_eq : ∀ (ws : List Wd) (opn : List S39), Parse.run (ws.map cv) opn = run2 ws opn
  | [], opn => rfl
  | w :: ws, opn => by
    simp only [List.map_cons, Parse.run, run2, stp_eq]
    cases stp opn w with
    | error e => rfl
    | ok o => exact run2_eq ws o
theorem nodes_eq (s : List UInt8) : nodes s = run2 (lx 0 .gap s) Parse.start := run2_eq _ _
theorem Text_ev {l : List S39} {t : List UInt8} (h : Text.wr 10 l = some t) (hl : t.length ≤ 140737488351232) : tree_Text.f l = some ⟨t.toArray⟩ := by
  unfold tree_Text.f Text.tree_Text.f
  rw [h, Option.bind_some, if_pos hl]
theorem first_ev : Ev (fun k => gristmilllaw4_first.f k) true := by
  unfold gristmilllaw4_first.f
  refine Ev.bind (Parse_ev _ (by decide)) ?_
  have h1 : nodes ((⟨#[40, 32, 97, 32, 32, 40, 98, 41, 41]⟩ : ByteArray).data.toList) = ([⟨⟨#[]⟩, [⟨⟨#[97]⟩, [], 2⟩, ⟨⟨#[]⟩, [⟨⟨#[98]⟩, [], 6⟩], 5⟩], 0⟩], none) := by rw [nodes_eq]; rfl
  rw [h1]
  have h2 : Text.wr 10 [⟨⟨#[]⟩, [⟨⟨#[97]⟩, [], 2⟩, ⟨⟨#[]⟩, [⟨⟨#[98]⟩, [], 6⟩], 5⟩], 0⟩] = some [40, 97, 32, 40, 98, 41, 41] := by simp [Text.wr, Text.wl, ByteArray.toList_eq]
  simp only [Option.isNone_none, if_true]
  rw [Text_ev h2 (by decide)]
  exact Ev.congr (f := fun _ => some true) (fun k => by simp [ByteArray.toList_eq]) (Ev.now _)

/-! ### where nodes stand -/
def nxt (rest : List S39) (b : Nat) : Nat := match rest with
  | [] => b
  | m :: _ => m.f2.toNat
inductive Wn (s : List UInt8) : Nat → Nat → List S39 → Prop
  | nil {a b : Nat} (h : a ≤ b) : Wn s a b []
  | word {a b p : Nat} {n : S39} {rest : List S39} (h0 : n.f0.data.toList ≠ []) (h1 : n.f2 = (p : Int)) (h2 : a ≤ p) (h3 : (s.drop p).take n.f0.data.toList.length = n.f0.data.toList) (h4 : Wn s (p + n.f0.data.toList.length) b rest) : Wn s a b (n :: rest)
  | list {a b p : Nat} {n : S39} {rest : List S39} (h0 : n.f0.data.toList = []) (h1 : n.f2 = (p : Int)) (h2 : a ≤ p) (h3 : s[p]? = some 40) (h5 : Wn s (p + 1) (nxt rest b) n.f1) (h4 : Wn s (p + 1) b rest) : Wn s a b (n :: rest)
theorem Wn.le {s : List UInt8} {a b : Nat} {l : List S39} (h : Wn s a b l) : a ≤ b := by
  induction h with
  | nil h => exact h
  | word h0 h1 h2 h3 h4 ih => omega
  | list h0 h1 h2 h3 h5 h4 ih5 ih4 => omega
theorem Wn.first {s : List UInt8} {a b : Nat} {n : S39} {l : List S39} (h : Wn s a b (n :: l)) : a ≤ n.f2.toNat ∧ n.f2.toNat < b ∧ 0 ≤ n.f2 := by
  cases h with
  | word h0 h1 h2 h3 h4 =>
    have := h4.le
    have : 0 < n.f0.data.toList.length := List.length_pos_iff.2 h0
    omega
  | list h0 h1 h2 h3 h5 h4 =>
    have := h4.le
    omega
theorem Wn.mono {s : List UInt8} {a b : Nat} {l : List S39} (h : Wn s a b l) : ∀ {b' : Nat}, b ≤ b' → Wn s a b' l := by
  induction h with
  | nil h => intro b' hb; exact .nil (by omega)
  | word h0 h1 h2 h3 h4 ih => intro b' hb; exact .word h0 h1 h2 h3 (ih hb)
  | @list a b p n rest h0 h1 h2 h3 h5 h4 ih5 ih4 =>
    intro b' hb
    refine .list h0 h1 h2 h3 (ih5 ?_) (ih4 hb)
    cases rest <;> simp only [nxt] <;> omega
theorem Wn.snoc {s : List UInt8} {a b c : Nat} {l : List S39} {n : S39} (h : Wn s a b l) : Wn s b c [n] → Wn s a c (l ++ [n]) := by
  intro hn
  have hp := hn.first
  induction h with
  | nil h =>
    cases hn with
    | word h0 h1 h2 h3 h4 => exact .word h0 h1 (by omega) h3 h4
    | list h0 h1 h2 h3 h5 h4 => exact .list h0 h1 (by omega) h3 h5 h4
  | word h0 h1 h2 h3 h4 ih => exact .word h0 h1 h2 h3 (ih hn hp)
  | @list a b p m rest h0 h1 h2 h3 h5 h4 ih5 ih4 =>
    refine .list h0 h1 h2 h3 ?_ (ih4 hn hp)
    cases rest with
    | nil => exact h5.mono (show b ≤ n.f2.toNat by omega)
    | cons x r => exact h5
theorem Wn.length {s : List UInt8} {a b : Nat} {l : List S39} (h : Wn s a b l) : a + l.length ≤ b := by
  induction h with
  | nil h => simpa using h
  | word h0 h1 h2 h3 h4 ih =>
    have := List.length_pos_iff.2 h0
    simp only [List.length_cons]
    omega
  | list h0 h1 h2 h3 h5 h4 ih5 ih4 => simp only [List.length_cons]; omega

/-! ### the open lists -/
inductive Stk (s : List UInt8) (e : Nat) : Nat → List S39 → Prop
  | top {a : Nat} {x : S39} (h : Wn s a e x.f1) : Stk s e a [x]
  | more {a p : Nat} {x y : S39} {rest : List S39} (h : Wn s a p x.f1) (h1 : y.f2 = (p : Int)) (h0 : y.f0.data.toList = []) (h3 : s[p]? = some 40) (h4 : Stk s e (p + 1) (y :: rest)) : Stk s e a (x :: y :: rest)
theorem addTo_one (x n : S39) : Parse.addTo [x] n = [{ x with f1 := x.f1 ++ [n] }] := rfl
theorem addTo_cons (x y : S39) (rest : List S39) (n : S39) : Parse.addTo (x :: y :: rest) n = x :: Parse.addTo (y :: rest) n := by
  unfold Parse.addTo
  simp only [List.length_cons, Nat.add_sub_cancel, List.getElem?_cons_succ, List.set_cons_succ]
  split <;> rfl
theorem shut_two (x y : S39) : shut [x, y] = [{ x with f1 := x.f1 ++ [y] }] := rfl
theorem shut_cons (x y z : S39) (rest : List S39) : shut (x :: y :: z :: rest) = x :: shut (y :: z :: rest) := by
  unfold shut
  simp only [List.length_cons, Nat.add_sub_cancel, List.getElem?_cons_succ, List.take_succ_cons]
  cases h : (z :: rest)[rest.length]? with
  | none => rfl
  | some u => exact addTo_cons x y _ u
theorem addTo_head (y : S39) (rest : List S39) (n : S39) : ∃ y' rest', Parse.addTo (y :: rest) n = y' :: rest' ∧ y'.f0 = y.f0 ∧ y'.f2 = y.f2 := by
  cases rest with
  | nil => exact ⟨_, _, addTo_one y n, rfl, rfl⟩
  | cons z r => exact ⟨_, _, addTo_cons y z r n, rfl, rfl⟩
theorem shut_head (y z : S39) (rest : List S39) : ∃ y' rest', shut (y :: z :: rest) = y' :: rest' ∧ y'.f0 = y.f0 ∧ y'.f2 = y.f2 := by
  cases rest with
  | nil => exact ⟨_, _, shut_two y z, rfl, rfl⟩
  | cons u r => exact ⟨_, _, shut_cons y z u r, rfl, rfl⟩
theorem Stk.add {s : List UInt8} {e c : Nat} {n : S39} (hn : Wn s e c [n]) {a : Nat} {opn : List S39} (h : Stk s e a opn) : Stk s c a (Parse.addTo opn n) := by
  induction h with
  | top h => exact .top (h.snoc hn)
  | @more a p x y rest h h1 h0 h3 h4 ih =>
    rw [addTo_cons]
    obtain ⟨y', rest', he, e0, e2⟩ := addTo_head y rest n
    rw [he] at ih ⊢
    exact .more h (by rw [e2]; exact h1) (by rw [e0]; exact h0) h3 ih
theorem Stk.push {s : List UInt8} {e p : Nat} {n : S39} (hp : e ≤ p) (h3 : s[p]? = some 40) (h1 : n.f2 = (p : Int)) (h0 : n.f0.data.toList = []) (hL : n.f1 = []) {a : Nat} {opn : List S39} (h : Stk s e a opn) : Stk s (p + 1) a (opn ++ [n]) := by
  induction h with
  | top h => exact .more (h.mono hp) h1 h0 h3 (.top (by rw [hL]; exact .nil (Nat.le_refl _)))
  | more h e1 e0 e3 h4 ih => exact .more h e1 e0 e3 ih
theorem Stk.shut {s : List UInt8} {e c : Nat} (hc : e ≤ c) {a : Nat} {opn : List S39} (h : Stk s e a opn) : opn.length ≠ 1 → Stk s c a (TreeSpec.shut opn) := by
  induction h with
  | top h => intro hl; exact absurd rfl hl
  | @more a p x y rest h h1 h0 h3 h4 ih =>
    intro _
    cases h4 with
    | top h5 =>
      rw [shut_two]
      exact .top (h.snoc (.list h0 h1 (Nat.le_refl _) h3 (h5.mono (by simp only [nxt]; exact hc)) (.nil (by have := h5.le; omega))))
    | more h5 g1 g0 g3 h6 =>
      rw [shut_cons]
      have := ih (by simp)
      obtain ⟨y', rest', he, e0, e2⟩ := shut_head y _ _
      rw [he] at this ⊢
      exact .more h (by rw [e2]; exact h1) (by rw [e0]; exact h0) h3 this

/-! ### where words stand -/
inductive Chain (s : List UInt8) : Nat → List Wd → Prop
  | nil {a : Nat} : Chain s a []
  | cons {a p : Nat} {w : List UInt8} {r : List Wd} (h : a ≤ p) (h0 : w ≠ []) (h1 : (s.drop p).take w.length = w) (h2 : Chain s (p + w.length) r) : Chain s a ((w, p) :: r)
theorem Chain.weak {s : List UInt8} {a b : Nat} {l : List Wd} (h : Chain s a l) (hb : b ≤ a) : Chain s b l := by
  cases h with
  | nil => exact .nil
  | cons h h0 h1 h2 => exact .cons (by omega) h0 h1 h2
theorem take_at {s : List UInt8} {p : Nat} {w : List UInt8} {c : UInt8} {r : List UInt8} (h1 : (s.drop p).take w.length = w) (hd : s.drop (p + w.length) = c :: r) : (s.drop p).take (w ++ [c]).length = w ++ [c] := by
  rw [← List.drop_drop] at hd
  have h2 : s.drop p = w ++ c :: r := by
    rw [← List.take_append_drop w.length (s.drop p), h1, hd]
  rw [h2, show w ++ c :: r = (w ++ [c]) ++ r by simp]
  exact List.take_left' rfl
theorem chain_lx (s : List UInt8) : ∀ (r : List UInt8) (pos : Nat), s.drop pos = r →
    Chain s pos (lx pos .gap r) ∧ Chain s pos (lx pos .note r) ∧ ∀ (p : Nat) (w : List UInt8), p + w.length = pos → w ≠ [] → (s.drop p).take w.length = w → Chain s p (lx pos (.word p w) r) := by
  intro r
  induction r with
  | nil =>
    intro pos hd
    refine ⟨by simpa [lx, fin] using Chain.nil, by simpa [lx, fin] using Chain.nil, fun p w hp hw ht => ?_⟩
    simpa [lx, fin] using Chain.cons (Nat.le_refl p) hw ht .nil
  | cons c r ih =>
    intro pos hd
    have hd1 : s.drop (pos + 1) = r := by rw [← List.drop_drop, hd]; rfl
    obtain ⟨ih0, ih1, ih2⟩ := ih (pos + 1) hd1
    have one : (s.drop pos).take [c].length = [c] := by rw [hd]; rfl
    have h0 : Chain s pos (lx pos .gap (c :: r)) := by
      by_cases hsp : sp c = true
      · rw [lx_gap_sp hsp]; exact ih0.weak (by omega)
      · by_cases hsemi : c = 59
        · subst hsemi
          rw [lx_gap_semi]; exact ih1.weak (by omega)
        · by_cases hr : rnd c = true
          · rw [lx_gap_rnd (by simpa using hsp) hsemi hr]
            exact .cons (Nat.le_refl _) (by simp) one ih0
          · rw [lx_gap_word (by simp [brk, hsp, hr, hsemi])]
            exact ih2 pos [c] rfl (by simp) one
    refine ⟨h0, ?_, fun p w hp hw ht => ?_⟩
    · by_cases h10 : c = 10
      · subst h10
        rw [lx_note_nl]; exact ih0.weak (by omega)
      · rw [lx_note_on h10]; exact ih1.weak (by omega)
    · by_cases hb : brk c = true
      · rw [lx_word_brk hb]
        refine .cons (Nat.le_refl _) hw ht ?_
        rw [hp]
        exact h0
      · rw [lx_word_on (by simpa using hb)]
        exact ih2 p (w ++ [c]) (by simp; omega) (by simp) (take_at ht (by rw [hp]; exact hd))
theorem getElem?_of_take {s : List UInt8} {p : Nat} {c : UInt8} (h : (s.drop p).take 1 = [c]) : s[p]? = some c := by
  have : (s.drop p)[0]? = some c := by
    rw [← List.getElem?_take_of_lt (i := 0) (j := 1) (by decide), h]
    rfl
  simpa using this
theorem run2_stk (s : List UInt8) : ∀ (ws : List Wd) (e : Nat) (opn : List S39), Chain s e ws → Stk s e 0 opn → e ≤ s.length → (run2 ws opn).2 = none → Wn s 0 s.length (run2 ws opn).1
  | [], e, opn, hc, hs, he, hn => by
    unfold run2 at hn ⊢
    split at hn
    · cases hn
    · rename_i hl
      rw [if_neg hl]
      cases hs with
      | top h => exact h.mono he
      | more h1 h2 h3 h4 h5 => simp at hl
  | (w, p) :: ws, e, opn, hc, hs, he, hn => by
    cases hc with
    | cons h h0 h1 h2 =>
      have hle : p + w.length ≤ s.length := by
        have := congrArg List.length h1
        rw [List.length_take, List.length_drop] at this
        have := List.length_pos_iff.2 h0
        omega
      unfold run2 at hn ⊢
      unfold stp at hn ⊢
      by_cases h40 : w = [40]
      · subst h40
        rw [if_pos rfl] at hn ⊢
        by_cases hl : opn.length = 201
        · rw [if_pos hl] at hn; cases hn
        · rw [if_neg hl] at hn ⊢
          exact run2_stk s ws _ _ h2 (hs.push h (getElem?_of_take h1) rfl rfl rfl) hle hn
      · rw [if_neg h40] at hn ⊢
        by_cases h41 : w = [41]
        · subst h41
          rw [if_pos rfl] at hn ⊢
          by_cases hl : opn.length = 1
          · rw [if_pos hl] at hn; cases hn
          · rw [if_neg hl] at hn ⊢
            exact run2_stk s ws _ _ h2 (hs.shut (by omega) hl) hle hn
        · rw [if_neg h41] at hn ⊢
          exact run2_stk s ws _ _ h2 (hs.add (n := ⟨⟨w.toArray⟩, [], (p : Int)⟩) (.word (p := p) h0 rfl h h1 (.nil (Nat.le_refl _)))) hle hn
/-- The nodes of a text stand where their words are. -/
theorem nodes_at (s : List UInt8) (h : (nodes s).2 = none) : Wn s 0 s.length (nodes s).1 := by
  rw [nodes_eq] at h ⊢
  exact run2_stk s _ 0 _ (chain_lx s s 0 rfl).1 (.top (.nil (Nat.le_refl _))) (Nat.zero_le _) h
theorem nodes_err (s : List UInt8) (h : (nodes s).2 ≠ none) : (nodes s).1 = [] := by
  rw [nodes_eq] at h ⊢
  suffices ∀ (ws : List Wd) (opn : List S39), (run2 ws opn).2 ≠ none → (run2 ws opn).1 = [] from this _ _ h
  intro ws
  induction ws with
  | nil =>
    intro opn hn
    unfold run2 at hn ⊢
    split at hn
    · rename_i h; rw [if_pos h]
    · exact absurd rfl hn
  | cons w ws ih =>
    intro opn hn
    unfold run2 at hn ⊢
    split at hn
    · rfl
    · exact ih _ hn
end Go.Proofs.YthbiofcgaegjkaaDoor.TreeSpec
