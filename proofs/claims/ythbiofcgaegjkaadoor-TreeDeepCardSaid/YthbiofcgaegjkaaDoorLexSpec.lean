/- Plain facts on the words of a text, as a machine over its bytes; what the printed functions of lex and of the reference come to. No condition. -/
import Derived.Test.YthbiofcgaegjkaaDoorPTreeLx1
namespace Go.Proofs.YthbiofcgaegjkaaDoor.LexSpec
open Go.RowKit Go.Proofs.YthbiofcgaegjkaaDoor.ExtE Go.Proofs.YthbiofcgaegjkaaDoor.PTreeL Go.Proofs.YthbiofcgaegjkaaDoorW.PrintWords Go.Proofs.YthbiofcgaegjkaaDoorW.PrintLast
set_option linter.unusedVariables false
set_option linter.unusedSimpArgs false

/-! ### 1. The machine -/
def sp (c : UInt8) : Bool := c == 32 || c == 9 || c == 10 || c == 13
def rnd (c : UInt8) : Bool := c == 40 || c == 41
def brk (c : UInt8) : Bool := sp c || rnd c || c == 59
inductive St where
  | gap
  | note
  | word (p : Nat) (w : List UInt8)
abbrev Wd := List UInt8 × Nat
def open1 (pos : Nat) (c : UInt8) : List Wd × St :=
  if sp c = true then ([], .gap) else if c = 59 then ([], .note) else if rnd c = true then ([([c], pos)], .gap) else ([], .word pos [c])
def step (pos : Nat) : St → UInt8 → List Wd × St
  | .gap, c => open1 pos c
  | .note, c => if c = 10 then ([], .gap) else ([], .note)
  | .word p w, c => if brk c = true then ((w, p) :: (open1 pos c).1, (open1 pos c).2) else ([], .word p (w ++ [c]))
def fin : St → List Wd
  | .word p w => [(w, p)]
  | _ => []
def lx (pos : Nat) (st : St) : List UInt8 → List Wd
  | [] => fin st
  | c :: r => (step pos st c).1 ++ lx (pos + 1) (step pos st c).2 r

theorem lx_gap_sp {pos : Nat} {c : UInt8} {r : List UInt8} (h : sp c = true) : lx pos .gap (c :: r) = lx (pos + 1) .gap r := by
  simp [lx, step, open1, h]
theorem lx_gap_semi {pos : Nat} {r : List UInt8} : lx pos .gap (59 :: r) = lx (pos + 1) .note r := by
  simp [lx, step, open1, sp]
theorem lx_gap_rnd {pos : Nat} {c : UInt8} {r : List UInt8} (h0 : sp c = false) (h1 : c ≠ 59) (h : rnd c = true) : lx pos .gap (c :: r) = ([c], pos) :: lx (pos + 1) .gap r := by
  simp [lx, step, open1, h0, h1, h]
theorem lx_gap_word {pos : Nat} {c : UInt8} {r : List UInt8} (h : brk c = false) : lx pos .gap (c :: r) = lx (pos + 1) (.word pos [c]) r := by
  simp only [brk, Bool.or_eq_false_iff, beq_eq_false_iff_ne] at h
  simp [lx, step, open1, h]
theorem lx_note_nl {pos : Nat} {r : List UInt8} : lx pos .note (10 :: r) = lx (pos + 1) .gap r := by
  simp [lx, step]
theorem lx_note_on {pos : Nat} {c : UInt8} {r : List UInt8} (h : c ≠ 10) : lx pos .note (c :: r) = lx (pos + 1) .note r := by
  simp [lx, step, h]
theorem lx_word_on {pos p : Nat} {w : List UInt8} {c : UInt8} {r : List UInt8} (h : brk c = false) : lx pos (.word p w) (c :: r) = lx (pos + 1) (.word p (w ++ [c])) r := by
  simp [lx, step, h]
theorem lx_word_brk {pos p : Nat} {w : List UInt8} {c : UInt8} {r : List UInt8} (h : brk c = true) : lx pos (.word p w) (c :: r) = (w, p) :: lx pos .gap (c :: r) := by
  simp [lx, step, h]

/-! ### 2. Bytes -/
theorem ceq (c d : UInt8) : ((c.toNat : Int) = (d.toNat : Int)) ↔ c = d := by
  constructor
  · intro h
    exact UInt8.toNat_inj.mp (by omega)
  · rintro rfl
    rfl
theorem bt_get (s : ByteArray) (i : Nat) (h : i < s.size) : bt s (i : Int) = ((s[i]'h).toNat : Int) := by
  unfold bt
  rw [dif_pos (by simpa using h)]
  rfl
theorem drop_get (s : ByteArray) (i : Nat) (h : i < s.size) : s.data.toList.drop i = s[i] :: s.data.toList.drop (i + 1) := by
  rw [List.drop_eq_getElem_cons (by simpa using h)]
  rfl
theorem apart_eq (c : UInt8) : lex_apart.f (c.toNat : Int) = some (sp c) := by
  have e (d : UInt8) : ((c.toNat : Int) = (d.toNat : Int)) = (c = d) := propext (ceq c d)
  have e1 := e 32; have e2 := e 9; have e3 := e 10; have e4 := e 13
  simp only [lex_apart.f, sp]
  rw [show (32 : Int) = ((32 : UInt8).toNat : Int) from rfl, show (9 : Int) = ((9 : UInt8).toNat : Int) from rfl, show (10 : Int) = ((10 : UInt8).toNat : Int) from rfl, show (13 : Int) = ((13 : UInt8).toNat : Int) from rfl]
  by_cases h1 : c = 32
  · simp [h1]
  · by_cases h2 : c = 9
    · simp [h2]
    · by_cases h3 : c = 10
      · simp [h3]
      · by_cases h4 : c = 13
        · simp [h4]
        · have n1 : ¬ (c.toNat : Int) = ((32 : UInt8).toNat : Int) := by rw [e1]; exact h1
          have n2 : ¬ (c.toNat : Int) = ((9 : UInt8).toNat : Int) := by rw [e2]; exact h2
          have n3 : ¬ (c.toNat : Int) = ((10 : UInt8).toNat : Int) := by rw [e3]; exact h3
          have n4 : ¬ (c.toNat : Int) = ((13 : UInt8).toNat : Int) := by rw [e4]; exact h4
          rw [if_neg n1, if_neg n2, if_neg n3, beq_eq_false_iff_ne.mpr n4]
          simp [h1, h2, h3, h4]
theorem round_eq (c : UInt8) : lex_round.f (c.toNat : Int) = some (rnd c) := by
  have e (d : UInt8) : ((c.toNat : Int) = (d.toNat : Int)) = (c = d) := propext (ceq c d)
  have e1 := e 40; have e2 := e 41
  simp only [lex_round.f, rnd]
  rw [show (40 : Int) = ((40 : UInt8).toNat : Int) from rfl, show (41 : Int) = ((41 : UInt8).toNat : Int) from rfl]
  by_cases h1 : c = 40
  · simp [h1]
  · by_cases h2 : c = 41
    · simp [h2]
    · have n1 : ¬ (c.toNat : Int) = ((40 : UInt8).toNat : Int) := by rw [e1]; exact h1
      have n2 : ¬ (c.toNat : Int) = ((41 : UInt8).toNat : Int) := by rw [e2]; exact h2
      rw [if_neg n1, beq_eq_false_iff_ne.mpr n2]
      simp [h1, h2]
theorem c59 (c : UInt8) : ((c.toNat : Int) = 59) ↔ c = 59 := ceq c 59
theorem c10 (c : UInt8) : ((c.toNat : Int) = 10) ↔ c = 10 := ceq c 10
theorem c40 (c : UInt8) : ((c.toNat : Int) = 40) ↔ c = 40 := ceq c 40
theorem c41 (c : UInt8) : ((c.toNat : Int) = 41) ↔ c = 41 := ceq c 41
theorem wrap_in (i : Nat) (h : i ≤ 140737488351232) : wrap64 ((i : Int) + 1) = ((i + 1 : Nat) : Int) := by
  unfold wrap64
  omega
theorem ext_toList (s : ByteArray) (a b : Nat) : (s.extract a b).data.toList = (s.data.toList.take b).drop a := by
  simp [ByteArray.data_extract, List.extract_eq_take_drop, List.drop_take]
theorem ba_of (w : List UInt8) (s : ByteArray) (h : s.data.toList = w) : s = ⟨w.toArray⟩ := by
  subst h
  cases s
  rfl

/-! ### 3. lex.Words -/
def cv (x : Wd) : S46 := ⟨⟨x.1.toArray⟩, (x.2 : Int)⟩
theorem ext_ba (s : ByteArray) (p i : Nat) : s.extract ((p : Int)).toNat ((i : Int)).toNat = ⟨((s.data.toList.take i).drop p).toArray⟩ :=
  ba_of _ _ (by rw [Int.toNat_natCast, Int.toNat_natCast]; exact ext_toList s p i)
theorem take_one (s : ByteArray) (i : Nat) (h : i < s.size) : (s.data.toList.take (i + 1)).drop i = [s[i]] := by
  rw [List.drop_take, drop_get s i h]
  simp
theorem take_snoc (s : ByteArray) (p i : Nat) (hp : p ≤ i) (h : i < s.size) : (s.data.toList.take (i + 1)).drop p = (s.data.toList.take i).drop p ++ [s[i]] := by
  have e : s.data.toList.take (i + 1) = s.data.toList.take i ++ [s[i]] := by
    rw [List.take_succ_eq_append_getElem (by simpa using h)]
    rfl
  rw [e, List.drop_append_of_le_length (by simp; omega)]
theorem brk_false {c : UInt8} (h : brk c = false) : sp c = false ∧ rnd c = false ∧ c ≠ 59 := by
  simp only [brk, Bool.or_eq_false_iff, beq_eq_false_iff_ne] at h
  exact ⟨h.1.1, h.1.2, h.2⟩

theorem words_ev (s : ByteArray) (hs : s.size ≤ 65536) (n : Nat) : ∀ i : Nat, i + n = s.size →
    (∀ acc : List S46, acc.length ≤ i → Ev (fun k => lex_Words.l0 k s acc (i : Int)) (acc ++ (lx i .gap (s.data.toList.drop i)).map cv, none)) ∧
    (∀ acc : List S46, acc.length ≤ i → Ev (fun k => lex_Words.l1 k s acc (i : Int)) (acc ++ (lx i .note (s.data.toList.drop i)).map cv, none)) ∧
    (∀ (acc : List S46) (p : Nat), acc.length ≤ p → p < i → Ev (fun k => lex_Words.l2 k s acc (i : Int) (p : Int)) (acc ++ (lx i (.word p ((s.data.toList.take i).drop p)) (s.data.toList.drop i)).map cv, none)) := by
  induction n with
  | zero =>
    intro i hi
    have hge : ¬ ((i : Int) < (s.size : Int)) := by omega
    have hd : s.data.toList.drop i = [] := List.drop_eq_nil_of_le (by have : s.data.toList.length = s.size := data_length s; omega)
    have h0 : ∀ acc : List S46, acc.length ≤ i → Ev (fun k => lex_Words.l0 k s acc (i : Int)) (acc ++ (lx i .gap (s.data.toList.drop i)).map cv, none) := by
      intro acc ha
      rw [hd]
      refine Ev.step (f := fun _ => some (acc, none)) (fun k => ?_) (by simpa [lx, fin] using Ev.now _)
      simp only [lex_Words.l0]
      rw [if_neg hge]
    refine ⟨h0, fun acc ha => ?_, fun acc p ha hp => ?_⟩
    · have := h0 acc ha
      rw [hd] at this ⊢
      refine Ev.step (f := fun k => lex_Words.l0 k s acc (i : Int)) (fun k => ?_) (by simpa [lx, fin] using this)
      simp only [lex_Words.l1]
      rw [if_neg hge]
    · have := h0 (acc ++ [cv ((s.data.toList.take i).drop p, p)]) (by simp; omega)
      rw [hd] at this ⊢
      refine Ev.step (f := fun k => lex_Words.l0 k s (acc ++ [cv ((s.data.toList.take i).drop p, p)]) (i : Int)) (fun k => ?_) (by simpa [lx, fin] using this)
      simp only [lex_Words.l2]
      rw [if_neg hge, if_pos (by omega), if_pos (by omega), if_pos (by omega), if_pos (by omega), ext_ba]
      rfl
  | succ n ih =>
    intro i hi
    have hlt : i < s.size := by omega
    have hltI : (i : Int) < (s.size : Int) := by omega
    have h0I : (0 : Int) ≤ (i : Int) := by omega
    have hb := bt_get s i hlt
    have hd := drop_get s i hlt
    have hw := wrap_in i (by omega)
    generalize hc : s[i] = c at hb hd
    obtain ⟨ih0, ih1, ih2⟩ := ih (i + 1) (by omega)
    have h0 : ∀ acc : List S46, acc.length ≤ i → Ev (fun k => lex_Words.l0 k s acc (i : Int)) (acc ++ (lx i .gap (s.data.toList.drop i)).map cv, none) := by
      intro acc ha
      rw [hd]
      by_cases hsp : sp c = true
      · rw [lx_gap_sp hsp]
        refine Ev.step (fun k => ?_) (ih0 acc (by omega))
        simp only [lex_Words.l0]
        rw [if_pos hltI, if_pos h0I, hb, apart_eq, Option.bind_some, if_pos hsp, hw]
      · by_cases hsemi : c = 59
        · subst hsemi
          rw [lx_gap_semi]
          refine Ev.step (f := fun k => lex_Words.l1 k s acc (i : Int)) (fun k => ?_) (Ev.step (fun k => ?_) (ih1 acc (by omega)))
          · simp only [lex_Words.l0]
            rw [if_pos hltI, if_pos h0I, hb, apart_eq, Option.bind_some, if_neg hsp, if_pos ((c59 _).2 rfl)]
          · simp only [lex_Words.l1]
            rw [if_pos hltI, if_pos h0I, hb, if_neg (by rw [c10]; decide), hw]
        · by_cases hr : rnd c = true
          · rw [lx_gap_rnd (by simpa using hsp) hsemi hr]
            have := ih0 (acc ++ [cv ([c], i)]) (by simp; omega)
            refine Ev.step (fun k => ?_) (by simpa using this)
            simp only [lex_Words.l0]
            rw [if_pos hltI, if_pos h0I, hb, apart_eq, Option.bind_some, if_neg hsp, if_neg (by rw [c59]; exact hsemi), round_eq, Option.bind_some, if_pos hr, hw, if_pos (by omega), if_pos (by omega), if_pos (by omega), ext_ba, take_one s i hlt, hc]
            rfl
          · have hbk : brk c = false := by simp [brk, hsp, hr, hsemi]
            rw [lx_gap_word hbk]
            have := ih2 acc i ha (by omega)
            rw [take_one s i hlt, hc] at this
            refine Ev.step (f := fun k => lex_Words.l2 k s acc (i : Int) (i : Int)) (fun k => ?_) (Ev.step (fun k => ?_) this)
            · simp only [lex_Words.l0]
              rw [if_pos hltI, if_pos h0I, hb, apart_eq, Option.bind_some, if_neg hsp, if_neg (by rw [c59]; exact hsemi), round_eq, Option.bind_some, if_neg hr]
            · simp only [lex_Words.l2]
              rw [if_pos hltI, if_pos h0I, hb, apart_eq, Option.bind_some, if_neg hsp, round_eq, Option.bind_some, if_neg hr, if_neg (by rw [c59]; exact hsemi), hw]
    refine ⟨h0, fun acc ha => ?_, fun acc p ha hp => ?_⟩
    · by_cases hnl : c = 10
      · subst hnl
        have := h0 acc ha
        rw [hd, lx_gap_sp (by decide)] at this
        rw [hd, lx_note_nl]
        refine Ev.step (fun k => ?_) this
        simp only [lex_Words.l1]
        rw [if_pos hltI, if_pos h0I, hb, if_pos ((c10 _).2 rfl)]
      · rw [hd, lx_note_on hnl]
        refine Ev.step (fun k => ?_) (ih1 acc (by omega))
        simp only [lex_Words.l1]
        rw [if_pos hltI, if_pos h0I, hb, if_neg (by rw [c10]; exact hnl), hw]
    · by_cases hbk : brk c = true
      · have := h0 (acc ++ [cv ((s.data.toList.take i).drop p, p)]) (by simp; omega)
        rw [hd] at this ⊢
        rw [lx_word_brk hbk]
        refine Ev.step (f := fun k => lex_Words.l0 k s (acc ++ [cv ((s.data.toList.take i).drop p, p)]) (i : Int)) (fun k => ?_) (by simpa using this)
        simp only [lex_Words.l2]
        rw [if_pos hltI, if_pos h0I, hb, apart_eq, Option.bind_some]
        have e : (⟨s.extract ((p : Int)).toNat ((i : Int)).toNat, (p : Int)⟩ : S46) = cv ((s.data.toList.take i).drop p, p) := by rw [ext_ba]; rfl
        by_cases hsp : sp c = true
        · rw [if_pos hsp, if_pos (by omega), if_pos (by omega), if_pos (by omega), if_pos (by omega), e]
        · rw [if_neg hsp, round_eq, Option.bind_some]
          by_cases hr : rnd c = true
          · rw [if_pos hr, if_pos (by omega), if_pos (by omega), if_pos (by omega), if_pos (by omega), e]
          · have hsemi : c = 59 := by simpa [brk, hsp, hr] using hbk
            rw [if_neg hr, if_pos ((c59 _).2 hsemi), if_pos (by omega), if_pos (by omega), if_pos (by omega), if_pos (by omega), e]
      · have hbk' : brk c = false := by simpa using hbk
        obtain ⟨hsp, hr, hsemi⟩ := brk_false hbk'
        have := ih2 acc p ha (by omega)
        rw [take_snoc s p i (by omega) hlt, hc] at this
        rw [hd, lx_word_on hbk']
        refine Ev.step (fun k => ?_) this
        simp only [lex_Words.l2]
        rw [if_pos hltI, if_pos h0I, hb, apart_eq, Option.bind_some, if_neg (by simp [hsp]), round_eq, Option.bind_some, if_neg (by simp [hr]), if_neg (by rw [c59]; exact hsemi), hw]

/-- What lex.Words comes to. -/
theorem Words_ev (s : ByteArray) (hs : s.size ≤ 65536) : Ev (fun k => lex_Words.f k s) ((lx 0 .gap s.data.toList).map cv, none) := by
  have := (words_ev s hs s.size 0 (by omega)).1 [] (by simp)
  refine Ev.congr (fun k => ?_) (by simpa using this)
  unfold lex_Words.f
  rw [if_neg (by omega)]

/-! ### 4. Two texts, one behind the other; further on; notes -/
theorem lx_join (t : List UInt8) : ∀ (a : List UInt8) (pos : Nat) (st : St), lx pos st (a ++ 10 :: t) = lx pos st a ++ lx (pos + a.length + 1) .gap t
  | [], pos, st => by cases st <;> rfl
  | c :: a, pos, st => by
    have := lx_join t a (pos + 1) (step pos st c).2
    simp only [List.cons_append, lx, this, List.append_assoc, List.length_cons]
    rw [show pos + 1 + a.length + 1 = pos + (a.length + 1) + 1 from by omega]
def shSt (d : Nat) : St → St
  | .word p w => .word (p + d) w
  | s => s
def sh (d : Nat) (x : Wd) : Wd := (x.1, x.2 + d)
theorem open1_shift (d pos : Nat) (c : UInt8) : open1 (pos + d) c = ((open1 pos c).1.map (sh d), shSt d (open1 pos c).2) := by
  unfold open1
  repeat' split
  all_goals rfl
theorem step_shift (d pos : Nat) (st : St) (c : UInt8) : step (pos + d) (shSt d st) c = ((step pos st c).1.map (sh d), shSt d (step pos st c).2) := by
  cases st with
  | gap => exact open1_shift d pos c
  | note => simp only [step, shSt]; split <;> rfl
  | word p w =>
    simp only [step, shSt]
    split
    · rw [open1_shift]; rfl
    · rfl
theorem lx_shift (d : Nat) : ∀ (l : List UInt8) (pos : Nat) (st : St), lx (pos + d) (shSt d st) l = (lx pos st l).map (sh d)
  | [], pos, st => by cases st <;> rfl
  | c :: r, pos, st => by
    have := lx_shift d r (pos + 1) (step pos st c).2
    simp only [lx, step_shift, List.map_append, ← this]
    rw [show pos + d + 1 = pos + 1 + d from by omega]
theorem lx_gap_shift (d : Nat) (l : List UInt8) : lx d .gap l = (lx 0 .gap l).map (sh d) := by
  have := lx_shift d l 0 .gap
  rwa [Nat.zero_add] at this
theorem lx_note_shift (d : Nat) (l : List UInt8) : lx d .note l = (lx 0 .note l).map (sh d) := by
  have := lx_shift d l 0 .note
  rwa [Nat.zero_add] at this
def nlen (l : List UInt8) : Nat := (lx 0 .note l).length
theorem nlen_nl (r : List UInt8) : nlen (10 :: r) = (lx 0 .gap (10 :: r)).length := rfl
theorem nlen_on {c : UInt8} {r : List UInt8} (h : c ≠ 10) : nlen (c :: r) = nlen r := by
  unfold nlen
  rw [lx_note_on h, lx_note_shift]
  simp
theorem nlen_nil : nlen [] = 0 := rfl
theorem open1_pos (pos : Nat) (c : UInt8) : (∀ x ∈ (open1 pos c).1, x.2 ≤ pos) ∧ ∀ p w, (open1 pos c).2 = .word p w → p ≤ pos := by
  unfold open1
  repeat' split
  all_goals simp
theorem lx_pos : ∀ (l : List UInt8) (pos : Nat) (st : St), (∀ p w, st = .word p w → p ≤ pos) → ∀ x ∈ lx pos st l, x.2 ≤ pos + l.length
  | [], pos, st, h, x, hx => by
    cases st with
    | gap => simp [lx, fin] at hx
    | note => simp [lx, fin] at hx
    | word p w =>
      simp only [lx, fin, List.mem_singleton] at hx
      subst hx
      have := h p w rfl
      simp only
      omega
  | c :: r, pos, st, h, x, hx => by
    have ho := open1_pos pos c
    have hst : (∀ x ∈ (step pos st c).1, x.2 ≤ pos) ∧ ∀ p w, (step pos st c).2 = .word p w → p ≤ pos + 1 := by
      cases st with
      | gap => exact ⟨ho.1, fun p w e => Nat.le_succ_of_le (ho.2 p w e)⟩
      | note => simp only [step]; split <;> simp
      | word p w =>
        have hp := h p w rfl
        simp only [step]
        split
        · refine ⟨fun x hx => ?_, fun p w e => Nat.le_succ_of_le (ho.2 p w e)⟩
          rcases List.mem_cons.1 hx with rfl | hx
          · exact hp
          · exact ho.1 x hx
        · refine ⟨by simp, fun p' w' e => ?_⟩
          injection e with e1 e2
          omega
    simp only [lx, List.mem_append] at hx
    rcases hx with hx | hx
    · have := hst.1 x hx
      omega
    · have := lx_pos r (pos + 1) _ hst.2 x hx
      simp only [List.length_cons]
      omega
theorem lx_length : ∀ (l : List UInt8) (pos : Nat), (lx pos .gap l).length ≤ l.length ∧ (lx pos .note l).length ≤ l.length ∧ ∀ p w, (lx pos (.word p w) l).length ≤ l.length + 1
  | [], pos => ⟨Nat.le_refl _, Nat.le_refl _, fun _ _ => Nat.le_refl _⟩
  | c :: r, pos => by
    obtain ⟨h1, h2, h3⟩ := lx_length r (pos + 1)
    have ho : ((open1 pos c).1 ++ lx (pos + 1) (open1 pos c).2 r).length ≤ r.length + 1 := by
      unfold open1
      repeat' split
      all_goals simp
      all_goals first | omega | (have := h3 pos [c]; omega)
    refine ⟨ho, ?_, fun p w => ?_⟩
    · simp only [lx, step]
      split <;> simp <;> omega
    · simp only [lx, step]
      split
      · simpa using ho
      · simpa using Nat.le_succ_of_le (h3 p (w ++ [c]))
end Go.Proofs.YthbiofcgaegjkaaDoor.LexSpec
